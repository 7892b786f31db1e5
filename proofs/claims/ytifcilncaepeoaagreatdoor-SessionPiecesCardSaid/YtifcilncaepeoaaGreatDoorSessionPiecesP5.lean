/-
  A part of the proof of SessionPieces: The walks of this seat, printed by program: deed.Deed], deed.Deed], deed.Deed], deed.Deed], chans.Taker], chans.Taker], chans.Taker], chans.Taker], chans.Lent], chans.Lent], chans.Lent], chans.Lent], route.Shop], route.Shop], route.Bind], route.Bind]. The walks of this seat, printed by program: draft.Draft.Settles$1, draft.Draft.Settles, draft.clone, draft.Draft.check, stairwellref26.Settles, chans.New, chans.Chan.Credit, chans.Chan.Room, chans.Chan.of$1, chans.Chan.of, chans.Chan.Sure, chans.Chan.Put, chans.Chan.Number, chans.Chan.Draft, chans.Chan.Drafts, chans.Chan.Undo, stairwellref27.New, stairwellref27.Credit, stairwellref27.Room, stairwellref27.Sure, stairwellref27.Put, stairwellref27.Draft, stairwellref27.Undo. The walks of this seat, printed by program: route.put, route.Book.Make, route.Book.there. The walks of this seat, printed by program: route.Book.Bind, route.Book.Leads. The walks of this seat, printed by program: draft.Draft.Add, draft.Draft.At, stairwellref26.Add, stairwellref26.At, stairwelllaw22.All, stairwelllaw23.Light, stairwellref22.SameAll, chans.Chan.Take, chans.Chan.Leave, chans.Chan.Takers, chans.Chan.Lend, chans.Chan.Unsettled, chans.Chan.Settles, chans.Chan.Gone, stairwellref27.Take, stairwellref27.Leave, stairwellref27.Lend, stairwellref27.Open. The walks of this seat, printed by program: chans.Chan.Hold, chans.Chan.Held, stairwellref27.Settles, stairwellref27.Gone, stairwellref27.Hold, stairwellref27.Held. The walks of this seat, printed by program: stairwelllaw14.awake, stairwelllaw14.Awake, stairwelllaw22.awake, stairwelllaw22.Awake, stairwelllaw26.awake, stairwelllaw26.Awake, stairwelllaw27.awake, stairwelllaw27.Awake. The walks of this seat, printed by program: stairwelllaw27.Light, stairwelllaw27.settled, stairwelllaw27.done. The walks of this seat, printed by program: strings.ContainsAny, method.Method.tells, method.Method.spare, method.Same, stairwellref11.Same, stairwellref11.Of. The walks of this seat, printed by program: method.Method.one, method.Method.Check, stairwelllaw11.To, stairwelllaw11.Light, stairwellref11.Check, stairwellref01.In.Fail. The walks of this seat, printed by program: method.Method.Frame, stairwellref01.In.Raw. The walks of this seat, printed by program: stairwellref01.In.Num, stairwellref01.In.End, method.Of. The walks of this seat, printed by program: stairwellref01.In.Text. The walks of this seat, printed by program: stairwellref09.Read. The walks of this seat, printed by program: stairwellref11.Parse. The walks of this seat, printed by program: stairwelllaw11.awake. The walks of this seat, printed by program: strings.Builder.copyCheck. The walks of this seat, printed by program: stairwelllaw12.All. The walks of this seat, printed by program: stairwelllaw08.awake, stairwelllaw08.Awake, stairwelllaw12.awake, stairwelllaw12.Awake. The walks of this seat, printed by program: session.New, session.answer, session.put, session.back, session.at, session.own, session.Session.Begun, session.S
-/
import Derived.Test.YtifcilncaepeoaaGreatDoorProg
import Derived.Test.YtifcilncaepeoaaGreatDoorSessionPiecesP2
import Derived.Test.YtifcilncaepeoaaGreatDoorSessionPiecesP3
import Derived.KernelRfl
import Derived.Test.YtifcilncaepeoaaGreatDoorSessionPiecesP4
import Derived.Test.YtifcilncaepeoaaGreatDoorSessionPiecesP1
set_option linter.unusedVariables false
set_option linter.unusedSimpArgs false
set_option linter.unusedVariables false
set_option maxRecDepth 100000
set_option maxHeartbeats 4000000
namespace Go.SW.V
open Go.SW Go.Proofs
theorem cb137:U_ Tryz.prog 137:=S_ Tryz.func137 (by kernel_rfl) (by kernel_rfl)
theorem cb176:U_ Tryz.prog 176:=S_ Tryz.func176 (by kernel_rfl) (by kernel_rfl)
theorem cb279:U_ Tryz.prog 279:=S_ Tryz.func279 (by kernel_rfl) (by kernel_rfl)
theorem cb282:U_ Tryz.prog 282:=S_ Tryz.func282 (by kernel_rfl) (by kernel_rfl)
theorem cb92:U_ Tryz.prog 92:=S_ Tryz.func92 (by kernel_rfl) (by kernel_rfl)
theorem eqg39:Tryz.prog.eqGuardType Tryz.prog.depth 39=false:=by kernel_rfl
theorem veq39 (p q:LentR):∀ (H:Hp) (vs us:List Value),Sims H (LentR.pc p) vs→Sims H (LentR.pc q) us→EqV Tryz.prog 10000 39 (.agg vs.toArray) (.agg us.toArray) (decide (p=q)):=by
  intro H vs us hv hu;obtain ⟨_,_,rfl,v0,v_0⟩:=hv.inv_cons;obtain ⟨_,_,rfl,v1,v_1⟩:=v_0.inv_cons
  cases v_1.inv_nil
  cases v0.inv_int.1;cases v1.inv_str.1
  obtain ⟨_,_,rfl,u0,u_0⟩:=hu.inv_cons;obtain ⟨_,_,rfl,u1,u_1⟩:=u_0.inv_cons
  cases u_1.inv_nil
  cases u0.inv_int.1;cases u1.inv_str.1
  exact EqV.to (Nj_ Tryz.underlying39 (by kernel_rfl) (I0_ (by decide) ag27 rfl rfl (I5_ Tryz.underlying27) (I0_ (by decide) ag9 rfl rfl (Hp_ Tryz.underlying9) Nd_))) (by obtain ⟨a0,a1⟩:=p;obtain ⟨b0,b1⟩:=q;rw [Bool.eq_iff_iff];simp)
abbrev ty25:TI:=⟨.slc 151,1,24,[.sl V_.pc []]⟩
abbrev ty26:TI:=⟨.slc 39,1,24,[.sl LentR.pc []]⟩
abbrev ty28:TI:=⟨.slc 53,1,24,[.sl DeedR.pc []]⟩
abbrev ty39:TI:=⟨.agg [(0,1),(1,1)],2,24,[.int .u64 0, .str []]⟩
abbrev Yh_:TI:=⟨.agg [(0,1),(1,1)],2,24,[.int .u64 0, .str []]⟩
abbrev ty187:TI:=⟨.slc 26,1,24,[.sl (slc LentR.pc) []]⟩
abbrev ty242:TI:=⟨.slc 25,1,24,[.sl (slc V_.pc) []]⟩
abbrev ty280:TI:=⟨.slc 28,1,24,[.sl (slc DeedR.pc) []]⟩
abbrev ty371:TI:=⟨.slc 339,1,24,[.sl (slc ShopR.pc) []]⟩
abbrev ty375:TI:=⟨.slc 340,1,24,[.sl (slc BindR.pc) []]⟩
def tbv40:Tb:=[(3,ty3),(25,ty25),(26,ty26),(28,ty28),(39,ty39),(44,ty44),(49,ty49),(53,ty53),(151,Yh_),(187,ty187),(242,ty242),(280,ty280),(339,ty339),(340,Xb_),(371,ty371),(375,ty375)]
theorem tv40:tbB Tryz.prog tbv40=true:=by kernel_rfl
theorem T8_ (n:Int) (hn:0≤n∧n≤100000000:=by omega):Fo Tryz.prog gb 176 [.val (.slice none 0 0), .int .i64 n] (fun u=> .val u) 29 53 DeedR.pc ([]:List DeedR):=by
  refine Lj_ tv40 Tryz.func176 rfl Tryz.ntmps176 rfl cb176 (fun _=>rfl) rfl fun w N H hG=>?_;refine gx tv40 12 ?_;refine cnd rfl (fun h1=>?_) (fun h1=>?_)
  · have p2:=dt h1
    exfalso;omega
  have p3:=df h1;refine gx tv40 7 ?_;refine q1 (qcap0 tv40 rfl rfl rfl) rfl fun w4=>?_;refine gx tv40 1 ?_;refine q1 (qlen0 tv40 rfl rfl rfl) rfl fun w5=>?_;refine gy tv40 11 ?_;refine cnd rfl (fun h6=>?_) (fun h6=>?_)
  · have p7:=dt h6;refine gx tv40 3 ?_;refine q1 (qcap0 tv40 rfl rfl rfl) rfl fun w8=>?_;refine q1 (qcut0 tv40 rfl rfl rfl rfl rfl (by omega)) rfl fun w9=>?_;refine gx tv40 1 ?_;refine ef (appz (m:=((n-(0-0))).toNat) 0 tv40 rfl rfl rfl rfl rfl rfl rfl rfl rfl rfl (by omega) (by omega) (by (try simp only []);omega) rfl rfl fun u10=>?_);refine gx tv40 1 ?_;refine q1 (qlen0 tv40 rfl rfl rfl) rfl fun w11=>?_;refine ef (ocut DeedR.pc tv40 rfl rfl rfl rfl rfl rfl (by omega) rfl fun u12=>?_);refine gx tv40 9 ?_;refine sw_val (t:=4) (i:=0) rfl rfl ?_;refine gx tv40 1 ?_;refine ro1 (j:=0) rfl rfl rfl ?_
    rfl
  have p13:=df h6;refine gx tv40 8 ?_;refine sw_own (t:=4) (k:=29) (e:=53) 0 DeedR.pc rfl rfl ?_;refine sw_val (t:=4) (i:=0) rfl rfl ?_;refine gx tv40 1 ?_;refine ro1 (j:=0) rfl rfl rfl ?_
  rfl
theorem Pv_ (ls:List (List DeedR)) (hl:ls.flatten.length≤100000000:=by first | omega | (simp;done) | (simp;omega) | (simp only [List.flatten_cons,List.flatten_nil,List.length_append,List.append_nil];simp;omega)):Fn Tryz.prog gb 140 [.sl (slc DeedR.pc) ls] (.sl DeedR.pc ls.flatten):=by
  refine fC Tryz.func140 tv40 Tryz.ntmps140 fun w N H hG=>?_;have ls_l:ls.length≤140737488355328:=w.1.1;refine gx tv40 19 ?_;refine loop (ι:=Nat×Int) [0,2,9,10] [] (fun ⟨k,n⟩=>[(3, .int .i64 n),(11, .int .i64 (k:Int))]) (fun ⟨k,n⟩=>[]) (fun ⟨k,n⟩=>k≤ls.length∧n=((ls.take k).flatten.length:Int)) (fun ⟨k,n⟩=>ls.length-k) ⟨0,0⟩ ⟨rfl,rfl,trivial⟩ trivial ?_ ?_
  · exact ⟨Nat.zero_le _,by simp⟩
  rintro ⟨k,n⟩ hp1;obtain ⟨hk1,hk2⟩:=hp1;have hg0:=Bm_ ls k;refine gx tv40 6 ?_;refine cnd rfl (fun h2=>?_) (fun h2=>?_)
  · have p3:=dt h2;obtain ⟨c4,hc5⟩:=getE (xs:=ls) (m:=k) (by omega);refine gx tv40 6 ?_;refine q1 (qidx tv40 k rfl rfl rfl hc5 rfl rfl rfl rfl) rfl fun w6=>?_;refine go tv40 19 rfl rfl ⟨(by have hg:=Bm_ ls (k+1);have hfl:=congrArg List.length (Ag_ (by assumption :ls[k]? = some _));simp only [List.length_append] at hfl;omega),trivial⟩ ?_;refine cnd rfl (fun h7=>?_) (fun h7=>?_)
    · have p8:=dt h7
      exfalso;omega
    have p9:=df h7;refine go tv40 7 rfl rfl ⟨(by have hg:=Bm_ ls (k+1);have hfl:=congrArg List.length (Ag_ (by assumption :ls[k]? = some _));simp only [List.length_append] at hfl;omega),trivial⟩ ?_;refine next ⟨(k+1),(n+(c4.length:Int))⟩ rfl rfl ⟨rfl,rfl,trivial⟩ trivial ?_ ?_
    · (try simp only []);omega
    have hf:=Ag_ hc5;have hg:=Bm_ ls (k+1);have hfl:=congrArg List.length hf
    simp only [List.length_append] at hfl
    exact ⟨by omega,by (try simp only []);omega⟩
  have p10:=df h2;refine gx tv40 8 ?_;refine ef (ecallo 0 (T8_ _) rfl rfl fun u12 w11=>?_);refine gx tv40 12 ?_;refine sw_osl (t:=6) 0 rfl rfl ?_;refine loop (ι:=Nat×(List DeedR)×Value) [0,2,3,9,10,11,12,23,24,25,26] [] (fun ⟨k,out,u_out⟩=>[(6, .osl 0),(27, .int .i64 (k:Int))]) (fun ⟨k,out,u_out⟩=>[(0, .arr u_out 29 53 DeedR.pc out)]) (fun ⟨k,out,u_out⟩=>k≤ls.length∧out=(ls.take k).flatten) (fun ⟨k,out,u_out⟩=>ls.length-k) ⟨0,([]:List DeedR),(u12)⟩ ⟨rfl,rfl,trivial⟩ ⟨rfl,trivial⟩ ?_ ?_
  · exact ⟨Nat.zero_le _,by simp⟩
  rintro ⟨k,out,u_out⟩ hp13;obtain ⟨hk1,hk2⟩:=hp13;refine gx tv40 6 ?_;refine cnd rfl (fun h14=>?_) (fun h14=>?_)
  · have p15:=dt h14;obtain ⟨c16,hc17⟩:=getE (xs:=ls) (m:=k) (by omega);refine gx tv40 6 ?_;refine q1 (qidx tv40 k rfl rfl rfl hc17 rfl rfl rfl rfl) rfl fun w18=>?_;refine gx tv40 7 ?_;refine ef (app tv40 c16 rfl rfl rfl rfl rfl rfl rfl rfl rfl (src_l rfl (fun _=>rfl)) (by have hg:=Bm_ ls (k+1);have hfl:=congrArg List.length (Ag_ (by assumption :ls[k]? = some _));simp only [List.length_append] at hfl;subst hk2;(try simp only []);omega) rfl fun u19=>?_);refine go tv40 8 rfl rfl ⟨(by have hg:=Bm_ ls (k+1);have hfl:=congrArg List.length (Ag_ (by assumption :ls[k]? = some _));simp only [List.length_append] at hfl;omega),trivial⟩ ?_;refine next ⟨(k+1),(out++c16),(u19)⟩ rfl rfl ⟨rfl,rfl,trivial⟩ ⟨rfl,trivial⟩ ?_ ?_
    · (try simp only []);omega
    exact ⟨by omega,by (try simp only []);rw [Ag_ hc17,hk2]⟩
  have p20:=df h14;refine gx tv40 11 ?_;refine givec 0 rfl ?_;refine gx tv40 1 ?_;refine rt1 rfl rfl ?_;refine ple ?_
  rw [hk2,Gj_ (by omega)]
theorem Tf_ (s:List DeedR) (f:FuncId) (f_fst f_cap:List PV) (f_p:DeedR→Bool) (f_h:∀ x,Fn Tryz.prog gb f (argsP.apL f_fst ((.agg (DeedR.pc x))::f_cap)) (.bool (f_p x))):Fn Tryz.prog gb 134 [.sl DeedR.pc s, .fn f f_fst f_cap] (.int .i64 (idxP f_p s)):=by
  refine fC Tryz.func134 tv40 Tryz.ntmps134 fun w N H hG=>?_;have s_l:s.length≤140737488355328:=w.1.1;refine gx tv40 14 ?_;refine loop (ι:=Nat) [0,1,6,7] [] (fun k=>[(8, .int .i64 (k:Int))]) (fun k=>[]) (fun k=>k≤s.length∧idxP f_p s=idxF f_p k (s.drop k)) (fun k=>s.length-k) 0 ⟨rfl,trivial⟩ trivial ?_ ?_
  · exact ⟨Nat.zero_le _,rfl⟩
  rintro k hp1;obtain ⟨hk1,hk2⟩:=hp1;refine gx tv40 6 ?_;refine cnd rfl (fun h2=>?_) (fun h2=>?_)
  · have p3:=dt h2;obtain ⟨c4,hc5⟩:=getE (xs:=s) (m:=k) (by omega);have c4_w:=DeedR.pwf (w.1.2 c4 (List.mem_of_getElem? hc5));refine gx tv40 15 ?_;refine q1 (qidx tv40 k rfl rfl rfl hc5 rfl rfl rfl rfl) rfl fun w6=>?_;refine gx tv40 1 ?_;refine call (f_h c4) rfl rfl fun w7=>?_;refine gx tv40 2 ?_;refine cnd rfl (fun h8=>?_) (fun h8=>?_)
    · refine gx tv40 12 ?_;refine rt1 rfl rfl ?_;refine ple ?_;exact congrArg (PV.int .i64) (Iu_ hk2 (Cj_ hc5) (by assumption)).symm
    refine gy tv40 7 ?_;refine next (k+1) rfl rfl ⟨rfl,trivial⟩ trivial ?_ ?_
    · omega
    exact ⟨by omega,G3_ hk2 (Cj_ hc5) (by assumption)⟩
  have p9:=df h2;refine gx tv40 11 ?_;refine rt1 rfl rfl ?_;refine ple ?_;exact congrArg (PV.int .i64) (I2_ hk2 (by omega)).symm
theorem cF_Deed (s:List DeedR) (f:FuncId) (f_fst f_cap:List PV) (f_p:DeedR→Bool) (f_h:∀ x,Fn Tryz.prog gb f (argsP.apL f_fst ((.agg (DeedR.pc x))::f_cap)) (.bool (f_p x))):Fn Tryz.prog gb 93 [.sl DeedR.pc s, .fn f f_fst f_cap] (.bool (decide (0≤idxP f_p s))):=by
  refine fC Tryz.func93 tv40 Tryz.ntmps93 fun w N H hG=>?_;refine gx tv40 9 ?_;refine call (Tf_ _ f f_fst f_cap f_p f_h) rfl rfl fun w1=>?_;have hix1:=Ko_ f_p s;refine gx tv40 5 ?_;refine rt1 rfl rfl ?_;refine ple ?_
  rfl
theorem Sz_ (n:Int) (hn:0≤n∧n≤100000000:=by omega):Fo Tryz.prog gb 137 [.val (.slice none 0 0), .int .i64 n] (fun u=> .val u) 2 151 V_.pc ([]:List V_):=by
  refine Lj_ tv40 Tryz.func137 rfl Tryz.ntmps137 rfl cb137 (fun _=>rfl) rfl fun w N H hG=>?_;refine gx tv40 12 ?_;refine cnd rfl (fun h1=>?_) (fun h1=>?_)
  · have p2:=dt h1
    exfalso;omega
  have p3:=df h1;refine gx tv40 7 ?_;refine q1 (qcap0 tv40 rfl rfl rfl) rfl fun w4=>?_;refine gx tv40 1 ?_;refine q1 (qlen0 tv40 rfl rfl rfl) rfl fun w5=>?_;refine gy tv40 11 ?_;refine cnd rfl (fun h6=>?_) (fun h6=>?_)
  · have p7:=dt h6;refine gx tv40 3 ?_;refine q1 (qcap0 tv40 rfl rfl rfl) rfl fun w8=>?_;refine q1 (qcut0 tv40 rfl rfl rfl rfl rfl (by omega)) rfl fun w9=>?_;refine gx tv40 1 ?_;refine ef (appz (m:=((n-(0-0))).toNat) 0 tv40 rfl rfl rfl rfl rfl rfl rfl rfl rfl rfl (by omega) (by omega) (by (try simp only []);omega) rfl rfl fun u10=>?_);refine gx tv40 1 ?_;refine q1 (qlen0 tv40 rfl rfl rfl) rfl fun w11=>?_;refine ef (ocut V_.pc tv40 rfl rfl rfl rfl rfl rfl (by omega) rfl fun u12=>?_);refine gx tv40 9 ?_;refine sw_val (t:=4) (i:=0) rfl rfl ?_;refine gx tv40 1 ?_;refine ro1 (j:=0) rfl rfl rfl ?_
    rfl
  have p13:=df h6;refine gx tv40 8 ?_;refine sw_own (t:=4) (k:=2) (e:=151) 0 V_.pc rfl rfl ?_;refine sw_val (t:=4) (i:=0) rfl rfl ?_;refine gx tv40 1 ?_;refine ro1 (j:=0) rfl rfl rfl ?_
  rfl
theorem Jj_ (ls:List (List V_)) (hl:ls.flatten.length≤100000000:=by first | omega | (simp;done) | (simp;omega) | (simp only [List.flatten_cons,List.flatten_nil,List.length_append,List.append_nil];simp;omega)):Fn Tryz.prog gb 96 [.sl (slc V_.pc) ls] (.sl V_.pc ls.flatten):=by
  refine fC Tryz.func96 tv40 Tryz.ntmps96 fun w N H hG=>?_;have ls_l:ls.length≤140737488355328:=w.1.1;refine gx tv40 19 ?_;refine loop (ι:=Nat×Int) [0,2,9,10] [] (fun ⟨k,n⟩=>[(3, .int .i64 n),(11, .int .i64 (k:Int))]) (fun ⟨k,n⟩=>[]) (fun ⟨k,n⟩=>k≤ls.length∧n=((ls.take k).flatten.length:Int)) (fun ⟨k,n⟩=>ls.length-k) ⟨0,0⟩ ⟨rfl,rfl,trivial⟩ trivial ?_ ?_
  · exact ⟨Nat.zero_le _,by simp⟩
  rintro ⟨k,n⟩ hp1;obtain ⟨hk1,hk2⟩:=hp1;have hg0:=Bm_ ls k;refine gx tv40 6 ?_;refine cnd rfl (fun h2=>?_) (fun h2=>?_)
  · have p3:=dt h2;obtain ⟨c4,hc5⟩:=getE (xs:=ls) (m:=k) (by omega);refine gx tv40 6 ?_;refine q1 (qidx tv40 k rfl rfl rfl hc5 rfl rfl rfl rfl) rfl fun w6=>?_;refine go tv40 19 rfl rfl ⟨(by have hg:=Bm_ ls (k+1);have hfl:=congrArg List.length (Ag_ (by assumption :ls[k]? = some _));simp only [List.length_append] at hfl;omega),trivial⟩ ?_;refine cnd rfl (fun h7=>?_) (fun h7=>?_)
    · have p8:=dt h7
      exfalso;omega
    have p9:=df h7;refine go tv40 7 rfl rfl ⟨(by have hg:=Bm_ ls (k+1);have hfl:=congrArg List.length (Ag_ (by assumption :ls[k]? = some _));simp only [List.length_append] at hfl;omega),trivial⟩ ?_;refine next ⟨(k+1),(n+(c4.length:Int))⟩ rfl rfl ⟨rfl,rfl,trivial⟩ trivial ?_ ?_
    · (try simp only []);omega
    have hf:=Ag_ hc5;have hg:=Bm_ ls (k+1);have hfl:=congrArg List.length hf
    simp only [List.length_append] at hfl
    exact ⟨by omega,by (try simp only []);omega⟩
  have p10:=df h2;refine gx tv40 8 ?_;refine ef (ecallo 0 (Sz_ _) rfl rfl fun u12 w11=>?_);refine gx tv40 12 ?_;refine sw_osl (t:=6) 0 rfl rfl ?_;refine loop (ι:=Nat×(List V_)×Value) [0,2,3,9,10,11,12,23,24,25,26] [] (fun ⟨k,out,u_out⟩=>[(6, .osl 0),(27, .int .i64 (k:Int))]) (fun ⟨k,out,u_out⟩=>[(0, .arr u_out 2 151 V_.pc out)]) (fun ⟨k,out,u_out⟩=>k≤ls.length∧out=(ls.take k).flatten) (fun ⟨k,out,u_out⟩=>ls.length-k) ⟨0,([]:List V_),(u12)⟩ ⟨rfl,rfl,trivial⟩ ⟨rfl,trivial⟩ ?_ ?_
  · exact ⟨Nat.zero_le _,by simp⟩
  rintro ⟨k,out,u_out⟩ hp13;obtain ⟨hk1,hk2⟩:=hp13;refine gx tv40 6 ?_;refine cnd rfl (fun h14=>?_) (fun h14=>?_)
  · have p15:=dt h14;obtain ⟨c16,hc17⟩:=getE (xs:=ls) (m:=k) (by omega);refine gx tv40 6 ?_;refine q1 (qidx tv40 k rfl rfl rfl hc17 rfl rfl rfl rfl) rfl fun w18=>?_;refine gx tv40 7 ?_;refine ef (app tv40 c16 rfl rfl rfl rfl rfl rfl rfl rfl rfl (src_l rfl (fun _=>rfl)) (by have hg:=Bm_ ls (k+1);have hfl:=congrArg List.length (Ag_ (by assumption :ls[k]? = some _));simp only [List.length_append] at hfl;subst hk2;(try simp only []);omega) rfl fun u19=>?_);refine go tv40 8 rfl rfl ⟨(by have hg:=Bm_ ls (k+1);have hfl:=congrArg List.length (Ag_ (by assumption :ls[k]? = some _));simp only [List.length_append] at hfl;omega),trivial⟩ ?_;refine next ⟨(k+1),(out++c16),(u19)⟩ rfl rfl ⟨rfl,rfl,trivial⟩ ⟨rfl,trivial⟩ ?_ ?_
    · (try simp only []);omega
    exact ⟨by omega,by (try simp only []);rw [Ag_ hc17,hk2]⟩
  have p20:=df h14;refine gx tv40 11 ?_;refine givec 0 rfl ?_;refine gx tv40 1 ?_;refine rt1 rfl rfl ?_;refine ple ?_
  rw [hk2,Gj_ (by omega)]
theorem Rz_ (s:List V_) (f:FuncId) (f_fst f_cap:List PV) (f_p:V_→Bool) (f_h:∀ x,Fn Tryz.prog gb f (argsP.apL f_fst ((.agg (V_.pc x))::f_cap)) (.bool (f_p x))):Fn Tryz.prog gb 135 [.sl V_.pc s, .fn f f_fst f_cap] (.int .i64 (idxP f_p s)):=by
  refine fC Tryz.func135 tv40 Tryz.ntmps135 fun w N H hG=>?_;have s_l:s.length≤140737488355328:=w.1.1;refine gx tv40 14 ?_;refine loop (ι:=Nat) [0,1,6,7] [] (fun k=>[(8, .int .i64 (k:Int))]) (fun k=>[]) (fun k=>k≤s.length∧idxP f_p s=idxF f_p k (s.drop k)) (fun k=>s.length-k) 0 ⟨rfl,trivial⟩ trivial ?_ ?_
  · exact ⟨Nat.zero_le _,rfl⟩
  rintro k hp1;obtain ⟨hk1,hk2⟩:=hp1;refine gx tv40 6 ?_;refine cnd rfl (fun h2=>?_) (fun h2=>?_)
  · have p3:=dt h2;obtain ⟨c4,hc5⟩:=getE (xs:=s) (m:=k) (by omega);refine gx tv40 15 ?_;refine q1 (qidx tv40 k rfl rfl rfl hc5 rfl rfl rfl rfl) rfl fun w6=>?_;refine gx tv40 1 ?_;refine call (f_h c4) rfl rfl fun w7=>?_;refine gx tv40 2 ?_;refine cnd rfl (fun h8=>?_) (fun h8=>?_)
    · refine gx tv40 12 ?_;refine rt1 rfl rfl ?_;refine ple ?_;exact congrArg (PV.int .i64) (Iu_ hk2 (Cj_ hc5) (by assumption)).symm
    refine gy tv40 7 ?_;refine next (k+1) rfl rfl ⟨rfl,trivial⟩ trivial ?_ ?_
    · omega
    exact ⟨by omega,G3_ hk2 (Cj_ hc5) (by assumption)⟩
  have p9:=df h2;refine gx tv40 11 ?_;refine rt1 rfl rfl ?_;refine ple ?_;exact congrArg (PV.int .i64) (I2_ hk2 (by omega)).symm
theorem Vf_ (n:Int) (hn:0≤n∧n≤100000000:=by omega):Fo Tryz.prog gb 92 [.val (.slice none 0 0), .int .i64 n] (fun u=> .val u) 2 39 LentR.pc ([]:List LentR):=by
  refine Lj_ tv40 Tryz.func92 rfl Tryz.ntmps92 rfl cb92 (fun _=>rfl) rfl fun w N H hG=>?_;refine gx tv40 12 ?_;refine cnd rfl (fun h1=>?_) (fun h1=>?_)
  · have p2:=dt h1
    exfalso;omega
  have p3:=df h1;refine gx tv40 7 ?_;refine q1 (qcap0 tv40 rfl rfl rfl) rfl fun w4=>?_;refine gx tv40 1 ?_;refine q1 (qlen0 tv40 rfl rfl rfl) rfl fun w5=>?_;refine gy tv40 11 ?_;refine cnd rfl (fun h6=>?_) (fun h6=>?_)
  · have p7:=dt h6;refine gx tv40 3 ?_;refine q1 (qcap0 tv40 rfl rfl rfl) rfl fun w8=>?_;refine q1 (qcut0 tv40 rfl rfl rfl rfl rfl (by omega)) rfl fun w9=>?_;refine gx tv40 1 ?_;refine ef (appz (m:=((n-(0-0))).toNat) 0 tv40 rfl rfl rfl rfl rfl rfl rfl rfl rfl rfl (by omega) (by omega) (by (try simp only []);omega) rfl rfl fun u10=>?_);refine gx tv40 1 ?_;refine q1 (qlen0 tv40 rfl rfl rfl) rfl fun w11=>?_;refine ef (ocut LentR.pc tv40 rfl rfl rfl rfl rfl rfl (by omega) rfl fun u12=>?_);refine gx tv40 9 ?_;refine sw_val (t:=4) (i:=0) rfl rfl ?_;refine gx tv40 1 ?_;refine ro1 (j:=0) rfl rfl rfl ?_
    rfl
  have p13:=df h6;refine gx tv40 8 ?_;refine sw_own (t:=4) (k:=2) (e:=39) 0 LentR.pc rfl rfl ?_;refine sw_val (t:=4) (i:=0) rfl rfl ?_;refine gx tv40 1 ?_;refine ro1 (j:=0) rfl rfl rfl ?_
  rfl
theorem K5_ (ls:List (List LentR)) (hl:ls.flatten.length≤100000000:=by first | omega | (simp;done) | (simp;omega) | (simp only [List.flatten_cons,List.flatten_nil,List.length_append,List.append_nil];simp;omega)):Fn Tryz.prog gb 40 [.sl (slc LentR.pc) ls] (.sl LentR.pc ls.flatten):=by
  refine fC Tryz.func40 tv40 Tryz.ntmps40 fun w N H hG=>?_;have ls_l:ls.length≤140737488355328:=w.1.1;refine gx tv40 19 ?_;refine loop (ι:=Nat×Int) [0,2,9,10] [] (fun ⟨k,n⟩=>[(3, .int .i64 n),(11, .int .i64 (k:Int))]) (fun ⟨k,n⟩=>[]) (fun ⟨k,n⟩=>k≤ls.length∧n=((ls.take k).flatten.length:Int)) (fun ⟨k,n⟩=>ls.length-k) ⟨0,0⟩ ⟨rfl,rfl,trivial⟩ trivial ?_ ?_
  · exact ⟨Nat.zero_le _,by simp⟩
  rintro ⟨k,n⟩ hp1;obtain ⟨hk1,hk2⟩:=hp1;have hg0:=Bm_ ls k;refine gx tv40 6 ?_;refine cnd rfl (fun h2=>?_) (fun h2=>?_)
  · have p3:=dt h2;obtain ⟨c4,hc5⟩:=getE (xs:=ls) (m:=k) (by omega);refine gx tv40 6 ?_;refine q1 (qidx tv40 k rfl rfl rfl hc5 rfl rfl rfl rfl) rfl fun w6=>?_;refine go tv40 19 rfl rfl ⟨(by have hg:=Bm_ ls (k+1);have hfl:=congrArg List.length (Ag_ (by assumption :ls[k]? = some _));simp only [List.length_append] at hfl;omega),trivial⟩ ?_;refine cnd rfl (fun h7=>?_) (fun h7=>?_)
    · have p8:=dt h7
      exfalso;omega
    have p9:=df h7;refine go tv40 7 rfl rfl ⟨(by have hg:=Bm_ ls (k+1);have hfl:=congrArg List.length (Ag_ (by assumption :ls[k]? = some _));simp only [List.length_append] at hfl;omega),trivial⟩ ?_;refine next ⟨(k+1),(n+(c4.length:Int))⟩ rfl rfl ⟨rfl,rfl,trivial⟩ trivial ?_ ?_
    · (try simp only []);omega
    have hf:=Ag_ hc5;have hg:=Bm_ ls (k+1);have hfl:=congrArg List.length hf
    simp only [List.length_append] at hfl
    exact ⟨by omega,by (try simp only []);omega⟩
  have p10:=df h2;refine gx tv40 8 ?_;refine ef (ecallo 0 (Vf_ _) rfl rfl fun u12 w11=>?_);refine gx tv40 12 ?_;refine sw_osl (t:=6) 0 rfl rfl ?_;refine loop (ι:=Nat×(List LentR)×Value) [0,2,3,9,10,11,12,23,24,25,26] [] (fun ⟨k,out,u_out⟩=>[(6, .osl 0),(27, .int .i64 (k:Int))]) (fun ⟨k,out,u_out⟩=>[(0, .arr u_out 2 39 LentR.pc out)]) (fun ⟨k,out,u_out⟩=>k≤ls.length∧out=(ls.take k).flatten) (fun ⟨k,out,u_out⟩=>ls.length-k) ⟨0,([]:List LentR),(u12)⟩ ⟨rfl,rfl,trivial⟩ ⟨rfl,trivial⟩ ?_ ?_
  · exact ⟨Nat.zero_le _,by simp⟩
  rintro ⟨k,out,u_out⟩ hp13;obtain ⟨hk1,hk2⟩:=hp13;refine gx tv40 6 ?_;refine cnd rfl (fun h14=>?_) (fun h14=>?_)
  · have p15:=dt h14;obtain ⟨c16,hc17⟩:=getE (xs:=ls) (m:=k) (by omega);refine gx tv40 6 ?_;refine q1 (qidx tv40 k rfl rfl rfl hc17 rfl rfl rfl rfl) rfl fun w18=>?_;refine gx tv40 7 ?_;refine ef (app tv40 c16 rfl rfl rfl rfl rfl rfl rfl rfl rfl (src_l rfl (fun _=>rfl)) (by have hg:=Bm_ ls (k+1);have hfl:=congrArg List.length (Ag_ (by assumption :ls[k]? = some _));simp only [List.length_append] at hfl;subst hk2;(try simp only []);omega) rfl fun u19=>?_);refine go tv40 8 rfl rfl ⟨(by have hg:=Bm_ ls (k+1);have hfl:=congrArg List.length (Ag_ (by assumption :ls[k]? = some _));simp only [List.length_append] at hfl;omega),trivial⟩ ?_;refine next ⟨(k+1),(out++c16),(u19)⟩ rfl rfl ⟨rfl,rfl,trivial⟩ ⟨rfl,trivial⟩ ?_ ?_
    · (try simp only []);omega
    exact ⟨by omega,by (try simp only []);rw [Ag_ hc17,hk2]⟩
  have p20:=df h14;refine gx tv40 11 ?_;refine givec 0 rfl ?_;refine gx tv40 1 ?_;refine rt1 rfl rfl ?_;refine ple ?_
  rw [hk2,Gj_ (by omega)]
theorem Ss_ (s:List LentR) (hl:s.length≤100000000:=by first | omega | (simp;done) | (simp;omega)):Fn Tryz.prog gb 60 [.sl LentR.pc s] (.sl LentR.pc s):=by
  refine fC Tryz.func60 tv40 Tryz.ntmps60 fun w N H hG=>?_;refine gx tv40 9 ?_;refine ef (lnil tv40 rfl rfl rfl rfl rfl fun b1 hb2=>?_);refine gx tv40 2 ?_;refine cnd rfl (fun h3=>?_) (fun h3=>?_)
  · refine gx tv40 7 ?_;refine rt1 rfl rfl ?_;refine Fz_ ?_;exact hb2 (by assumption)
  refine gx tv40 4 ?_;refine ef (bsl 0 LentR.pc [] tv40 rfl rfl rfl rfl rfl (fun _=>rfl) rfl (by decide) (by decide) rfl fun u4=>?_);refine gx tv40 1 ?_;refine ef (app tv40 s rfl rfl rfl rfl rfl rfl rfl rfl rfl (src_l rfl (fun _=>rfl)) (by first | omega | (simp;omega)) rfl fun u5=>?_);refine gx tv40 3 ?_;refine givec 0 rfl ?_;refine gx tv40 1 ?_;refine rt1 rfl rfl ?_;refine ple ?_
  simp
theorem Si_ (l:List LentR) (x:LentR):Fn Tryz.prog gb 42 [.sl LentR.pc l, .agg (LentR.pc x)] (.int .i64 (idxP (fun y=>decide (x=y)) l)):=by
  refine fC Tryz.func42 tv40 Tryz.ntmps42 fun w N H hG=>?_;have l_l:l.length≤140737488355328:=w.1.1;refine gm tv40 15 [0] fun B2=>?_;refine loop (ι:=Nat) [0,1,3,6,7] [0] (fun k=>[(8, .int .i64 (k:Int))]) (fun k=>[]) (fun k=>k≤l.length∧idxP (fun y=>decide (x=y)) l=idxF (fun y=>decide (x=y)) k (l.drop k)) (fun k=>l.length-k) 0 ⟨rfl,trivial⟩ trivial ?_ ?_
  · exact ⟨Nat.zero_le _,rfl⟩
  rintro k hp3;obtain ⟨hik1,hik2⟩:=hp3;refine gx tv40 6 ?_;refine cnd rfl (fun h4=>?_) (fun h4=>?_)
  · have p5:=dt h4;refine gx tv40 11 ?_;refine aN [1,2,3,4,5,6] 6 mixd ?_;refine gX tv40 [0,1,2] 3 ?_;obtain ⟨c6,hc7⟩:=getE (xs:=l) (m:=k) (by omega);refine vq 3 (qidx tv40 k rfl rfl rfl hc7 rfl rfl rfl rfl) rfl (by kernel_rfl) rfl fun w8=>?_;refine gX tv40 [4] 1 ?_;refine vq 5 (saeq rfl rfl eqg39 (veq39 x c6)) rfl (by kernel_rfl) rfl fun w9=>?_;refine vD ?_;refine gx tv40 1 ?_;refine cnd rfl (fun h10=>?_) (fun h10=>?_)
    · have p11:=dt h10;refine gx tv40 12 ?_;refine rt1 rfl rfl ?_;refine ple ?_;exact congrArg (PV.int .i64) (Iu_ hik2 (Cj_ hc7) (by first | assumption | (simp [*];done))).symm
    have p12:=df h10;refine gy tv40 7 ?_;refine next (k+1) rfl rfl ⟨rfl,trivial⟩ trivial ?_ ?_
    · omega
    exact ⟨by omega,G3_ hik2 (Cj_ hc7) (by first | assumption | (simp [*];done) | grind)⟩
  have p13:=df h4;refine gx tv40 11 ?_;refine rt1 rfl rfl ?_;refine ple ?_;exact congrArg (PV.int .i64) (I2_ hik2 (by omega)).symm
theorem Vh_ (n:Int) (hn:0≤n∧n≤100000000:=by omega):Fo Tryz.prog gb 279 [.val (.slice none 0 0), .int .i64 n] (fun u=> .val u) 3 44 ShopR.pc ([]:List ShopR):=by
  refine Lj_ tv40 Tryz.func279 rfl Tryz.ntmps279 rfl cb279 (fun _=>rfl) rfl fun w N H hG=>?_;refine gx tv40 12 ?_;refine cnd rfl (fun h1=>?_) (fun h1=>?_)
  · have p2:=dt h1
    exfalso;omega
  have p3:=df h1;refine gx tv40 7 ?_;refine q1 (qcap0 tv40 rfl rfl rfl) rfl fun w4=>?_;refine gx tv40 1 ?_;refine q1 (qlen0 tv40 rfl rfl rfl) rfl fun w5=>?_;refine gy tv40 11 ?_;refine cnd rfl (fun h6=>?_) (fun h6=>?_)
  · have p7:=dt h6;refine gx tv40 3 ?_;refine q1 (qcap0 tv40 rfl rfl rfl) rfl fun w8=>?_;refine q1 (qcut0 tv40 rfl rfl rfl rfl rfl (by omega)) rfl fun w9=>?_;refine gx tv40 1 ?_;refine ef (appz (m:=((n-(0-0))).toNat) 0 tv40 rfl rfl rfl rfl rfl rfl rfl rfl rfl rfl (by omega) (by omega) (by (try simp only []);omega) rfl rfl fun u10=>?_);refine gx tv40 1 ?_;refine q1 (qlen0 tv40 rfl rfl rfl) rfl fun w11=>?_;refine ef (ocut ShopR.pc tv40 rfl rfl rfl rfl rfl rfl (by omega) rfl fun u12=>?_);refine gx tv40 9 ?_;refine sw_val (t:=4) (i:=0) rfl rfl ?_;refine gx tv40 1 ?_;refine ro1 (j:=0) rfl rfl rfl ?_
    rfl
  have p13:=df h6;refine gx tv40 8 ?_;refine sw_own (t:=4) (k:=3) (e:=44) 0 ShopR.pc rfl rfl ?_;refine sw_val (t:=4) (i:=0) rfl rfl ?_;refine gx tv40 1 ?_;refine ro1 (j:=0) rfl rfl rfl ?_
  rfl
theorem Pj_ (ls:List (List ShopR)) (hl:ls.flatten.length≤100000000:=by first | omega | (simp;done) | (simp;omega) | (simp only [List.flatten_cons,List.flatten_nil,List.length_append,List.append_nil];simp;omega)):Fn Tryz.prog gb 268 [.sl (slc ShopR.pc) ls] (.sl ShopR.pc ls.flatten):=by
  refine fC Tryz.func268 tv40 Tryz.ntmps268 fun w N H hG=>?_;have ls_l:ls.length≤140737488355328:=w.1.1;refine gx tv40 19 ?_;refine loop (ι:=Nat×Int) [0,2,9,10] [] (fun ⟨k,n⟩=>[(3, .int .i64 n),(11, .int .i64 (k:Int))]) (fun ⟨k,n⟩=>[]) (fun ⟨k,n⟩=>k≤ls.length∧n=((ls.take k).flatten.length:Int)) (fun ⟨k,n⟩=>ls.length-k) ⟨0,0⟩ ⟨rfl,rfl,trivial⟩ trivial ?_ ?_
  · exact ⟨Nat.zero_le _,by simp⟩
  rintro ⟨k,n⟩ hp1;obtain ⟨hk1,hk2⟩:=hp1;have hg0:=Bm_ ls k;refine gx tv40 6 ?_;refine cnd rfl (fun h2=>?_) (fun h2=>?_)
  · have p3:=dt h2;obtain ⟨c4,hc5⟩:=getE (xs:=ls) (m:=k) (by omega);refine gx tv40 6 ?_;refine q1 (qidx tv40 k rfl rfl rfl hc5 rfl rfl rfl rfl) rfl fun w6=>?_;refine go tv40 19 rfl rfl ⟨(by have hg:=Bm_ ls (k+1);have hfl:=congrArg List.length (Ag_ (by assumption :ls[k]? = some _));simp only [List.length_append] at hfl;omega),trivial⟩ ?_;refine cnd rfl (fun h7=>?_) (fun h7=>?_)
    · have p8:=dt h7
      exfalso;omega
    have p9:=df h7;refine go tv40 7 rfl rfl ⟨(by have hg:=Bm_ ls (k+1);have hfl:=congrArg List.length (Ag_ (by assumption :ls[k]? = some _));simp only [List.length_append] at hfl;omega),trivial⟩ ?_;refine next ⟨(k+1),(n+(c4.length:Int))⟩ rfl rfl ⟨rfl,rfl,trivial⟩ trivial ?_ ?_
    · (try simp only []);omega
    have hf:=Ag_ hc5;have hg:=Bm_ ls (k+1);have hfl:=congrArg List.length hf
    simp only [List.length_append] at hfl
    exact ⟨by omega,by (try simp only []);omega⟩
  have p10:=df h2;refine gx tv40 8 ?_;refine ef (ecallo 0 (Vh_ _) rfl rfl fun u12 w11=>?_);refine gx tv40 12 ?_;refine sw_osl (t:=6) 0 rfl rfl ?_;refine loop (ι:=Nat×(List ShopR)×Value) [0,2,3,9,10,11,12,23,24,25,26] [] (fun ⟨k,out,u_out⟩=>[(6, .osl 0),(27, .int .i64 (k:Int))]) (fun ⟨k,out,u_out⟩=>[(0, .arr u_out 3 44 ShopR.pc out)]) (fun ⟨k,out,u_out⟩=>k≤ls.length∧out=(ls.take k).flatten) (fun ⟨k,out,u_out⟩=>ls.length-k) ⟨0,([]:List ShopR),(u12)⟩ ⟨rfl,rfl,trivial⟩ ⟨rfl,trivial⟩ ?_ ?_
  · exact ⟨Nat.zero_le _,by simp⟩
  rintro ⟨k,out,u_out⟩ hp13;obtain ⟨hk1,hk2⟩:=hp13;refine gx tv40 6 ?_;refine cnd rfl (fun h14=>?_) (fun h14=>?_)
  · have p15:=dt h14;obtain ⟨c16,hc17⟩:=getE (xs:=ls) (m:=k) (by omega);refine gx tv40 6 ?_;refine q1 (qidx tv40 k rfl rfl rfl hc17 rfl rfl rfl rfl) rfl fun w18=>?_;refine gx tv40 7 ?_;refine ef (app tv40 c16 rfl rfl rfl rfl rfl rfl rfl rfl rfl (src_l rfl (fun _=>rfl)) (by have hg:=Bm_ ls (k+1);have hfl:=congrArg List.length (Ag_ (by assumption :ls[k]? = some _));simp only [List.length_append] at hfl;subst hk2;(try simp only []);omega) rfl fun u19=>?_);refine go tv40 8 rfl rfl ⟨(by have hg:=Bm_ ls (k+1);have hfl:=congrArg List.length (Ag_ (by assumption :ls[k]? = some _));simp only [List.length_append] at hfl;omega),trivial⟩ ?_;refine next ⟨(k+1),(out++c16),(u19)⟩ rfl rfl ⟨rfl,rfl,trivial⟩ ⟨rfl,trivial⟩ ?_ ?_
    · (try simp only []);omega
    exact ⟨by omega,by (try simp only []);rw [Ag_ hc17,hk2]⟩
  have p20:=df h14;refine gx tv40 11 ?_;refine givec 0 rfl ?_;refine gx tv40 1 ?_;refine rt1 rfl rfl ?_;refine ple ?_
  rw [hk2,Gj_ (by omega)]
theorem Vu_ (n:Int) (hn:0≤n∧n≤100000000:=by omega):Fo Tryz.prog gb 282 [.val (.slice none 0 0), .int .i64 n] (fun u=> .val u) 6 49 BindR.pc ([]:List BindR):=by
  refine Lj_ tv40 Tryz.func282 rfl Tryz.ntmps282 rfl cb282 (fun _=>rfl) rfl fun w N H hG=>?_;refine gx tv40 12 ?_;refine cnd rfl (fun h1=>?_) (fun h1=>?_)
  · have p2:=dt h1
    exfalso;omega
  have p3:=df h1;refine gx tv40 7 ?_;refine q1 (qcap0 tv40 rfl rfl rfl) rfl fun w4=>?_;refine gx tv40 1 ?_;refine q1 (qlen0 tv40 rfl rfl rfl) rfl fun w5=>?_;refine gy tv40 11 ?_;refine cnd rfl (fun h6=>?_) (fun h6=>?_)
  · have p7:=dt h6;refine gx tv40 3 ?_;refine q1 (qcap0 tv40 rfl rfl rfl) rfl fun w8=>?_;refine q1 (qcut0 tv40 rfl rfl rfl rfl rfl (by omega)) rfl fun w9=>?_;refine gx tv40 1 ?_;refine ef (appz (m:=((n-(0-0))).toNat) 0 tv40 rfl rfl rfl rfl rfl rfl rfl rfl rfl rfl (by omega) (by omega) (by (try simp only []);omega) rfl rfl fun u10=>?_);refine gx tv40 1 ?_;refine q1 (qlen0 tv40 rfl rfl rfl) rfl fun w11=>?_;refine ef (ocut BindR.pc tv40 rfl rfl rfl rfl rfl rfl (by omega) rfl fun u12=>?_);refine gx tv40 9 ?_;refine sw_val (t:=4) (i:=0) rfl rfl ?_;refine gx tv40 1 ?_;refine ro1 (j:=0) rfl rfl rfl ?_
    rfl
  have p13:=df h6;refine gx tv40 8 ?_;refine sw_own (t:=4) (k:=6) (e:=49) 0 BindR.pc rfl rfl ?_;refine sw_val (t:=4) (i:=0) rfl rfl ?_;refine gx tv40 1 ?_;refine ro1 (j:=0) rfl rfl rfl ?_
  rfl
theorem Qd_ (ls:List (List BindR)) (hl:ls.flatten.length≤100000000:=by first | omega | (simp;done) | (simp;omega) | (simp only [List.flatten_cons,List.flatten_nil,List.length_append,List.append_nil];simp;omega)):Fn Tryz.prog gb 271 [.sl (slc BindR.pc) ls] (.sl BindR.pc ls.flatten):=by
  refine fC Tryz.func271 tv40 Tryz.ntmps271 fun w N H hG=>?_;have ls_l:ls.length≤140737488355328:=w.1.1;refine gx tv40 19 ?_;refine loop (ι:=Nat×Int) [0,2,9,10] [] (fun ⟨k,n⟩=>[(3, .int .i64 n),(11, .int .i64 (k:Int))]) (fun ⟨k,n⟩=>[]) (fun ⟨k,n⟩=>k≤ls.length∧n=((ls.take k).flatten.length:Int)) (fun ⟨k,n⟩=>ls.length-k) ⟨0,0⟩ ⟨rfl,rfl,trivial⟩ trivial ?_ ?_
  · exact ⟨Nat.zero_le _,by simp⟩
  rintro ⟨k,n⟩ hp1;obtain ⟨hk1,hk2⟩:=hp1;have hg0:=Bm_ ls k;refine gx tv40 6 ?_;refine cnd rfl (fun h2=>?_) (fun h2=>?_)
  · have p3:=dt h2;obtain ⟨c4,hc5⟩:=getE (xs:=ls) (m:=k) (by omega);refine gx tv40 6 ?_;refine q1 (qidx tv40 k rfl rfl rfl hc5 rfl rfl rfl rfl) rfl fun w6=>?_;refine go tv40 19 rfl rfl ⟨(by have hg:=Bm_ ls (k+1);have hfl:=congrArg List.length (Ag_ (by assumption :ls[k]? = some _));simp only [List.length_append] at hfl;omega),trivial⟩ ?_;refine cnd rfl (fun h7=>?_) (fun h7=>?_)
    · have p8:=dt h7
      exfalso;omega
    have p9:=df h7;refine go tv40 7 rfl rfl ⟨(by have hg:=Bm_ ls (k+1);have hfl:=congrArg List.length (Ag_ (by assumption :ls[k]? = some _));simp only [List.length_append] at hfl;omega),trivial⟩ ?_;refine next ⟨(k+1),(n+(c4.length:Int))⟩ rfl rfl ⟨rfl,rfl,trivial⟩ trivial ?_ ?_
    · (try simp only []);omega
    have hf:=Ag_ hc5;have hg:=Bm_ ls (k+1);have hfl:=congrArg List.length hf
    simp only [List.length_append] at hfl
    exact ⟨by omega,by (try simp only []);omega⟩
  have p10:=df h2;refine gx tv40 8 ?_;refine ef (ecallo 0 (Vu_ _) rfl rfl fun u12 w11=>?_);refine gx tv40 12 ?_;refine sw_osl (t:=6) 0 rfl rfl ?_;refine loop (ι:=Nat×(List BindR)×Value) [0,2,3,9,10,11,12,23,24,25,26] [] (fun ⟨k,out,u_out⟩=>[(6, .osl 0),(27, .int .i64 (k:Int))]) (fun ⟨k,out,u_out⟩=>[(0, .arr u_out 6 49 BindR.pc out)]) (fun ⟨k,out,u_out⟩=>k≤ls.length∧out=(ls.take k).flatten) (fun ⟨k,out,u_out⟩=>ls.length-k) ⟨0,([]:List BindR),(u12)⟩ ⟨rfl,rfl,trivial⟩ ⟨rfl,trivial⟩ ?_ ?_
  · exact ⟨Nat.zero_le _,by simp⟩
  rintro ⟨k,out,u_out⟩ hp13;obtain ⟨hk1,hk2⟩:=hp13;refine gx tv40 6 ?_;refine cnd rfl (fun h14=>?_) (fun h14=>?_)
  · have p15:=dt h14;obtain ⟨c16,hc17⟩:=getE (xs:=ls) (m:=k) (by omega);refine gx tv40 6 ?_;refine q1 (qidx tv40 k rfl rfl rfl hc17 rfl rfl rfl rfl) rfl fun w18=>?_;refine gx tv40 7 ?_;refine ef (app tv40 c16 rfl rfl rfl rfl rfl rfl rfl rfl rfl (src_l rfl (fun _=>rfl)) (by have hg:=Bm_ ls (k+1);have hfl:=congrArg List.length (Ag_ (by assumption :ls[k]? = some _));simp only [List.length_append] at hfl;subst hk2;(try simp only []);omega) rfl fun u19=>?_);refine go tv40 8 rfl rfl ⟨(by have hg:=Bm_ ls (k+1);have hfl:=congrArg List.length (Ag_ (by assumption :ls[k]? = some _));simp only [List.length_append] at hfl;omega),trivial⟩ ?_;refine next ⟨(k+1),(out++c16),(u19)⟩ rfl rfl ⟨rfl,rfl,trivial⟩ ⟨rfl,trivial⟩ ?_ ?_
    · (try simp only []);omega
    exact ⟨by omega,by (try simp only []);rw [Ag_ hc17,hk2]⟩
  have p20:=df h14;refine gx tv40 11 ?_;refine givec 0 rfl ?_;refine gx tv40 1 ?_;refine rt1 rfl rfl ?_;refine ple ?_
  rw [hk2,Gj_ (by omega)]
end Go.SW.V
set_option linter.unusedVariables false
set_option maxRecDepth 100000
set_option maxHeartbeats 4000000
namespace Go.SW.V
open Go.SW Go.Proofs
abbrev ty30:TI:=⟨.agg [(0,1)],1,24,[.sl DeedR.pc []]⟩
abbrev ty32:TI:=⟨.agg [(0,1),(1,1),(2,1),(3,1),(4,1),(5,1),(6,1)],7,96,[.int .i64 0, .sl V_.pc [], .sl LentR.pc [], .bool false, .bool false, .int .u64 0, .sl DeedR.pc []]⟩
abbrev ty56:TI:=⟨.slc 126,1,24,[.sl LentR.pc []]⟩
abbrev ty57:TI:=⟨.slc 184,1,24,[.sl DeedR.pc []]⟩
abbrev ty59:TI:=⟨.agg [(0,1),(1,1),(2,1),(3,1),(4,1),(5,1),(6,1)],7,96,[.int .i64 0, .sl V_.pc [], .sl LentR.pc [], .bool false, .bool false, .int .u64 0, .sl DeedR.pc []]⟩
def tbv41:Tb:=[(3,ty3),(4,ty4),(5,ty5),(9,ty9),(25,ty25),(26,ty26),(27,ty27),(28,ty28),(30,ty30),(32,ty32),(47,ty47),(51,ty51),(53,ty53),(56,ty56),(57,ty57),(59,ty59),(151,Yh_),(184,Wp_)]
theorem tv41:tbB Tryz.prog tbv41=true:=by kernel_rfl
theorem I4_ (d:DeedR) (x1:Bs) (x2:Int):Fn Tryz.prog gb 94 [.agg (DeedR.pc d), .el [.str x1] 0, .el [.int .u64 x2] 0] (.bool (Eh_ d x1 x2)):=by
  refine fC Tryz.func94 tv41 Tryz.ntmps94 fun w N H hG=>?_;have e0:=Eh_.eq_1 d x1 x2;refine gmy tv41 27 [0] fun B2=>?_;exact rt1 rfl rfl (B1_ (fun r:Bool=> .bool r) e0 (ple rfl))
theorem D6_ (x:Aw_) (name:Bs) (id:Int):Fn Tryz.prog gb 41 [.agg (Aw_.pc x), .str name, .int .u64 id] (.bool (Db_ x name id)):=by
  refine fC Tryz.func41 tv41 Tryz.ntmps41 fun w N H hG=>?_;have e0:=Db_.eq_1 x name id;refine gm tv41 12 [0,1,2] fun B2=>?_;refine freeze (i:=1) (t:=4) rfl rfl rfl rfl ?_;refine freeze (i:=2) (t:=5) rfl rfl rfl rfl ?_;refine gx tv41 1 ?_;refine call (cF_Deed _ _ _ _ (fun z_5:DeedR=>(Eh_ z_5 name id)) (fun z_5=>I4_ z_5 name id)) rfl rfl fun w6=>?_;refine gx tv41 4 ?_;exact rt1 rfl rfl (B1_ (fun r:Bool=> .bool r) e0 (ple rfl))
theorem Hh_ (d:DeedR) (hl:d.mail.head.length≤1000000:=by first | omega | (simp;done) | decide):Fn Tryz.prog gb 141 [.agg (DeedR.pc d)] (.agg (DeedR.pc (E3_ d))):=by
  refine fC Tryz.func141 tv41 Tryz.ntmps141 fun w N H hG=>?_;have e0:=E3_.eq_1 d;refine gm tv41 11 [0,1] fun B2=>?_;refine call (Ez_ _) rfl rfl fun w4=>?_;refine gm tv41 12 [] fun _=>?_;exact rt1 rfl rfl (B1_ (fun r:DeedR=> .agg (DeedR.pc r)) e0 (ple rfl))
theorem He_ (x:Aw_) (d:DeedR):Fn Tryz.prog gb 139 [.agg (Aw_.pc x), .agg (DeedR.pc d)] (.int .i64 (Az_ x d)):=by
  refine fC Tryz.func139 tv41 Tryz.ntmps139 fun w N H hG=>?_;have e0:=Az_.eq_1 x d;generalize Az_ x d=z at e0 ⊢;refine gm tv41 8 [0,1] fun B2=>?_;obtain ⟨o,e_o,q_o⟩:=Og_ e0;refine F3_ (ι:=Unit) [2,3] [0,1] (fun _=>[]) (fun _=>[]) (fun _=>o = .fin ()) ?_ ?_
  · refine gx tv41 14 ?_;refine cE e_o (fun h4 e6=>?_) (fun h4 e8=>?_)
    · have p5:=dt h4;refine gx tv41 2 ?_;refine cndT rfl h4 ?_;refine gx tv41 2 ?_;refine nX () ?_ trivial trivial;exact e6
    have p7:=df h4;refine gx tv41 5 ?_;refine cD e8 (fun p10 e11=>?_) (fun p12 e13=>?_)
    · refine gx tv41 2 ?_;refine nX () ?_ trivial trivial;exact e11
    refine gx tv41 9 ?_;have e14:=Fg_ q_o e13;subst e14;exact qr1
  rintro _ hp15;have e16:=Wj_ q_o hp15;refine gx tv41 5 ?_;refine call (L3_ _) rfl rfl fun w17=>?_;have :=Pm_ d;refine gx tv41 11 ?_;refine cN e16 (fun p20 e21=>?_) (fun p23 e24=>?_)
  · refine gx tv41 9 ?_;subst e21;exact qr1
  refine gy tv41 11 ?_;refine callg rfl (fun hc=>(D6_ _ _ _)) rfl ⟨(fun hc=>hc),(fun hc=>hc),(fun hc=>hc),trivial⟩ rfl rfl fun _=>?_;refine gy tv41 4 ?_;refine cE e24 (fun h25 e29=>?_) (fun h25 e30=>?_)
  · have h26:=bl h25;have p27:=dt h26;have h28:=br h25;refine gx tv41 8 ?_;subst e29;exact qr1
  refine gx tv41 9 ?_;refine cD e30 (fun p32 e33=>?_) (fun p34 e35=>?_)
  · refine gx tv41 8 ?_;subst e33;exact qr1
  refine gx tv41 9 ?_;subst e35;exact qr1
theorem Jn_:Fn Tryz.prog gb 9 [] (.agg (ChanR.pc (Dm_))):=by
  refine fC Tryz.func9 tv41 Tryz.ntmps9 fun w N H hG=>?_;have e0:=Dm_.eq_1;refine gm tv41 12 [0] fun B2=>?_;exact rt1 rfl rfl (B1_ (fun r:ChanR=> .agg (ChanR.pc r)) e0 (ple rfl))
theorem Es_ (c:ChanR) (n:Int):Fn Tryz.prog gb 36 [.agg (ChanR.pc c), .int .u64 n] (.tup [.agg (ChanR.pc ((Ah_ c n).1)), .int .i64 ((Ah_ c n).2)]):=by
  refine fC Tryz.func36 tv41 Tryz.ntmps36 fun w N H hG=>?_;have e0:=Ah_.eq_1 c n;generalize Ah_ c n=z at e0 ⊢;refine gmy tv41 18 [0,1] fun B2=>?_;refine cE e0 (fun h4 e5=>?_) (fun h4 e11=>?_)
  · refine gm tv41 9 [] fun _=>?_;subst e5;exact qr2
  have h7:=orl h4;have p8:=df h7;have h9:=orr h4;have p10:=df h9;refine gm tv41 18 [] fun _=>?_;subst e11;exact qr2
theorem D3_ (c:ChanR) (hc:0≤c.credit∧c.credit≤1000:=by first | omega | (simp;omega) | decide +kernel):Fn Tryz.prog gb 38 [.agg (ChanR.pc c)] (.int .i64 (Dl_ c)):=by
  refine fC Tryz.func38 tv41 Tryz.ntmps38 fun w N H hG=>?_;have c_takers_l:c.takers.length≤140737488355328:=w.1.2.1.1;have c_lent_l:c.lent.length≤140737488355328:=w.1.2.2.1.1;have c_held_l_l:c.held.l.length≤140737488355328:=w.1.2.2.2.2.2.2.1.1;have e0:=Dl_.eq_1 c;refine gmy tv41 19 [0] fun B2=>?_;exact rt1 rfl rfl (B1_ (fun r:Int=> .int .i64 r) e0 (ple rfl))
theorem Nz_ (t:V_) (x1:Int):Fn Tryz.prog gb 136 [.agg (V_.pc t), .el [.int .u64 x1] 0] (.bool (Gv_ t x1)):=by
  refine fC Tryz.func136 tv41 Tryz.ntmps136 fun w N H hG=>?_;have e0:=Gv_.eq_1 t x1;refine gm tv41 16 [0] fun B2=>?_;exact rt1 rfl rfl (B1_ (fun r:Bool=> .bool r) e0 (ple rfl))
theorem Gc_ (c:ChanR) (tag:Int):Fn Tryz.prog gb 95 [.agg (ChanR.pc c), .int .u64 tag] (.int .i64 (Dt_ c tag)):=by
  refine fC Tryz.func95 tv41 Tryz.ntmps95 fun w N H hG=>?_;have e0:=Dt_.eq_1 c tag;refine gm tv41 11 [0,1] fun B2=>?_;refine freeze (i:=1) (t:=3) rfl rfl rfl rfl ?_;refine gx tv41 1 ?_;refine call (Rz_ _ _ _ _ (fun z_4:V_=>(Gv_ z_4 tag)) (fun z_4=>Nz_ z_4 tag)) rfl rfl fun w5=>?_;have hix5:=Ko_ (fun z_4:V_=>(Gv_ z_4 tag)) c.takers;refine gx tv41 4 ?_;exact rt1 rfl rfl (B1_ (fun r:Int=> .int .i64 r) e0 (ple rfl))
theorem Ij_ (c:ChanR):Fn Tryz.prog gb 50 [.agg (ChanR.pc c)] (.tup [.agg (ChanR.pc ((Cl_ c).1)), .int .i64 ((Cl_ c).2)]):=by
  refine fC Tryz.func50 tv41 Tryz.ntmps50 fun w N H hG=>?_;have e0:=Cl_.eq_1 c;generalize Cl_ c=z at e0 ⊢;refine gm tv41 14 [0,1] fun B2=>?_;refine cE e0 (fun h4 e5=>?_) (fun h4 e7=>?_)
  · refine gm tv41 9 [] fun _=>?_;subst e5;exact qr2
  refine gm tv41 16 [] fun _=>?_;subst e7;exact qr2
theorem Is_ (c:ChanR):Fn Tryz.prog gb 52 [.agg (ChanR.pc c)] (.tup [.agg (ChanR.pc ((Cy_ c).1)), .int .u64 ((Cy_ c).2)]):=by
  refine fC Tryz.func52 tv41 Tryz.ntmps52 fun w N H hG=>?_;have e0:=Cy_.eq_1 c;generalize Cy_ c=z at e0 ⊢;refine gm tv41 15 [0,1] fun B2=>?_;refine cE e0 (fun h4 e6=>?_) (fun h4 e9=>?_)
  · have h5:=Bo_ h4;refine gm tv41 9 [] fun _=>?_;subst e6;exact qr2
  have h8:=Cp_ h4;have :=Y1_ (c.puts+1);refine gm tv41 12 [] fun _=>?_;refine aN [1,2,3,4,5,6,7] 5 mixd ?_;refine gX tv41 [0,1,2] 2 ?_;refine vE 3 rfl (sA tv41 ?_);refine gX tv41 [4] 0 ?_;refine vD ?_;refine gx tv41 2 ?_;subst e9;exact qr2
theorem Hd_ (c:ChanR):Fn Tryz.prog gb 192 [.agg (ChanR.pc c)] (.int .u64 (Ef_ c)):=by
  refine fC Tryz.func192 tv41 Tryz.ntmps192 fun w N H hG=>?_;have e0:=Ef_.eq_1 c;refine gm tv41 14 [0] fun B2=>?_;exact rt1 rfl rfl (B1_ (fun r:Int=> .int .u64 r) e0 (ple rfl))
theorem Hq_ (c:ChanR):Fn Tryz.prog gb 54 [.agg (ChanR.pc c)] (.tup [.agg (ChanR.pc ((B9_ c).1)), .int .i64 ((B9_ c).2)]):=by
  refine fC Tryz.func54 tv41 Tryz.ntmps54 fun w N H hG=>?_;have e0:=B9_.eq_1 c;generalize B9_ c=z at e0 ⊢;refine gmy tv41 18 [0,1] fun B2=>?_;refine cE e0 (fun h4 e5=>?_) (fun h4 e9=>?_)
  · refine gm tv41 9 [] fun _=>?_;subst e5;exact qr2
  have h7:=orl h4;have h8:=orr h4;refine gm tv41 16 [] fun _=>?_;subst e9;exact qr2
theorem Et_ (c:ChanR):Fn Tryz.prog gb 109 [.agg (ChanR.pc c)] (.bool (Ds_ c)):=by
  refine fC Tryz.func109 tv41 Tryz.ntmps109 fun w N H hG=>?_;have e0:=Ds_.eq_1 c;refine gm tv41 14 [0] fun B2=>?_;exact rt1 rfl rfl (B1_ (fun r:Bool=> .bool r) e0 (ple rfl))
theorem Fa_ (c:ChanR):Fn Tryz.prog gb 58 [.agg (ChanR.pc c)] (.tup [.agg (ChanR.pc ((B2_ c).1)), .int .i64 ((B2_ c).2)]):=by
  refine fC Tryz.func58 tv41 Tryz.ntmps58 fun w N H hG=>?_;have e0:=B2_.eq_1 c;generalize B2_ c=z at e0 ⊢;refine gm tv41 15 [0,1] fun B2=>?_;refine cE e0 (fun h4 e6=>?_) (fun h4 e9=>?_)
  · have h5:=Bo_ h4;refine gm tv41 9 [] fun _=>?_;subst e6;exact qr2
  have h8:=Cp_ h4;refine gm tv41 17 [] fun _=>?_;subst e9;exact qr2
end Go.SW.V
set_option linter.unusedVariables false
set_option maxRecDepth 100000
set_option maxHeartbeats 4000000
namespace Go.SW.V
open Go.SW Go.Proofs
theorem cb273:U_ Tryz.prog 273:=S_ Tryz.func273 (by kernel_rfl) (by kernel_rfl)
def tbv45:Tb:=[(9,ty9),(44,ty44),(49,ty49),(200,O7_),(339,ty339),(340,Xb_),(342,Wx_),(371,ty371)]
theorem tv45:tbB Tryz.prog tbv45=true:=by kernel_rfl
theorem Jl_ (l:List Bs) (s:Bs) (hl:l.length≤100000:=by first | omega | (simp;omega) | decide +kernel):Fl Tryz.prog gb 273 [.str s] (fun u=> .val u) 1 9 strc l (Ej_ l s):=by
  refine fl_cw tv45 Tryz.func273 rfl Tryz.ntmps273 rfl cb273 (fun _=>rfl) rfl fun w l_l u0 N H hG=>?_;have e0:=Ej_.eq_1 l s;refine gx tv45 10 ?_;refine ef (calll 0 rfl (Ot_ _ _) rfl rfl rfl fun w1=>?_);refine gx tv45 2 ?_;refine cD e0 (fun p3 e4=>?_) (fun p5 e6=>?_)
  · refine gx tv45 6 ?_;refine sw_val (t:=4) (i:=0) rfl rfl ?_;refine gx tv45 2 ?_;refine ro1 (j:=0) rfl rfl rfl ?_;exact (congrArg (fun r:(List Bs)=>r) e4).symm
  refine gx tv45 6 ?_;refine ef (bsl 1 strc [s] tv45 rfl rfl rfl rfl rfl (fun _=>rfl) rfl (by decide) (by decide) rfl fun u7=>?_);refine ef (app tv45 [s] rfl rfl rfl rfl rfl rfl rfl rfl rfl (src_o rfl rfl) (by first | omega | (simp;omega)) rfl fun u8=>?_);refine gx tv45 3 ?_;refine sw_val (t:=4) (i:=0) rfl rfl ?_;refine gx tv45 1 ?_;refine ro1 (j:=0) rfl rfl rfl ?_;exact (congrArg (fun r:(List Bs)=>r) e6).symm
theorem Il_ (b:BookR) (x:ShopR) (hs:b.shops.length≤1000:=by first | omega | (simp;omega) | decide +kernel):Fn Tryz.prog gb 256 [.agg (BookR.pc b), .agg (ShopR.pc x)] (.tup [.agg (BookR.pc ((B3_ b x).1)), .int .i64 ((B3_ b x).2)]):=by
  refine fC Tryz.func256 tv45 Tryz.ntmps256 fun w N H hG=>?_;have e0:=B3_.eq_1 b x;generalize B3_ b x=z at e0 ⊢;refine gm tv45 12 [0,1,2] fun B2=>?_;refine call (Sa_ _) rfl rfl fun w5=>?_;have :=shopE_r x;refine gx tv45 9 ?_;refine cN e0 (fun p8 e9=>?_) (fun p12 e13=>?_)
  · refine gm tv45 10 [] fun _=>?_;subst e9;exact qr2
  refine gx tv45 7 ?_;refine call (Kr_ _ _) rfl rfl fun w14=>?_;refine gm tv45 16 [3] fun B16=>?_;refine q1g [25,26] rfl (fun hc=>saeq rfl rfl eqg44 (veq44 x ((C5_ b.shops x.name).getD ShopR.zero))) ⟨(fun hc=>hc),(fun hc=>hc),trivial⟩ rfl rfl rfl fun _=>?_;refine gy tv45 4 ?_;refine cE e13 (fun h17 e21=>?_) (fun h17 e23=>?_)
  · have h18:=bl h17;have h19:=br h17;have p20:=dt h19;refine gm tv45 10 [] fun _=>?_;subst e21;exact qr2
  refine gx tv45 6 ?_;refine cE e23 (fun h24 e25=>?_) (fun h24 e27=>?_)
  · refine gm tv45 10 [] fun _=>?_;subst e25;exact qr2
  refine gx tv45 9 ?_;refine cD e27 (fun p29 e30=>?_) (fun p32 e33=>?_)
  · refine gm tv45 10 [] fun _=>?_;subst e30;exact qr2
  refine gx tv45 8 ?_;refine ef (bsl 4 ShopR.pc [x] tv45 rfl rfl rfl rfl rfl (fun _=>rfl) rfl (by decide) (by decide) rfl fun u34=>?_);refine give 4 rfl ?_;refine ef (bsl 4 (slc ShopR.pc) [b.shops,[x]] tv45 rfl rfl rfl rfl rfl (fun _=>rfl) rfl (by decide) (by decide) rfl fun u35=>?_);refine give 4 rfl ?_;refine call (Pj_ _) rfl rfl fun w36=>?_;refine gm tv45 12 [] fun _=>?_;subst e33;exact qr2
theorem Hv_ (b:BookR) (x:BindR):Fn Tryz.prog gb 270 [.agg (BookR.pc b), .agg (BindR.pc x)] (.int .i64 (Dc_ b x)):=by
  refine fC Tryz.func270 tv45 Tryz.ntmps270 fun w N H hG=>?_;have e0:=Dc_.eq_1 b x;refine gm tv45 13 [0,1] fun B2=>?_;refine call (Uw_ _ _ _ _ (fun z_4:BindR=>decide (x=z_4)) (fun z_4=>Wk_ x z_4)) rfl rfl fun w5=>?_;have hix5:=Ko_ (fun z_4:BindR=>decide (x=z_4)) b.binds;refine gx tv45 4 ?_;exact rt1 rfl rfl (B1_ (fun r:Int=> .int .i64 r) e0 (ple rfl))
end Go.SW.V
set_option linter.unusedVariables false
set_option maxRecDepth 100000
set_option maxHeartbeats 4000000
namespace Go.SW.V
open Go.SW Go.Proofs
abbrev R0_:Int→PV:=fun r=> .int .i64 r
def tbv46:Tb:=[(4,ty4),(5,ty5),(9,ty9),(44,ty44),(49,ty49),(200,O7_),(340,Xb_),(342,Wx_),(375,ty375)]
theorem tv46:tbB Tryz.prog tbv46=true:=by kernel_rfl
theorem Fd_ (b:BookR) (x:BindR) (hb:b.binds.length≤1000:=by first | omega | (simp;omega) | decide +kernel) (hw:x.want.length≤1000:=by first | omega | (simp;omega) | decide +kernel):Fn Tryz.prog gb 257 [.agg (BookR.pc b), .agg (BindR.pc x)] (.tup [.agg (BookR.pc ((Ax_ b x).1)), .int .i64 ((Ax_ b x).2)]):=by
  refine fC Tryz.func257 tv46 Tryz.ntmps257 fun w N H hG=>?_;have e0:=Ax_.eq_1 b x;generalize Ax_ b x=z at e0 ⊢;refine gm tv46 13 [0,1,2] fun B2=>?_;refine call (Kr_ _ _) rfl rfl fun w5=>?_;refine gm tv46 17 [3] fun B7=>?_;refine cE e0 (fun h8 e10=>?_) (fun h8 e13=>?_)
  · have h9:=Bo_ h8;refine gm tv46 10 [] fun _=>?_;subst e10;exact qr2
  have h12:=Cp_ h8;refine gx tv46 8 ?_;refine cD e13 (fun p15 e16=>?_) (fun p18 e19=>?_)
  · refine gm tv46 10 [] fun _=>?_;subst e16;exact qr2
  refine gx tv46 8 ?_;refine call (Bc_ _) rfl rfl fun w20=>?_;refine gx tv46 9 ?_;refine cN e19 (fun p23 e24=>?_) (fun p27 e28=>?_)
  · refine gm tv46 10 [] fun _=>?_;subst e24;exact qr2
  refine gx tv46 8 ?_;refine call (In_ _ _) rfl rfl fun w29=>?_;refine call (Mb_ _) rfl rfl fun w30=>?_;refine gx tv46 11 ?_;refine cN e28 (fun p33 e34=>?_) (fun p37 e38=>?_)
  · refine gm tv46 11 [] fun _=>?_;subst e34;exact qr2
  refine gx tv46 4 ?_;refine cV e38 R0_ (Hv_ _ _) rfl fun r hr39 e41 w40=>?_;have hA41:=there_r b x
  (try rw [← hr39] at hA41)
  refine gx tv46 4 ?_;refine cD e41 (fun p44 e45=>?_) (fun p47 e48=>?_)
  · refine gm tv46 10 [] fun _=>?_;subst e45;exact qr2
  refine gx tv46 9 ?_;refine cD e48 (fun p50 e51=>?_) (fun p53 e54=>?_)
  · refine gm tv46 10 [] fun _=>?_;subst e51;exact qr2
  refine gx tv46 4 ?_;refine aN [4,5,6,7,8,9] 9 mixd ?_;refine gX tv46 [0,1,2] 6 ?_;refine vE 3 rfl (eC (Sf_ _) rfl fun w55=>?_);refine vE 4 rfl (bsl 4 BindR.pc [x] tv46 rfl rfl rfl rfl rfl (fun _=>rfl) rfl (by decide) (by decide) rfl fun u56=>?_);refine vE 5 rfl (J8_ 4 rfl (bsl 4 (slc BindR.pc) [b.binds,[x]] tv46 rfl rfl rfl rfl rfl (fun _=>rfl) rfl (by decide) (by decide) rfl fun u57=>?_));refine vE 6 rfl (J8_ 4 rfl (Nt_ (eC (Qd_ _) rfl fun w58=>?_)));refine gX tv46 [7] 1 ?_;refine vT 8 rfl (sO tv46 ?_);refine vD ?_;refine gm tv46 9 [] fun _=>?_;subst e54;exact qr2
theorem Hj_ (b:BookR) (shop:Bs) (key:Bs) (h:List Pair) (hb:b.binds.length≤1000:=by first | omega | (simp;omega) | decide +kernel) (hk:key.length<4294967281:=by first | omega | (simp;omega) | decide +kernel) (hr:∀ y∈b.binds,y.key.length<4294967281:=by first | assumption | decide +kernel):Fn Tryz.prog gb 258 [.agg (BookR.pc b), .str shop, .str key, .sl Pair.pc h] (.tup [.sl strc ((By_ b shop key h).1), .sl strc ((By_ b shop key h).2.1), .int .i64 ((By_ b shop key h).2.2)]):=by
  refine fC Tryz.func258 tv46 Tryz.ntmps258 fun w N H hG=>?_;have e0:=By_.eq_1 b shop key h;generalize By_ b shop key h=z at e0 ⊢;refine gm tv46 13 [0] fun B2=>?_;refine call (Kr_ _ _) rfl rfl fun w3=>?_;refine gm tv46 17 [1] fun B5=>?_;refine cE e0 (fun h6 e8=>?_) (fun h6 e10=>?_)
  · have h7:=Bo_ h6;refine gx tv46 11 ?_;subst e8;exact rt3 rfl rfl (Cr_ (F_ Bi_ (F_ Bi_ (F_ (ple rfl) A5_))))
  have h9:=Cp_ h6;refine gx tv46 8 ?_;refine cD e10 (fun p12 e13=>?_) (fun p15 e16=>?_)
  · refine gx tv46 1 ?_;refine aN [2,3,4,5,6,7] 6 mixd ?_;refine gX tv46 [0,1,3] 3 ?_;refine vE 2 rfl (bsl 2 strc [((C5_ b.shops shop).getD ShopR.zero).to] tv46 rfl rfl rfl rfl rfl (fun _=>rfl) rfl (by decide) (by decide) rfl fun u14=>?_);refine gX tv46 [4,5] 0 ?_;refine vD ?_;refine gx tv46 1 ?_;refine givec 2 rfl ?_;refine gx tv46 4 ?_;subst e13;exact rt3 rfl rfl (Cr_ (F_ Bi_ (F_ (ple rfl) (F_ (ple rfl) A5_))))
  refine gx tv46 22 ?_;refine sw_own (t:=13) (k:=1) (e:=9) 2 strc rfl rfl ?_;refine sw_own (t:=14) (k:=1) (e:=9) 3 strc rfl rfl ?_;refine loop (ι:=Nat×(List Bs)×(List Bs)×Value×Value) [1,2,3,8,9,10,11,34,35] [0,1] (fun ⟨k,queues,places,u_queues,u_places⟩=>[(36, .int .i64 (k:Int)),(13, .osl 2),(14, .osl 3)]) (fun ⟨k,queues,places,u_queues,u_places⟩=>[(2, .arr u_queues 1 9 strc queues),(3, .arr u_places 1 9 strc places)]) (fun ⟨k,queues,places,u_queues,u_places⟩=>k≤b.binds.length∧z=Au_ b shop key h (b.binds.drop k) queues places∧queues.length≤k∧places.length≤k) (fun ⟨k,queues,places,u_queues,u_places⟩=>b.binds.length-k) ⟨0,[],[],(.slice none 0 0),(.slice none 0 0)⟩ ⟨rfl,rfl,rfl,trivial⟩ ⟨rfl,rfl,trivial⟩ ?_ ?_
  · exact ⟨Nat.zero_le _,e16,(by first | omega | (simp;done) | (simp;omega))⟩
  rintro ⟨k,queues,places,u_queues,u_places⟩ ⟨hp17_1,hp17_2,hp17_3⟩;refine gx tv46 6 ?_;refine cnd rfl (fun h18=>?_) (fun h18=>?_)
  · have p19:=dt h18;have e20:=Gg_ (f:=fun zz=>Au_ b shop key h zz queues places) hp17_2 (Pd_ (by omega)) (Au_.eq_2 _ _ _ _ _ _ _ _);have hc21:=getG (xs:=b.binds) (k:=k) (by omega);have hr_hc21:=hr (gt b.binds k) (List.mem_of_getElem? hc21);refine gx tv46 6 ?_;refine q1 (qidx tv46 k rfl rfl rfl hc21 rfl rfl rfl rfl) rfl fun w22=>?_;refine gm tv46 7 [4] fun B24=>?_;obtain ⟨o,e_o,q_o⟩:=Fk_ e20;refine F3_ (ι:=Bool) [1,2,3,8,9,10,11,13,14,16,34,35,36] [0,1,2,3,4] (fun v=>[(44, .bool v)]) (fun v=>[]) (fun v=>o=v) ?_ ?_
    · refine gx tv46 9 ?_;refine cN e_o (fun p27 e28=>?_) (fun p30 e31=>?_)
      · refine gx tv46 1 ?_;refine nX (!decide (((gt b.binds k).shop)=shop)) ?_ ⟨rfl,trivial⟩ trivial;exact e28
      refine gx tv46 4 ?_;refine call (In_ _ _) rfl rfl fun w32=>?_;refine gx tv46 2 ?_;refine call (K4_ _ _ _ (hrk:=by simp only [Fb_];omega)) rfl rfl fun w33=>?_;refine gx tv46 3 ?_;refine nX (!(Ja_ (Fb_ (gt b.binds k) (((C5_ b.shops shop).getD ShopR.zero).sort)) key h)) ?_ ⟨rfl,trivial⟩ trivial;exact e31
    rintro v hp34;have e35:=I6_ q_o hp34;refine gx tv46 1 ?_;refine cE e35 (fun h36 e37=>?_) (fun h36 e38=>?_)
    · refine gy tv46 8 ?_;refine next ⟨(k+1),queues,places,(u_queues),(u_places)⟩ rfl rfl ⟨rfl,rfl,rfl,trivial⟩ ⟨rfl,rfl,trivial⟩ ?_ ?_
      · (try simp only []);omega
      exact ⟨by (try simp only []);omega,e37,⟨by (try simp only []);omega,by (try simp only []);omega⟩⟩
    refine gx tv46 7 ?_;refine cE e38 (fun h39 e40=>?_) (fun h39 e46=>?_)
    · refine gx tv46 4 ?_;refine ef (ecallw (Jl_ _ _) rfl rfl rfl rfl rfl rfl ?_);generalize hr43:Ej_ places ((gt b.binds k).to)=r;intro u41 w42;have e44:=e40.trans (C0_ hr43.symm);have hr43:=hr43.symm;have hA44:=Tt_ places ((gt b.binds k).to)
      (try rw [← hr43] at hA44)
      refine gy tv46 9 ?_;refine Ym_ (t:=14) 3 rfl rfl ?_;refine next ⟨(k+1),queues,r,(u_queues),(u41)⟩ rfl rfl ⟨rfl,rfl,rfl,trivial⟩ ⟨rfl,rfl,trivial⟩ ?_ ?_
      · (try simp only []);omega
      exact ⟨by (try simp only []);omega,e44,⟨by (try simp only []);omega,by (try simp only []);omega⟩⟩
    refine gx tv46 4 ?_;refine ef (ecallw (Jl_ _ _) rfl rfl rfl rfl rfl rfl ?_);generalize hr49:Ej_ queues ((gt b.binds k).to)=r1;intro u47 w48;have e50:=e46.trans (C0_ hr49.symm);have hr49:=hr49.symm;have hA50:=Tt_ queues ((gt b.binds k).to)
    (try rw [← hr49] at hA50)
    refine gy tv46 9 ?_;refine Ym_ (t:=13) 2 rfl rfl ?_;refine next ⟨(k+1),r1,places,(u47),(u_places)⟩ rfl rfl ⟨rfl,rfl,rfl,trivial⟩ ⟨rfl,rfl,trivial⟩ ?_ ?_
    · (try simp only []);omega
    exact ⟨by (try simp only []);omega,e50,⟨by (try simp only []);omega,by (try simp only []);omega⟩⟩
  have p52:=df h18;have e53:=Gg_ (f:=fun zz=>Au_ b shop key h zz queues places) hp17_2 (Nk_ (by omega)) (Au_.eq_1 _ _ _ _ _ _);refine gx tv46 14 ?_;refine givec 2 rfl ?_;refine givec 3 rfl ?_;refine gx tv46 2 ?_;subst e53;exact qr3
end Go.SW.V
set_option linter.unusedVariables false
set_option maxRecDepth 100000
set_option maxHeartbeats 4000000
namespace Go.SW.V
open Go.SW Go.Proofs
abbrev R1_:DeedR→PV:=fun r=> .agg (DeedR.pc r)
theorem cb11:U_ Tryz.prog 11:=S_ Tryz.func11 (by kernel_rfl) (by kernel_rfl)
theorem cb191:U_ Tryz.prog 191:=S_ Tryz.func191 (by kernel_rfl) (by kernel_rfl)
abbrev ty55:TI:=⟨.slc 177,1,24,[.sl V_.pc []]⟩
abbrev ty126:TI:=⟨.agg [(0,1),(1,1)],2,24,[.int .u64 0, .str []]⟩
abbrev ty177:TI:=⟨.agg [(0,1),(1,1)],2,24,[.int .u64 0, .str []]⟩
def tbv42:Tb:=[(4,ty4),(5,ty5),(9,ty9),(25,ty25),(26,ty26),(27,ty27),(28,ty28),(30,ty30),(32,ty32),(39,ty39),(51,ty51),(53,ty53),(55,ty55),(56,ty56),(57,ty57),(59,ty59),(126,ty126),(151,Yh_),(177,ty177),(184,Wp_),(187,ty187),(242,ty242),(280,ty280)]
theorem tv42:tbB Tryz.prog tbv42=true:=by kernel_rfl
theorem Hy_ (x:Aw_) (l:List DeedR) (hx:x.l.length≤1000:=by first | omega | (simp;omega) | decide +kernel):Fn Tryz.prog gb 99 [.agg (Aw_.pc x), .sl DeedR.pc l] (.tup [.agg (Aw_.pc ((C4_ x l).1)), .int .i64 ((C4_ x l).2)]):=by
  refine fC Tryz.func99 tv42 Tryz.ntmps99 fun w N H hG=>?_;have x_l_l:x.l.length≤140737488355328:=w.1.1.1;have l_l:l.length≤140737488355328:=w.2.1.1;have e0:=C4_.eq_1 x l;generalize C4_ x l=z at e0 ⊢;refine gm tv42 23 [0,1,2] fun B2=>?_;refine loop (ι:=Nat×Aw_) [2,4,6,11,12] [0,1] (fun ⟨k,x1⟩=>[(13, .int .i64 (k:Int))]) (fun ⟨k,x1⟩=>[(2, .box (B2 2) 30 (Aw_.pc x1))]) (fun ⟨k,x1⟩=>k≤l.length∧z=A4_ x (l.drop k) x1∧x1.l.length≤1000) (fun ⟨k,x1⟩=>l.length-k) ⟨0,x⟩ ⟨rfl,trivial⟩ ⟨rfl,trivial⟩ ?_ ?_
  · exact ⟨Nat.zero_le _,e0,(by first | omega | (simp;done) | (simp;omega))⟩
  rintro ⟨k,x1⟩ ⟨hp5_1,hp5_2,hp5_3⟩;refine gx tv42 6 ?_;refine cnd rfl (fun h6=>?_) (fun h6=>?_)
  · have p7:=dt h6;have e8:=Gg_ (f:=fun zz=>A4_ x zz x1) hp5_2 (Pd_ (by omega)) (A4_.eq_2 _ _ _ _);have hc9:=getG (xs:=l) (k:=k) (by omega);refine gx tv42 6 ?_;refine q1 (qidx tv42 k rfl rfl rfl hc9 rfl rfl rfl rfl) rfl fun w10=>?_;refine gm tv42 10 [3] fun B12=>?_;refine cV e8 R0_ (He_ _ _) rfl fun r hr13 e15 w14=>?_;have hA15:=Yt_ x1 (gt l k)
    (try rw [← hr13] at hA15)
    have hA16:=Rs_ x1 (gt l k)
    (try rw [← hr13] at hA16)
    refine gx tv42 9 ?_;refine cN e15 (fun p20 e21=>?_) (fun p24 e25=>?_)
    · refine gm tv42 15 [] fun _=>?_;subst e21;exact qr2
    refine gx tv42 2 ?_;refine aN [4,5,6,7,8,9] 9 mixd ?_;refine gX tv42 [0,1,2] 6 ?_;refine vE 3 rfl (eC (Hh_ _) rfl ?_);generalize hr27:E3_ (gt l k)=r1;intro w26;have e28:=e25.trans (C0_ hr27.symm);refine vE 4 rfl (bsl 4 DeedR.pc [r1] tv42 rfl rfl rfl rfl rfl (fun _=>rfl) rfl (by decide) (by decide) rfl fun u29=>?_);refine vE 5 rfl (J8_ 4 rfl (bsl 4 (slc DeedR.pc) [x1.l,[r1]] tv42 rfl rfl rfl rfl rfl (fun _=>rfl) rfl (by decide) (by decide) rfl fun u30=>?_));refine vE 6 rfl (J8_ 4 rfl (Nt_ (eC (Pv_ _) rfl fun w31=>?_)));refine gX tv42 [7] 1 ?_;refine vT 8 rfl (sA tv42 ?_);refine vD ?_;refine gy tv42 6 ?_;refine next ⟨(k+1),(⟨[x1.l,[r1]].flatten⟩:Aw_)⟩ rfl rfl ⟨rfl,trivial⟩ ⟨rfl,trivial⟩ ?_ ?_
    · (try simp only []);omega
    exact ⟨by (try simp only []);omega,e28,(by (try simp only [List.length_append,List.length_cons,List.length_nil,List.flatten_cons,List.flatten_nil,List.append_nil,List.length_take,List.length_drop]);omega)⟩
  have p32:=df h6;have e33:=Gg_ (f:=fun zz=>A4_ x zz x1) hp5_2 (Nk_ (by omega)) (A4_.eq_1 _ _);refine gm tv42 13 [] fun _=>?_;subst e33;exact qr2
theorem Iw_ (x:Aw_) (tick:Int) (hx:x.l.length≤1000:=by first | omega | (simp;omega) | decide +kernel) (hh:∀ d∈x.l,d.mail.head.length≤1000000:=by assumption):Fo Tryz.prog gb 191 [.agg (Aw_.pc x), .int .u64 tick] (fun u=> .val u) 29 53 DeedR.pc (C1_ x tick):=by
  refine Lj_ tv42 Tryz.func191 rfl Tryz.ntmps191 rfl cb191 (fun _=>rfl) rfl fun w N H hG=>?_;have e0:=C1_.eq_1 x tick;refine gm tv42 21 [0] fun B2=>?_;refine sw_own (t:=5) (k:=29) (e:=53) 1 DeedR.pc rfl rfl ?_;refine loop (ι:=Nat×(List DeedR)×Value) [1,4,9,10] [0] (fun ⟨k,out,u_out⟩=>[(11, .int .i64 (k:Int)),(5, .osl 1)]) (fun ⟨k,out,u_out⟩=>[(1, .arr u_out 29 53 DeedR.pc out)]) (fun ⟨k,out,u_out⟩=>k≤x.l.length∧C1_ x tick=Aq_ tick (x.l.drop k) out∧out.length≤k) (fun ⟨k,out,u_out⟩=>x.l.length-k) ⟨0,[],(.slice none 0 0)⟩ ⟨rfl,rfl,trivial⟩ ⟨rfl,trivial⟩ ?_ ?_
  · exact ⟨Nat.zero_le _,e0,(by first | omega | (simp;done) | (simp;omega))⟩
  rintro ⟨k,out,u_out⟩ ⟨hp3_1,hp3_2,hp3_3⟩;refine gx tv42 6 ?_;refine cnd rfl (fun h4=>?_) (fun h4=>?_)
  · have p5:=dt h4;have e6:=Gg_ (f:=fun zz=>Aq_ tick zz out) hp3_2 (Pd_ (by omega)) (Aq_.eq_2 _ _ _ _);have hc7:=getG (xs:=x.l) (k:=k) (by omega);have hh_hc7:=hh (gt x.l k) (List.mem_of_getElem? hc7);refine gx tv42 6 ?_;refine q1 (qidx tv42 k rfl rfl rfl hc7 rfl rfl rfl rfl) rfl fun w8=>?_;refine gm tv42 8 [2] fun B10=>?_;refine cV e6 R1_ (Hh_ _) rfl fun r hr11 e13 w12=>?_;refine gm tv42 18 [] fun _=>?_;refine cD e13 (fun p16 e17=>?_) (fun p22 e23=>?_)
    · refine gx tv42 5 ?_;refine call (Hb_ _ _) rfl rfl fun w18=>?_;refine gm tv42 8 [] fun _=>?_;refine ef (bsl 3 DeedR.pc [(⟨r.kind,tick,r.shop,r.queue,r.bind,r.name,r.id,r.how,r.frm,r.code,r.number,(⟨r.mail.id,r.mail.shop,r.mail.key,r.mail.head,r.mail.body,Hf_ tick r.mail.due,r.mail.hops⟩:Mail),r.text⟩:DeedR)] tv42 rfl rfl rfl rfl rfl (fun _=>rfl) rfl (by decide) (by decide) rfl fun u20=>?_);refine ef (app tv42 [(⟨r.kind,tick,r.shop,r.queue,r.bind,r.name,r.id,r.how,r.frm,r.code,r.number,(⟨r.mail.id,r.mail.shop,r.mail.key,r.mail.head,r.mail.body,Hf_ tick r.mail.due,r.mail.hops⟩:Mail),r.text⟩:DeedR)] rfl rfl rfl rfl rfl rfl rfl rfl rfl (src_o rfl rfl) (by first | omega | (simp;omega)) rfl fun u21=>?_);refine gy tv42 8 ?_;refine next ⟨(k+1),(out++[(⟨r.kind,tick,r.shop,r.queue,r.bind,r.name,r.id,r.how,r.frm,r.code,r.number,(⟨r.mail.id,r.mail.shop,r.mail.key,r.mail.head,r.mail.body,Hf_ tick r.mail.due,r.mail.hops⟩:Mail),r.text⟩:DeedR)]),(u21)⟩ rfl rfl ⟨rfl,rfl,trivial⟩ ⟨rfl,trivial⟩ ?_ ?_
      · (try simp only []);omega
      exact ⟨by (try simp only []);omega,e17,(by (try simp only [List.length_append,List.length_cons,List.length_nil,List.flatten_cons,List.flatten_nil,List.append_nil,List.length_take,List.length_drop]);omega)⟩
    refine gx tv42 5 ?_;refine ef (bsl 3 DeedR.pc [(⟨r.kind,tick,r.shop,r.queue,r.bind,r.name,r.id,r.how,r.frm,r.code,r.number,r.mail,r.text⟩:DeedR)] tv42 rfl rfl rfl rfl rfl (fun _=>rfl) rfl (by decide) (by decide) rfl fun u24=>?_);refine ef (app tv42 [(⟨r.kind,tick,r.shop,r.queue,r.bind,r.name,r.id,r.how,r.frm,r.code,r.number,r.mail,r.text⟩:DeedR)] rfl rfl rfl rfl rfl rfl rfl rfl rfl (src_o rfl rfl) (by first | omega | (simp;omega)) rfl fun u25=>?_);refine gy tv42 8 ?_;refine next ⟨(k+1),(out++[(⟨r.kind,tick,r.shop,r.queue,r.bind,r.name,r.id,r.how,r.frm,r.code,r.number,r.mail,r.text⟩:DeedR)]),(u25)⟩ rfl rfl ⟨rfl,rfl,trivial⟩ ⟨rfl,trivial⟩ ?_ ?_
    · (try simp only []);omega
    exact ⟨by (try simp only []);omega,e23,(by (try simp only [List.length_append,List.length_cons,List.length_nil,List.flatten_cons,List.flatten_nil,List.append_nil,List.length_take,List.length_drop]);omega)⟩
  have p26:=df h4;have e27:=Gg_ (f:=fun zz=>Aq_ tick zz out) hp3_2 (Nk_ (by omega)) (Aq_.eq_1 _ _);refine gx tv42 11 ?_;refine sw_val (t:=4) (i:=1) rfl rfl ?_;refine gx tv42 1 ?_;refine ro1 (j:=1) rfl rfl rfl ?_;exact (congrArg (fun r:(List DeedR)=>r) e27).symm
theorem Ic_ (c:ChanR) (tag:Int) (queue:Bs) (ht:c.takers.length≤1000:=by first | omega | (simp;omega) | decide +kernel):Fn Tryz.prog gb 44 [.agg (ChanR.pc c), .int .u64 tag, .str queue] (.tup [.agg (ChanR.pc ((Cn_ c tag queue).1)), .int .i64 ((Cn_ c tag queue).2)]):=by
  refine fC Tryz.func44 tv42 Tryz.ntmps44 fun w N H hG=>?_;have e0:=Cn_.eq_1 c tag queue;generalize Cn_ c tag queue=z at e0 ⊢;refine gm tv42 16 [0,1] fun B2=>?_;refine cD e0 (fun p5 e6=>?_) (fun p8 e9=>?_)
  · refine gm tv42 10 [] fun _=>?_;subst e6;exact qr2
  refine gx tv42 4 ?_;refine cV e9 R0_ (Gc_ _ _) rfl fun r hr10 e12 w11=>?_;have hA12:=Mf_ c tag
  (try rw [← hr10] at hA12)
  refine gx tv42 4 ?_;refine cD e12 (fun p15 e16=>?_) (fun p18 e19=>?_)
  · refine gm tv42 10 [] fun _=>?_;subst e16;exact qr2
  refine gx tv42 9 ?_;refine cD e19 (fun p21 e22=>?_) (fun p24 e25=>?_)
  · refine gm tv42 10 [] fun _=>?_;subst e22;exact qr2
  refine gx tv42 10 ?_;refine ef (bsl 2 V_.pc [(⟨tag,queue⟩:V_)] tv42 rfl rfl rfl rfl rfl (fun _=>rfl) rfl (by decide) (by decide) rfl fun u26=>?_);refine give 2 rfl ?_;refine ef (bsl 2 (slc V_.pc) [c.takers,[(⟨tag,queue⟩:V_)]] tv42 rfl rfl rfl rfl rfl (fun _=>rfl) rfl (by decide) (by decide) rfl fun u27=>?_);refine give 2 rfl ?_;refine call (Jj_ _) rfl rfl fun w28=>?_;refine gm tv42 12 [] fun _=>?_;subst e25;exact qr2
theorem Ht_ (c:ChanR) (tag:Int) (ht:c.takers.length≤1000:=by first | omega | (simp;omega) | decide +kernel):Fn Tryz.prog gb 46 [.agg (ChanR.pc c), .int .u64 tag] (.tup [.agg (ChanR.pc ((B7_ c tag).1)), .int .i64 ((B7_ c tag).2)]):=by
  refine fC Tryz.func46 tv42 Tryz.ntmps46 fun w N H hG=>?_;have e0:=B7_.eq_1 c tag;generalize B7_ c tag=z at e0 ⊢;refine gm tv42 11 [0,1] fun B2=>?_;refine cV e0 R0_ (Gc_ _ _) rfl fun r hr4 e6 w5=>?_;have hA6:=Mf_ c tag
  (try rw [← hr4] at hA6)
  refine gx tv42 10 ?_;refine cD e6 (fun p9 e10=>?_) (fun p12 e13=>?_)
  · refine gm tv42 9 [] fun _=>?_;subst e10;exact qr2
  refine gx tv42 3 ?_;refine aN [2,3,4,5,6,7] 13 mixd ?_;refine gX tv42 [0,1,2] 10 ?_;refine vq 3 (lshi tv42 (r).toNat rfl rfl rfl rfl rfl (fun _=>rfl) (by omega) (by omega)) rfl (by kernel_rfl) rfl fun w14=>?_;refine gXy tv42 [4,5,6,7] 5 ?_;refine vq 8 (lslo tv42 ((r+1)).toNat rfl rfl rfl rfl rfl (fun _=>rfl) (by omega) (by omega)) rfl (by kernel_rfl) rfl fun w15=>?_;refine vE 9 rfl (bsl 2 (slc V_.pc) [(c.takers.take (r).toNat),(c.takers.drop ((r+1)).toNat)] tv42 rfl rfl rfl rfl rfl (fun _=>rfl) rfl (by decide) (by decide) rfl fun u16=>?_);refine vE 10 rfl (J8_ 2 rfl (Nt_ (eC (Jj_ _) rfl fun w17=>?_)));refine gX tv42 [11] 1 ?_;refine vT 12 rfl (sO tv42 ?_);refine vD ?_;refine gm tv42 9 [] fun _=>?_;subst e13;exact qr2
theorem Fc_ (c:ChanR) (x:LentR) (hn:c.lent.length≤10000000:=by first | omega | (simp;omega) | decide +kernel):Fn Tryz.prog gb 10 [.agg (ChanR.pc c), .agg (LentR.pc x)] (.agg (ChanR.pc (Cq_ c x))):=by
  refine fC Tryz.func10 tv42 Tryz.ntmps10 fun w N H hG=>?_;have e0:=Cq_.eq_1 c x;refine gm tv42 12 [0,1,2] fun B2=>?_;refine ef (bsl 3 LentR.pc [x] tv42 rfl rfl rfl rfl rfl (fun _=>rfl) rfl (by decide) (by decide) rfl fun u5=>?_);refine give 3 rfl ?_;refine ef (bsl 3 (slc LentR.pc) [c.lent,[x]] tv42 rfl rfl rfl rfl rfl (fun _=>rfl) rfl (by decide) (by decide) rfl fun u6=>?_);refine give 3 rfl ?_;refine call (K5_ _) rfl rfl fun w7=>?_;refine gm tv42 11 [] fun _=>?_;exact rt1 rfl rfl (B1_ (fun r:ChanR=> .agg (ChanR.pc r)) e0 (ple rfl))
theorem Fx_ (c:ChanR) (hn:c.lent.length≤10000000:=by first | omega | (simp;omega) | decide +kernel):Fn Tryz.prog gb 14 [.agg (ChanR.pc c)] (.sl LentR.pc (Cb_ c)):=by
  refine fC Tryz.func14 tv42 Tryz.ntmps14 fun w N H hG=>?_;have e0:=Cb_.eq_1 c;refine gm tv42 10 [0] fun B2=>?_;refine call (Ss_ _) rfl rfl fun w3=>?_;refine gx tv42 4 ?_;exact rt1 rfl rfl (B1_ (fun r:(List LentR)=> .sl LentR.pc r) e0 (ple rfl))
theorem Gr_ (c:ChanR) (id:Int) (how:Int) (upto:Bool) (hn:c.lent.length≤10000000:=by first | omega | (simp;omega) | decide +kernel):Fo Tryz.prog gb 11 [.agg (ChanR.pc c), .int .u64 id, .int .u64 how, .bool upto] (fun u=> .tup [.val u, .int .i64 ((Bj_ c id how upto).2)]) 29 53 DeedR.pc ((Bj_ c id how upto).1):=by
  refine Lj_ tv42 Tryz.func11 rfl Tryz.ntmps11 rfl cb11 (fun _=>rfl) rfl fun w N H hG=>?_;have e0:=Bj_.eq_1 c id how upto;refine gm tv42 14 [0] fun B2=>?_;refine cD e0 (fun p4 e5=>?_) (fun p6 e7=>?_)
  · refine gx tv42 6 ?_;refine sw_own (t:=8) (k:=29) (e:=53) 1 DeedR.pc rfl rfl ?_;refine sw_val (t:=8) (i:=1) rfl rfl ?_;refine gx tv42 2 ?_;refine roN (j:=1) (.slice none 0 0) rfl rfl rfl rfl ?_ ?_
    · exact (congrArg (fun r:(List DeedR)×Int=>r.1) e5).symm
    exact B1_ (fun r:(List DeedR)×Int=> .tup [.val (.slice none 0 0), .int .i64 r.2]) e5 (ple rfl)
  refine gx tv42 17 ?_;refine sw_own (t:=10) (k:=29) (e:=53) 1 DeedR.pc rfl rfl ?_;refine loop (ι:=Nat×(List DeedR)×Value) [1,2,3,4,16,17] [0] (fun ⟨k,out,u_out⟩=>[(18, .int .i64 (k:Int)),(10, .osl 1)]) (fun ⟨k,out,u_out⟩=>[(1, .arr u_out 29 53 DeedR.pc out)]) (fun ⟨k,out,u_out⟩=>k≤c.lent.length∧Bj_ c id how upto=X_ c id how upto (c.lent.drop k) out∧out.length≤k) (fun ⟨k,out,u_out⟩=>c.lent.length-k) ⟨0,[],(.slice none 0 0)⟩ ⟨rfl,rfl,trivial⟩ ⟨rfl,trivial⟩ ?_ ?_
  · exact ⟨Nat.zero_le _,e7,(by first | omega | (simp;done) | (simp;omega))⟩
  rintro ⟨k,out,u_out⟩ ⟨hp8_1,hp8_2,hp8_3⟩;refine gx tv42 6 ?_;refine cnd rfl (fun h9=>?_) (fun h9=>?_)
  · have p10:=dt h9;have e11:=Gg_ (f:=fun zz=>X_ c id how upto zz out) hp8_2 (Pd_ (by omega)) (X_.eq_2 _ _ _ _ _ _ _);have hc12:=getG (xs:=c.lent) (k:=k) (by omega);refine gx tv42 6 ?_;refine q1 (qidx tv42 k rfl rfl rfl hc12 rfl rfl rfl rfl) rfl fun w13=>?_;refine gmy tv42 17 [2] fun B15=>?_;refine callg rfl (fun hc=>(D6_ _ _ _)) rfl ⟨(fun hc=>hc),(fun hc=>hc),(fun hc=>hc),trivial⟩ rfl rfl fun _=>?_;refine gy tv42 13 ?_;refine cE e11 (fun h16 e17=>?_) (fun h16 e20=>?_)
    · refine gy tv42 8 ?_;refine next ⟨(k+1),out,(u_out)⟩ rfl rfl ⟨rfl,rfl,trivial⟩ ⟨rfl,trivial⟩ ?_ ?_
      · (try simp only []);omega
      exact ⟨by (try simp only []);omega,e17,(by (try simp only [List.length_append,List.length_cons,List.length_nil,List.flatten_cons,List.flatten_nil,List.append_nil,List.length_take,List.length_drop]);omega)⟩
    have h18:=orl h16;have h19:=orr h16;refine gx tv42 12 ?_;refine ef (bsl 3 DeedR.pc [(⟨8,0,(⟨[],0,[]⟩:ShopR),(⟨[],0,0,[]⟩:Al_),(⟨[],[],false,[],[],false⟩:BindR),(gt c.lent k).queue,(gt c.lent k).id,(IntKind.wrap .u8 how),0,0,0,(⟨0,[],[],[],[],0,0⟩:Mail),[]⟩:DeedR)] tv42 rfl rfl rfl rfl rfl (fun _=>rfl) rfl (by decide) (by decide) rfl fun u21=>?_);refine ef (app tv42 [(⟨8,0,(⟨[],0,[]⟩:ShopR),(⟨[],0,0,[]⟩:Al_),(⟨[],[],false,[],[],false⟩:BindR),(gt c.lent k).queue,(gt c.lent k).id,(IntKind.wrap .u8 how),0,0,0,(⟨0,[],[],[],[],0,0⟩:Mail),[]⟩:DeedR)] rfl rfl rfl rfl rfl rfl rfl rfl rfl (src_o rfl rfl) (by first | omega | (simp;omega)) rfl fun u22=>?_);refine gx tv42 11 ?_;refine cD e20 (fun p24 e25=>?_) (fun p26 e27=>?_)
    · refine gx tv42 7 ?_;refine sw_val (t:=8) (i:=1) rfl rfl ?_;refine gx tv42 6 ?_;refine roN (j:=1) u22 rfl rfl rfl rfl ?_ ?_
      · exact (congrArg (fun r:(List DeedR)×Int=>r.1) e25).symm
      exact B1_ (fun r:(List DeedR)×Int=> .tup [.val u22, .int .i64 r.2]) e25 (ple rfl)
    refine gy tv42 7 ?_;refine next ⟨(k+1),(out++[(⟨8,0,(⟨[],0,[]⟩:ShopR),(⟨[],0,0,[]⟩:Al_),(⟨[],[],false,[],[],false⟩:BindR),(gt c.lent k).queue,(gt c.lent k).id,(IntKind.wrap .u8 how),0,0,0,(⟨0,[],[],[],[],0,0⟩:Mail),[]⟩:DeedR)]),(u22)⟩ rfl rfl ⟨rfl,rfl,trivial⟩ ⟨rfl,trivial⟩ ?_ ?_
    · (try simp only []);omega
    exact ⟨by (try simp only []);omega,e27,(by (try simp only [List.length_append,List.length_cons,List.length_nil,List.flatten_cons,List.flatten_nil,List.append_nil,List.length_take,List.length_drop]);omega)⟩
  have p28:=df h9;have e29:=Gg_ (f:=fun zz=>X_ c id how upto zz out) hp8_2 (Nk_ (by omega)) (X_.eq_1 _ _ _ _ _);refine gx tv42 11 ?_;refine sw_own (t:=8) (k:=29) (e:=53) 2 DeedR.pc rfl rfl ?_;refine sw_val (t:=8) (i:=2) rfl rfl ?_;refine gx tv42 1 ?_;refine roN (j:=2) (.slice none 0 0) rfl rfl rfl rfl ?_ ?_
  · exact (congrArg (fun r:(List DeedR)×Int=>r.1) e29).symm
  exact B1_ (fun r:(List DeedR)×Int=> .tup [.val (.slice none 0 0), .int .i64 r.2]) e29 (ple rfl)
theorem Ip_ (c:ChanR) (l:List DeedR) (hn:c.lent.length≤10000000:=by first | omega | (simp;omega) | decide +kernel):Fn Tryz.prog gb 12 [.agg (ChanR.pc c), .sl DeedR.pc l] (.agg (ChanR.pc (Dk_ c l))):=by
  refine fC Tryz.func12 tv42 Tryz.ntmps12 fun w N H hG=>?_;have c_takers_l:c.takers.length≤140737488355328:=w.1.2.1.1;have c_lent_l:c.lent.length≤140737488355328:=w.1.2.2.1.1;have c_held_l_l:c.held.l.length≤140737488355328:=w.1.2.2.2.2.2.2.1.1;have l_l:l.length≤140737488355328:=w.2.1.1;have e0:=Dk_.eq_1 c l;refine gm tv42 15 [0,1] fun B2=>?_;refine loop (ι:=Nat×ChanR) [2,4,8,9] [1] (fun ⟨k,x⟩=>[(10, .int .i64 (k:Int))]) (fun ⟨k,x⟩=>[(0, .box (B2 0) 32 (ChanR.pc x))]) (fun ⟨k,x⟩=>k≤l.length∧Dk_ c l=Ar_ (l.drop k) x∧x.lent.length≤10000000) (fun ⟨k,x⟩=>l.length-k) ⟨0,c⟩ ⟨rfl,trivial⟩ ⟨rfl,trivial⟩ ?_ ?_
  · exact ⟨Nat.zero_le _,e0,(by first | omega | (simp;done) | (simp;omega))⟩
  rintro ⟨k,x⟩ ⟨hp4_1,hp4_2,hp4_3⟩;refine gx tv42 6 ?_;refine cnd rfl (fun h5=>?_) (fun h5=>?_)
  · have p6:=dt h5;have e7:=Gg_ (f:=fun zz=>Ar_ zz x) hp4_2 (Pd_ (by omega)) (Ar_.eq_2 _ _ _);have hc8:=getG (xs:=l) (k:=k) (by omega);refine gx tv42 6 ?_;refine q1 (qidx tv42 k rfl rfl rfl hc8 rfl rfl rfl rfl) rfl fun w9=>?_;refine gm tv42 14 [2] fun B11=>?_;refine cV e7 R0_ (Si_ _ (⟨(gt l k).id,(gt l k).name⟩:LentR)) rfl fun r hr12 e14 w13=>?_;have hA14:=Ko_ (fun y=>decide ((⟨(gt l k).id,(gt l k).name⟩:LentR)=y)) x.lent
    (try rw [← hr12] at hA14)
    refine gy tv42 14 ?_;refine cE e14 (fun h16 e21=>?_) (fun h16 e26=>?_)
    · have h17:=bl h16;have p18:=dt h17;have h19:=br h16;have p20:=dt h19;refine aN [3,4,5,6,7,8] 13 mixd ?_;refine gX tv42 [0,1,2] 10 ?_;refine vq 3 (lshi tv42 (r).toNat rfl rfl rfl rfl rfl (fun _=>rfl) (by omega) (by omega)) rfl (by kernel_rfl) rfl fun w22=>?_;refine gXy tv42 [4,5,6,7] 5 ?_;refine vq 8 (lslo tv42 ((r+1)).toNat rfl rfl rfl rfl rfl (fun _=>rfl) (by omega) (by omega)) rfl (by kernel_rfl) rfl fun w23=>?_;refine vE 9 rfl (bsl 3 (slc LentR.pc) [(x.lent.take (r).toNat),(x.lent.drop ((r+1)).toNat)] tv42 rfl rfl rfl rfl rfl (fun _=>rfl) rfl (by decide) (by decide) rfl fun u24=>?_);refine vE 10 rfl (J8_ 3 rfl (Nt_ (eC (K5_ _) rfl fun w25=>?_)));refine gX tv42 [11] 1 ?_;refine vT 12 rfl (sO tv42 ?_);refine vD ?_;refine gy tv42 6 ?_;refine next ⟨(k+1),(⟨x.credit,x.takers,[(x.lent.take (r).toNat),(x.lent.drop ((r+1)).toNat)].flatten,x.sure,x.drafts,x.puts,x.held⟩:ChanR)⟩ rfl rfl ⟨rfl,trivial⟩ ⟨rfl,trivial⟩ ?_ ?_
      · (try simp only []);omega
      exact ⟨by (try simp only []);omega,e21,(by (try simp only [List.length_append,List.length_cons,List.length_nil,List.flatten_cons,List.flatten_nil,List.append_nil,List.length_take,List.length_drop]);omega)⟩
    refine gy tv42 7 ?_;refine next ⟨(k+1),x⟩ rfl rfl ⟨rfl,trivial⟩ ⟨rfl,trivial⟩ ?_ ?_
    · (try simp only []);omega
    exact ⟨by (try simp only []);omega,e26,(by (try simp only [List.length_append,List.length_cons,List.length_nil,List.flatten_cons,List.flatten_nil,List.append_nil,List.length_take,List.length_drop]);omega)⟩
  have p27:=df h5;have e28:=Gg_ (f:=fun zz=>Ar_ zz x) hp4_2 (Nk_ (by omega)) (Ar_.eq_1 _);refine gm tv42 12 [] fun _=>?_;exact rt1 rfl rfl (B1_ (fun r:ChanR=> .agg (ChanR.pc r)) e28 (ple rfl))
end Go.SW.V
set_option linter.unusedVariables false
set_option maxRecDepth 100000
set_option maxHeartbeats 4000000
namespace Go.SW.V
open Go.SW Go.Proofs
abbrev R2_:(Aw_×Int)→PV:=fun r=> .tup [.agg (Aw_.pc r.1), .int .i64 r.2]
abbrev R3_:(List LentR)→PV:=fun r=> .sl LentR.pc r
abbrev R5_:(List DeedR)→PV:=fun r=> .sl DeedR.pc r
theorem cb151:U_ Tryz.prog 151:=S_ Tryz.func151 (by kernel_rfl) (by kernel_rfl)
def tbv43:Tb:=[(4,ty4),(5,ty5),(9,ty9),(27,ty27),(30,ty30),(32,ty32),(53,ty53),(56,ty56),(57,ty57),(59,ty59),(126,ty126),(184,Wp_)]
theorem tv43:tbB Tryz.prog tbv43=true:=by kernel_rfl
theorem Cv_ (c:ChanR) (l:List DeedR) (hx:c.held.l.length≤1000:=by first | omega | (simp;omega) | decide +kernel):Fn Tryz.prog gb 56 [.agg (ChanR.pc c), .sl DeedR.pc l] (.tup [.agg (ChanR.pc ((Aj_ c l).1)), .int .i64 ((Aj_ c l).2)]):=by
  refine fC Tryz.func56 tv43 Tryz.ntmps56 fun w N H hG=>?_;have e0:=Aj_.eq_1 c l;generalize Aj_ c l=z at e0 ⊢;refine gm tv43 15 [0,1] fun B2=>?_;refine cE e0 (fun h4 e6=>?_) (fun h4 e9=>?_)
  · have h5:=Bo_ h4;refine gm tv43 9 [] fun _=>?_;subst e6;exact qr2
  have h8:=Cp_ h4;refine gx tv43 7 ?_;refine cV e9 R2_ (Hy_ _ _) rfl fun r hr10 e12 w11=>?_;have hA12:=T5_ c.held l
  (try rw [← hr10] at hA12)
  (try have hA12b:=hA12 (by first | assumption | omega | exact Lg_ | (simp;done)))
  (try have hA12c:=hA12b)
  (try obtain ⟨hA12d0,hA12d1,hA12d2⟩:=hA12c)
  refine gm tv43 24 [2] fun B15=>?_;subst e12;exact qr2
theorem Ir_ (c:ChanR) (tick:Int) (hx:c.held.l.length≤1000:=by first | omega | (simp;omega) | decide +kernel) (hh:∀ d∈c.held.l,d.mail.head.length≤1000000:=by assumption):Fo Tryz.prog gb 151 [.agg (ChanR.pc c), .int .u64 tick] (fun u=> .tup [.val u, .int .i64 ((Cm_ c tick).2)]) 29 53 DeedR.pc ((Cm_ c tick).1):=by
  refine Lj_ tv43 Tryz.func151 rfl Tryz.ntmps151 rfl cb151 (fun _=>rfl) rfl fun w N H hG=>?_;have e0:=Cm_.eq_1 c tick;refine gm tv43 15 [0] fun B2=>?_;refine cE e0 (fun h3 e5=>?_) (fun h3 e7=>?_)
  · have h4:=Bo_ h3;refine gx tv43 6 ?_;refine sw_own (t:=4) (k:=29) (e:=53) 1 DeedR.pc rfl rfl ?_;refine sw_val (t:=4) (i:=1) rfl rfl ?_;refine gx tv43 2 ?_;refine roN (j:=1) (.slice none 0 0) rfl rfl rfl rfl ?_ ?_
    · exact (congrArg (fun r:(List DeedR)×Int=>r.1) e5).symm
    exact B1_ (fun r:(List DeedR)×Int=> .tup [.val (.slice none 0 0), .int .i64 r.2]) e5 (ple rfl)
  have h6:=Cp_ h3;refine gx tv43 7 ?_;refine ef (ecallo 1 (Iw_ _ _) rfl rfl ?_);generalize hr10:C1_ c.held tick=r;intro u9 w8;have e11:=e7.trans (C0_ hr10.symm);have hr10:=hr10.symm;have hA11:=Yw_ c.held tick
  (try rw [← hr10] at hA11)
  refine gx tv43 4 ?_;refine gx tv43 1 ?_;refine roN (j:=1) u9 rfl rfl rfl rfl ?_ ?_
  · exact (congrArg (fun r:(List DeedR)×Int=>r.1) e11).symm
  exact B1_ (fun r:(List DeedR)×Int=> .tup [.val u9, .int .i64 r.2]) e11 (ple rfl)
end Go.SW.V
set_option linter.unusedVariables false
set_option maxRecDepth 100000
set_option maxHeartbeats 4000000
namespace Go.SW.V
open Go.SW Go.Proofs
def tbv47:Tb:=[(9,ty9),(32,ty32),(39,ty39),(44,ty44),(49,ty49),(53,ty53),(200,O7_),(342,Wx_)]
theorem tv47:tbB Tryz.prog tbv47=true:=by kernel_rfl
theorem Th_:Fn Tryz.prog gb 241 [] (.bool true):=by
  refine fC Tryz.func241 tv47 Tryz.ntmps241 fun w N H hG=>?_;refine gx tv47 9 ?_;refine call (Il_ (⟨[],[]⟩:BookR) (⟨[97],1,[]⟩:ShopR)) rfl rfl fun w1=>?_;refine gm tv47 12 [0] fun B3=>?_;refine call (Fd_ _ (⟨[97],[113],false,[],[],false⟩:BindR)) rfl rfl fun w4=>?_;refine gm tv47 10 [] fun _=>?_;refine call (Fd_ _ (⟨[97],[113],false,[120],[],false⟩:BindR)) rfl rfl fun w6=>?_;refine gm tv47 10 [] fun _=>?_;refine call (Fn.le (Hj_ _ _ _ []) (F_ (ple rfl) (F_ (ple rfl) (F_ (ple rfl) (F_ Bi_ A5_)))) (ple rfl) rfl) rfl rfl fun w8=>?_;refine gx tv47 11 ?_;refine call J1_ rfl rfl fun w9=>?_;refine gx tv47 1 ?_;refine ungd rfl rfl ?_;refine call Or_ rfl rfl fun w10=>?_;refine gx tv47 2 ?_;refine ungd rfl rfl ?_;refine gx tv47 1 ?_;refine ungd rfl rfl ?_;refine gx tv47 1 ?_;refine so_rt (t:=37) (p':= .bool true) (ple (congrArg PV.bool (show decide (((Ax_ ((Ax_ ((B3_ (⟨[],[]⟩:BookR) (⟨[97],1,[]⟩:ShopR)).1) (⟨[97],[113],false,[],[],false⟩:BindR)).1) (⟨[97],[113],false,[120],[],false⟩:BindR)).2)=0)=true by decide +kernel))) rfl ?_;refine gx tv47 2 ?_;refine ungd rfl rfl ?_;refine gx tv47 1 ?_;refine ungd rfl rfl ?_;refine gx tv47 1 ?_;refine so_rt (t:=41) (p':= .bool true) (ple (congrArg PV.bool (show decide (((By_ ((Ax_ ((Ax_ ((B3_ (⟨[],[]⟩:BookR) (⟨[97],1,[]⟩:ShopR)).1) (⟨[97],[113],false,[],[],false⟩:BindR)).1) (⟨[97],[113],false,[120],[],false⟩:BindR)).1) [97] [] []).2.2)=0)=true by decide +kernel))) rfl ?_;refine gx tv47 2 ?_;refine ungd rfl rfl ?_;refine gx tv47 1 ?_;refine ungd rfl rfl ?_;refine ef (bsl 1 strc [[113]] tv47 rfl rfl rfl rfl rfl (fun _=>rfl) rfl (by decide) (by decide) rfl fun u11=>?_);refine ungd rfl rfl ?_;refine ef (calll 1 rfl (eq_Str _ _) rfl rfl rfl fun w12=>?_);refine so_rt (t:=46) (p':= .bool true) (ple (congrArg PV.bool (show decide (((By_ ((Ax_ ((Ax_ ((B3_ (⟨[],[]⟩:BookR) (⟨[97],1,[]⟩:ShopR)).1) (⟨[97],[113],false,[],[],false⟩:BindR)).1) (⟨[97],[113],false,[120],[],false⟩:BindR)).1) [97] [] []).1)=[[113]])=true by decide +kernel))) rfl ?_;refine gx tv47 2 ?_;refine ungd rfl rfl ?_;refine gx tv47 1 ?_;refine ungd rfl rfl ?_;refine gx tv47 1 ?_;refine ungd rfl rfl ?_;refine gx tv47 1 ?_;refine so_rt (t:=51) (p':= .bool true) (ple (congrArg PV.bool (show decide ((((By_ ((Ax_ ((Ax_ ((B3_ (⟨[],[]⟩:BookR) (⟨[97],1,[]⟩:ShopR)).1) (⟨[97],[113],false,[],[],false⟩:BindR)).1) (⟨[97],[113],false,[120],[],false⟩:BindR)).1) [97] [] []).2.1).length:Int)=0)=true by decide +kernel))) rfl ?_;refine gx tv47 5 ?_;refine rt1 rfl rfl ?_;refine ple ?_;exact congrArg PV.bool (by first | rfl | decide +kernel)
theorem Vc_:Fn Tryz.prog gb 214 [] (.bool true):=by
  refine fC Tryz.func214 tv47 Tryz.ntmps214 fun w N H hG=>?_;refine gx tv47 7 ?_;refine call Th_ rfl rfl fun w1=>?_;refine gx tv47 4 ?_;refine rt1 rfl rfl ?_;refine ple ?_
  rfl
theorem Vi_:Fn Tryz.prog gb 174 [] (.bool true):=by
  refine fC Tryz.func174 tv47 Tryz.ntmps174 fun w N H hG=>?_;refine gx tv47 8 ?_;refine call (Sy_ (⟨11,1,(⟨[],0,[]⟩:ShopR),(⟨[],0,0,[]⟩:Al_),(⟨[],[],false,[],[],false⟩:BindR),[],0,0,0,0,0,(⟨0,[],[],[],[],0,0⟩:Mail),[]⟩:DeedR)) rfl rfl fun w1=>?_;have :=Nn_ (d:=(⟨11,1,(⟨[],0,[]⟩:ShopR),(⟨[],0,0,[]⟩:Al_),(⟨[],[],false,[],[],false⟩:BindR),[],0,0,0,0,0,(⟨0,[],[],[],[],0,0⟩:Mail),[]⟩:DeedR)) (by first | omega | decide);have :=Pm_ (⟨11,1,(⟨[],0,[]⟩:ShopR),(⟨[],0,0,[]⟩:Al_),(⟨[],[],false,[],[],false⟩:BindR),[],0,0,0,0,0,(⟨0,[],[],[],[],0,0⟩:Mail),[]⟩:DeedR);refine gx tv47 9 ?_;refine call V7_ rfl rfl fun w2=>?_;refine gx tv47 1 ?_;refine ungd rfl rfl ?_;refine call Vc_ rfl rfl fun w3=>?_;refine gx tv47 2 ?_;refine ungd rfl rfl ?_;refine gx tv47 1 ?_;refine ungd rfl rfl ?_;refine gx tv47 1 ?_;refine so_rt (t:=14) (p':= .bool true) (ple (congrArg PV.bool (show decide ((Cx_ (⟨11,1,(⟨[],0,[]⟩:ShopR),(⟨[],0,0,[]⟩:Al_),(⟨[],[],false,[],[],false⟩:BindR),[],0,0,0,0,0,(⟨0,[],[],[],[],0,0⟩:Mail),[]⟩:DeedR))=0)=true by decide +kernel))) rfl ?_;refine gx tv47 2 ?_;refine ungd rfl rfl ?_;refine gx tv47 1 ?_;refine ungd rfl rfl ?_;refine gx tv47 1 ?_;refine ungd rfl rfl ?_;refine gx tv47 1 ?_;refine so_rt (t:=19) (p':= .bool true) (ple (congrArg PV.bool (show decide (((Z_ (⟨11,1,(⟨[],0,[]⟩:ShopR),(⟨[],0,0,[]⟩:Al_),(⟨[],[],false,[],[],false⟩:BindR),[],0,0,0,0,0,(⟨0,[],[],[],[],0,0⟩:Mail),[]⟩:DeedR)).length:Int)=9)=true by decide +kernel))) rfl ?_;refine gx tv47 5 ?_;refine rt1 rfl rfl ?_;refine ple ?_;exact congrArg PV.bool (by first | rfl | decide +kernel)
theorem Vn_:Fn Tryz.prog gb 133 [] (.bool true):=by
  refine fC Tryz.func133 tv47 Tryz.ntmps133 fun w N H hG=>?_;refine gx tv47 7 ?_;refine call Vi_ rfl rfl fun w1=>?_;refine gx tv47 4 ?_;refine rt1 rfl rfl ?_;refine ple ?_
  rfl
theorem U1_:Fn Tryz.prog gb 91 [] (.bool true):=by
  refine fC Tryz.func91 tv47 Tryz.ntmps91 fun w N H hG=>?_;refine gx tv47 7 ?_;refine call Vn_ rfl rfl fun w1=>?_;refine gx tv47 1 ?_;refine ungd rfl rfl ?_;refine call (Hb_ _ _) rfl rfl fun w2=>?_;refine ungd rfl rfl ?_;refine gx tv47 1 ?_;refine so_rt (t:=4) (p':= .bool true) (ple (congrArg PV.bool (show decide ((Hf_ 3 4)=7)=true by decide +kernel))) rfl ?_;refine gx tv47 2 ?_;refine ungd rfl rfl ?_;refine call (Hb_ _ _) rfl rfl fun w3=>?_;refine ungd rfl rfl ?_;refine gx tv47 1 ?_;refine so_rt (t:=8) (p':= .bool true) (ple (congrArg PV.bool (show decide ((Hf_ 18446744073709551615 1)=0)=true by decide +kernel))) rfl ?_;refine gx tv47 5 ?_;refine rt1 rfl rfl ?_;refine ple ?_;exact congrArg PV.bool (by first | rfl | decide +kernel)
theorem Uc_:Fn Tryz.prog gb 37 [] (.bool true):=by
  refine fC Tryz.func37 tv47 Tryz.ntmps37 fun w N H hG=>?_;refine gx tv47 7 ?_;refine call U1_ rfl rfl fun w1=>?_;refine gx tv47 4 ?_;refine rt1 rfl rfl ?_;refine ple ?_
  rfl
theorem Wd_:Fn Tryz.prog gb 7 [] (.bool true):=by
  refine fC Tryz.func7 tv47 Tryz.ntmps7 fun w N H hG=>?_;refine gx tv47 7 ?_;refine call Jn_ rfl rfl fun w1=>?_;refine call (Es_ _ _) rfl rfl fun w2=>?_;refine gm tv47 10 [0] fun B4=>?_;refine call Uc_ rfl rfl fun w5=>?_;refine gx tv47 1 ?_;refine ungd rfl rfl ?_;refine gx tv47 1 ?_;refine ungd rfl rfl ?_;refine gx tv47 1 ?_;refine so_rt (t:=11) (p':= .bool true) (ple (congrArg PV.bool (show decide (((Ah_ (Dm_) 1).2)=0)=true by decide +kernel))) rfl ?_;refine gx tv47 2 ?_;refine ungd rfl rfl ?_;refine gx tv47 1 ?_;refine ungd rfl rfl ?_;refine call (D3_ _) rfl rfl fun w6=>?_;refine ungd rfl rfl ?_;refine gx tv47 1 ?_;refine so_rt (t:=16) (p':= .bool true) (ple (congrArg PV.bool (show decide ((Dl_ ((Ah_ (Dm_) 1).1))=1)=true by decide +kernel))) rfl ?_;refine gx tv47 2 ?_;refine ungd rfl rfl ?_;refine gx tv47 1 ?_;refine ungd rfl rfl ?_;refine gx tv47 1 ?_;refine ungd rfl rfl ?_;refine call (Fc_ _ (⟨1,[113]⟩:LentR)) rfl rfl fun w7=>?_;refine ungd rfl rfl ?_;refine call (D3_ _) rfl rfl fun w8=>?_;refine ungd rfl rfl ?_;refine gx tv47 1 ?_;refine so_rt (t:=23) (p':= .bool true) (ple (congrArg PV.bool (show decide ((Dl_ (Cq_ ((Ah_ (Dm_) 1).1) (⟨1,[113]⟩:LentR)))=0)=true by decide +kernel))) rfl ?_;refine gx tv47 5 ?_;refine rt1 rfl rfl ?_;refine ple ?_;exact congrArg PV.bool (by first | rfl | decide +kernel)
theorem Vt_:Fn Tryz.prog gb 64 [] (.bool true):=by
  refine fC Tryz.func64 tv47 Tryz.ntmps64 fun w N H hG=>?_;refine gx tv47 7 ?_;refine call Wd_ rfl rfl fun w1=>?_;refine gx tv47 4 ?_;refine rt1 rfl rfl ?_;refine ple ?_
  rfl
end Go.SW.V
set_option linter.unusedVariables false
set_option maxRecDepth 100000
set_option maxHeartbeats 4000000
namespace Go.SW.V
open Go.SW Go.Proofs
abbrev R6_:((List DeedR)×Bool)→PV:=fun r=> .tup [.sl DeedR.pc r.1, .bool r.2]
abbrev R7_:(ChanR×Int)→PV:=fun r=> .tup [.agg (ChanR.pc r.1), .int .i64 r.2]
abbrev R9_:(ChanR×Int)→PV:=fun r=> .tup [.agg (ChanR.pc r.1), .int .u64 r.2]
end Go.SW.V
set_option linter.unusedVariables false
set_option maxRecDepth 100000
set_option maxHeartbeats 4000000
namespace Go.SW.V
open Go.SW Go.Proofs
theorem cb231:U_ Tryz.prog 231:=S_ Tryz.func231 (by kernel_rfl) (by kernel_rfl)
theorem sz9:Sz Tryz.prog 9 1:=fun w=>by kernel_rfl
abbrev ty64:TI:=⟨.agg [(0,1),(1,1),(2,1),(3,1),(4,1),(5,1),(6,1),(7,1),(8,1),(9,1)],10,120,[.int .u8 0, .int .u8 0, .str [], .str [], .str [], .sl Pair.pc [], .str [], .int .u64 0, .int .u64 0, .bool false]⟩
abbrev ty67:TI:=⟨.agg [(0,1),(1,1),(2,1),(3,1),(4,1),(5,1),(6,1),(7,1),(8,1),(9,1)],10,120,[.int .u8 0, .int .u8 0, .str [], .str [], .str [], .sl Pair.pc [], .str [], .int .u64 0, .int .u64 0, .bool false]⟩
abbrev ty140:TI:=⟨.agg [(0,1),(1,1),(2,1),(3,1),(4,1),(5,1),(6,1),(7,1),(8,1),(9,1)],10,10,[.bool false, .bool false, .bool false, .bool false, .bool false, .bool false, .bool false, .bool false, .bool false, .bool false]⟩
def tbv60:Tb:=[(4,ty4),(5,ty5),(9,ty9),(27,ty27),(47,ty47),(64,ty64),(67,ty67),(140,ty140)]
theorem tv60:tbB Tryz.prog tbv60=true:=by kernel_rfl
theorem strings_ContainsAny (s cs:Bs) (hs:s.length<4294967281) (hc:cs.length<4294967281) (ha:∀ c∈s,c.toNat<128) (hb:∀ c∈cs,c.toNat<128):Fn Tryz.prog gb 231 [.str s, .str cs] (.bool (H2_ s cs)):=
  Qw_ (vs:=[str s,str cs]) (v:= .bool (H2_ s cs)) cb231 rfl rfl
    (fun w H=>Sims.cons (Sim.str w.1) (Sims.cons (Sim.str w.2.1) Sims.nil))
    (fun w H=>Sim.bool)
    (fun w H hG=>SW.strings_ContainsAny H s cs hs hc ha hb)
theorem An_ (m:Method) (letters:Bs) (hk:m.kind≤20:=by omega) (hll:letters.length<4294967281:=by decide) (hlp:∀ c∈letters,c.toNat<128:=by decide):Fn Tryz.prog gb 197 [.agg (Method.pc m), .str letters] (.bool (Ad_ m letters)):=by
  refine fC Tryz.func197 tv60 Tryz.ntmps197 fun w N H hG=>?_;have m_channel_r:0≤m.channel∧m.channel≤255:=w.1.1;have m_kind_r:0≤m.kind∧m.kind≤255:=w.1.2.1;have m_name_l:m.name.length≤9223372036854775807:=w.1.2.2.1;have m_other_l:m.other.length≤9223372036854775807:=w.1.2.2.2.1;have m_key_l:m.key.length≤9223372036854775807:=w.1.2.2.2.2.1;have m_head_l:m.head.length≤140737488355328:=w.1.2.2.2.2.2.1.1;have m_body_l:m.body.length≤9223372036854775807:=w.1.2.2.2.2.2.2.1;have m_n_r:0≤m.n∧m.n≤18446744073709551615:=w.1.2.2.2.2.2.2.2.1;have m_m_r:0≤m.m∧m.m≤18446744073709551615:=w.1.2.2.2.2.2.2.2.2.1;have letters_l:letters.length≤9223372036854775807:=w.2.1;have e0:=Ad_.eq_1 m letters;refine gm tv60 10 [0] fun B2=>?_;refine q1 (qgstr (m:=(m.kind).toNat) tellsT (by decide) (fun _ h=>Mp_ h) rfl Tryz.underlying219 sz9 (by omega) (by omega) rfl) rfl fun w3=>?_;refine gx tv60 2 ?_;refine call (strings_ContainsAny _ _ (Nat.lt_of_le_of_lt (Gk_ _) (by decide)) (by assumption) (J2_ _) (by assumption)) rfl rfl fun w4=>?_;refine gx tv60 4 ?_;exact rt1 rfl rfl (B1_ (fun r:Bool=> .bool r) e0 (ple rfl))
theorem Gf_ (m:Method) (hk:m.kind≤20:=by omega):Fn Tryz.prog gb 160 [.agg (Method.pc m)] (.bool (B0_ m)):=by
  refine fC Tryz.func160 tv60 Tryz.ntmps160 fun w N H hG=>?_;have e0:=B0_.eq_1 m;generalize B0_ m=z at e0 ⊢;refine gm tv60 22 [0] fun B2=>?_;refine callg rfl (fun hc=>(An_ _ _)) rfl ⟨(fun hc=>hc),trivial⟩ rfl rfl fun _=>?_;refine gy tv60 5 ?_;refine cE e0 (fun h3 e9=>?_) (fun h3 e10=>?_)
  · have h4:=bl h3;have h5:=Bo_ h4;have p6:=df h5;have h7:=br h3;have h8:=Bo_ h7;refine gx tv60 2 ?_;refine cndT rfl h3 ?_;refine gx tv60 17 ?_;subst e9;exact qr1
  refine gx tv60 7 ?_;refine callg rfl (fun hc=>(An_ _ _)) rfl ⟨(fun hc=>hc),trivial⟩ rfl rfl fun _=>?_;refine gy tv60 5 ?_;refine cE e10 (fun h11 e17=>?_) (fun h11 e18=>?_)
  · have h12:=bl h11;have h13:=Bo_ h12;have p14:=df h13;have h15:=br h11;have h16:=Bo_ h15;refine gx tv60 2 ?_;refine cndT rfl h11 ?_;refine gx tv60 17 ?_;subst e17;exact qr1
  refine gx tv60 6 ?_;refine callg rfl (fun hc=>(An_ _ _)) rfl ⟨(fun hc=>hc),trivial⟩ rfl rfl fun _=>?_;refine gy tv60 5 ?_;refine cE e18 (fun h19 e25=>?_) (fun h19 e26=>?_)
  · have h20:=bl h19;have h21:=Bo_ h20;have p22:=df h21;have h23:=br h19;have h24:=Bo_ h23;refine gx tv60 17 ?_;subst e25;exact qr1
  refine gx tv60 12 ?_;refine callg rfl (fun hc=>(An_ _ _)) rfl ⟨(fun hc=>hc),trivial⟩ rfl rfl fun _=>?_;refine gy tv60 5 ?_;refine cE e26 (fun h27 e32=>?_) (fun h27 e33=>?_)
  · have h28:=bl h27;have p29:=dt h28;have h30:=br h27;have h31:=Bo_ h30;refine gx tv60 2 ?_;refine cndT rfl h27 ?_;refine gx tv60 17 ?_;subst e32;exact qr1
  refine gx tv60 6 ?_;refine callg rfl (fun hc=>(An_ _ _)) rfl ⟨(fun hc=>hc),trivial⟩ rfl rfl fun _=>?_;refine gy tv60 5 ?_;refine cE e33 (fun h34 e40=>?_) (fun h34 e41=>?_)
  · have h35:=bl h34;have h36:=Bo_ h35;have p37:=df h36;have h38:=br h34;have h39:=Bo_ h38;refine gx tv60 17 ?_;subst e40;exact qr1
  refine gx tv60 10 ?_;refine callg rfl (fun hc=>(An_ _ _)) rfl ⟨(fun hc=>hc),trivial⟩ rfl rfl fun _=>?_;refine gy tv60 5 ?_;refine cE e41 (fun h42 e48=>?_) (fun h42 e49=>?_)
  · have h43:=bl h42;have h44:=Bo_ h43;have p45:=df h44;have h46:=br h42;have h47:=Bo_ h46;refine gx tv60 2 ?_;refine cndT rfl h42 ?_;refine gx tv60 16 ?_;subst e48;exact qr1
  refine gx tv60 7 ?_;refine callg rfl (fun hc=>(An_ _ _)) rfl ⟨(fun hc=>hc),trivial⟩ rfl rfl fun _=>?_;refine gy tv60 5 ?_;refine cE e49 (fun h50 e56=>?_) (fun h50 e57=>?_)
  · have h51:=bl h50;have h52:=Bo_ h51;have p53:=df h52;have h54:=br h50;have h55:=Bo_ h54;refine gx tv60 2 ?_;refine cndT rfl h50 ?_;refine gx tv60 16 ?_;subst e56;exact qr1
  refine gx tv60 5 ?_;refine callg rfl (fun hc=>(An_ _ _)) rfl ⟨(fun hc=>hc),trivial⟩ rfl rfl fun _=>?_;refine gy tv60 5 ?_;refine cE e57 (fun h58 e62=>?_) (fun h58 e63=>?_)
  · have h59:=bl h58;have h60:=br h58;have h61:=Bo_ h60;refine gx tv60 16 ?_;subst e62;exact qr1
  refine gx tv60 15 ?_;subst e63;exact qr1
theorem Ln_ (a:Method) (b:Method):Fn Tryz.prog gb 26 [.agg (Method.pc a), .agg (Method.pc b)] (.bool (E0_ a b)):=by
  refine fC Tryz.func26 tv60 Tryz.ntmps26 fun w N H hG=>?_;have e0:=E0_.eq_1 a b;refine gmy tv60 47 [0,1] fun B2=>?_;refine callg rfl (fun hc=>(Ke_ _ _)) rfl ⟨(fun hc=>hc),(fun hc=>hc),trivial⟩ rfl rfl fun _=>?_;refine gy tv60 33 ?_;exact rt1 rfl rfl (B1_ (fun r:Bool=> .bool r) e0 (ple rfl))
end Go.SW.V
set_option linter.unusedVariables false
set_option maxRecDepth 100000
set_option maxHeartbeats 4000000
namespace Go.SW.V
open Go.SW Go.Proofs
abbrev ty303:TI:=⟨.agg [(0,1),(1,1),(2,1)],3,32,[.str [], .int .i64 0, .int .i64 0]⟩
def tbv61:Tb:=[(3,ty3),(4,ty4),(5,ty5),(9,ty9),(27,ty27),(47,ty47),(64,ty64),(67,ty67),(140,ty140),(199,Wm_),(303,ty303)]
theorem tv61:tbB Tryz.prog tbv61=true:=by kernel_rfl
theorem Hg_ (m:Method) (letter:Int):Fn Tryz.prog gb 161 [.agg (Method.pc m), .int .i32 letter] (.int .i64 (Ci_ m letter)):=by
  refine fC Tryz.func161 tv61 Tryz.ntmps161 fun w N H hG=>?_;have e0:=Ci_.eq_1 m letter;generalize Ci_ m letter=z at e0 ⊢;refine gm tv61 35 [0] fun B2=>?_;refine cD e0 (fun p4 e5=>?_) (fun p7 e8=>?_)
  · refine gx tv61 10 ?_;refine call (Bc_ _) rfl rfl fun w6=>?_;refine gx tv61 19 ?_;subst e5;exact qr1
  refine gx tv61 9 ?_;refine cD e8 (fun p10 e11=>?_) (fun p18 e19=>?_)
  · refine gx tv61 14 ?_;refine cD e11 (fun p13 e14=>?_) (fun p15 e16=>?_)
    · refine gx tv61 18 ?_;subst e14;exact qr1
    refine gx tv61 8 ?_;refine call (Bc_ _) rfl rfl fun w17=>?_;refine gx tv61 15 ?_;subst e16;exact qr1
  refine gx tv61 9 ?_;refine cD e19 (fun p21 e22=>?_) (fun p24 e25=>?_)
  · refine gx tv61 14 ?_;refine call (Bc_ _) rfl rfl fun w23=>?_;refine gx tv61 15 ?_;subst e22;exact qr1
  refine gx tv61 9 ?_;refine cD e25 (fun p27 e28=>?_) (fun p30 e31=>?_)
  · refine gx tv61 16 ?_;refine call (H9_ _) rfl rfl fun w29=>?_;refine gx tv61 13 ?_;subst e28;exact qr1
  refine gx tv61 9 ?_;refine cD e31 (fun p33 e34=>?_) (fun p36 e37=>?_)
  · refine gx tv61 18 ?_;refine call (H1_ _) rfl rfl fun w35=>?_;refine gx tv61 11 ?_;subst e34;exact qr1
  refine gx tv61 9 ?_;refine cD e37 (fun p39 e40=>?_) (fun p42 e43=>?_)
  · refine gx tv61 20 ?_;refine call (Dy_ _) rfl rfl fun w41=>?_;refine gx tv61 9 ?_;subst e40;exact qr1
  refine gx tv61 8 ?_;refine cD e43 (fun p45 e46=>?_) (fun p52 e53=>?_)
  · refine gx tv61 25 ?_;refine cD e46 (fun p48 e49=>?_) (fun p50 e51=>?_)
    · refine gx tv61 9 ?_;subst e49;exact qr1
    refine gx tv61 11 ?_;subst e51;exact qr1
  refine gx tv61 25 ?_;subst e53;exact qr1
theorem D9_ (m:Method):Fn Tryz.prog gb 120 [.agg (Method.pc m)] (.int .i64 (A8_ m)):=by
  refine fC Tryz.func120 tv61 Tryz.ntmps120 fun w N H hG=>?_;have m_channel_r:0≤m.channel∧m.channel≤255:=w.1.1;have m_kind_r:0≤m.kind∧m.kind≤255:=w.1.2.1;have m_name_l:m.name.length≤9223372036854775807:=w.1.2.2.1;have m_other_l:m.other.length≤9223372036854775807:=w.1.2.2.2.1;have m_key_l:m.key.length≤9223372036854775807:=w.1.2.2.2.2.1;have m_head_l:m.head.length≤140737488355328:=w.1.2.2.2.2.2.1.1;have m_body_l:m.body.length≤9223372036854775807:=w.1.2.2.2.2.2.2.1;have m_n_r:0≤m.n∧m.n≤18446744073709551615:=w.1.2.2.2.2.2.2.2.1;have m_m_r:0≤m.m∧m.m≤18446744073709551615:=w.1.2.2.2.2.2.2.2.2.1;have e0:=A8_.eq_1 m;generalize A8_ m=z at e0 ⊢;refine gm tv61 16 [0] fun B2=>?_;refine cD e0 (fun p4 e5=>?_) (fun p6 e7=>?_)
  · refine gx tv61 8 ?_;subst e5;exact qr1
  refine gx tv61 3 ?_;refine call (Gf_ _) rfl rfl fun w8=>?_;refine gx tv61 3 ?_;refine cE e7 (fun h9 e10=>?_) (fun h9 e11=>?_)
  · refine gx tv61 8 ?_;subst e10;exact qr1
  refine gx tv61 8 ?_;refine q1 (qgstr (m:=(m.kind).toNat) tellsT (by decide) (fun _ h=>Mp_ h) rfl Tryz.underlying219 sz9 (by omega) (by omega) rfl) rfl fun w12=>?_;refine gx tv61 1 ?_;refine ef (S8_ tv61 1 rfl rfl rfl rfl fun b13=>?_);refine gx tv61 3 ?_;refine loop (ι:=Nat) [1,17] [0] (fun k=>[]) (fun k=>[(1, .itr b13 (tellsT.getD (m.kind).toNat []) k)]) (fun k=>k≤(tellsT.getD (m.kind).toNat []).length∧z=Ae_ m ((tellsT.getD (m.kind).toNat []).drop k)) (fun k=>(tellsT.getD (m.kind).toNat []).length-k) 0 trivial ⟨rfl,trivial⟩ ?_ ?_
  · exact ⟨Nat.zero_le _,e11⟩
  rintro k ⟨hp14_1,hp14_2⟩;refine gx tv61 2 ?_;have u8_hn15:=u8r ((tellsT.getD (m.kind).toNat []).getD k 0);refine hnext rfl rfl rfl rfl (by have :(tellsT.getD (m.kind).toNat []).length≤5:=Gk_ m.kind;omega) (fun hn15=>(Nh_ _ _ hn15)) rfl (fun hn15=>?_) (fun hn15=>?_)
  · have e16:=Gg_ (f:=fun zz=>Ae_ m zz) hp14_2 (Dx_ hn15) (Ae_.eq_2 _ _ _);refine gx tv61 18 ?_;refine cV e16 R0_ (Hg_ _ _) rfl fun r hr17 e19 w18=>?_;refine gx tv61 9 ?_;refine cN e19 (fun p22 e23=>?_) (fun p25 e26=>?_)
    · refine gx tv61 11 ?_;subst e23;exact qr1
    refine gx tv61 2 ?_;refine next (k+1) rfl rfl trivial ⟨rfl,trivial⟩ ?_ ?_
    · (try simp only []);omega
    exact ⟨by (try simp only []);omega,e26⟩
  have e27:=Gg_ (f:=fun zz=>Ae_ m zz) hp14_2 (Nk_ hn15) (Ae_.eq_1 _);refine gx tv61 16 ?_;subst e27;exact qr1
end Go.SW.V
set_option linter.unusedVariables false
set_option maxRecDepth 100000
set_option maxHeartbeats 4000000
namespace Go.SW.V
open Go.SW Go.Proofs
def tbv62:Tb:=[(3,ty3),(4,ty4),(5,ty5),(9,ty9),(27,ty27),(47,ty47),(64,ty64),(158,Nq_),(285,N6_),(303,ty303)]
theorem tv62:tbB Tryz.prog tbv62=true:=by kernel_rfl
theorem Ge_ (m:Method):Fn Tryz.prog gb 147 [.agg (Method.pc m)] (.tup [.agg (Frame.pc ((Ba_ m).1)), .int .i64 ((Ba_ m).2)]):=by
  refine fC Tryz.func147 tv62 Tryz.ntmps147 fun w N H hG=>?_;have m_channel_r:0≤m.channel∧m.channel≤255:=w.1.1;have m_kind_r:0≤m.kind∧m.kind≤255:=w.1.2.1;have m_name_l:m.name.length≤9223372036854775807:=w.1.2.2.1;have m_other_l:m.other.length≤9223372036854775807:=w.1.2.2.2.1;have m_key_l:m.key.length≤9223372036854775807:=w.1.2.2.2.2.1;have m_head_l:m.head.length≤140737488355328:=w.1.2.2.2.2.2.1.1;have m_body_l:m.body.length≤9223372036854775807:=w.1.2.2.2.2.2.2.1;have m_n_r:0≤m.n∧m.n≤18446744073709551615:=w.1.2.2.2.2.2.2.2.1;have m_m_r:0≤m.m∧m.m≤18446744073709551615:=w.1.2.2.2.2.2.2.2.2.1;have e0:=Ba_.eq_1 m;generalize Ba_ m=z at e0 ⊢;refine gm tv62 11 [0,1] fun B2=>?_;refine cV e0 R0_ (D9_ _) rfl fun r hr4 e6 w5=>?_;have hA6:=Md_ m
  (try rw [← hr4] at hA6)
  refine gx tv62 9 ?_;refine cN e6 (fun p10 e11=>?_) (fun p14 e15=>?_)
  · refine gm tv62 10 [] fun _=>?_;subst e11;exact qr2
  refine gm tv62 12 [2] fun B17=>?_;refine q1 (qgstr (m:=(m.kind).toNat) tellsT (by decide) (fun _ h=>Mp_ h) rfl Tryz.underlying219 sz9 (by omega) (by omega) rfl) rfl fun w18=>?_;refine gx tv62 1 ?_;refine ef (S8_ tv62 3 rfl rfl rfl rfl fun b19=>?_);refine gx tv62 3 ?_;refine loop (ι:=Nat×Out) [1,2,3,5,21] [0,1] (fun ⟨k,x⟩=>[]) (fun ⟨k,x⟩=>[(3, .itr b19 (tellsT.getD (m.kind).toNat []) k),(2, .box (B17 0) 285 (Out.pc x))]) (fun ⟨k,x⟩=>k≤(tellsT.getD (m.kind).toNat []).length∧z=H_ m ((tellsT.getD (m.kind).toNat []).drop k) x∧x.s.length≤1000*k) (fun ⟨k,x⟩=>(tellsT.getD (m.kind).toNat []).length-k) ⟨0,(⟨[],0⟩:Out)⟩ trivial ⟨rfl,rfl,trivial⟩ ?_ ?_
  · exact ⟨Nat.zero_le _,e15,(by simp)⟩
  rintro ⟨k,x⟩ ⟨hp20_1,hp20_2,hp20_3⟩;have hE:Dn_ m=0:=by rw [← Jq_];omega
  have htl:(tellsT.getD (m.kind).toNat []).length≤5:=Gk_ m.kind;refine gx tv62 2 ?_;have u8_hn21:=u8r ((tellsT.getD (m.kind).toNat []).getD k 0);refine hnext rfl rfl rfl rfl (by have :(tellsT.getD (m.kind).toNat []).length≤5:=Gk_ m.kind;omega) (fun hn21=>(Nh_ _ _ hn21)) rfl (fun hn21=>?_) (fun hn21=>?_)
  · have e22:=Gg_ (f:=fun zz=>H_ m zz x) hp20_2 (Dx_ hn21) (H_.eq_2 _ _ _ _);have hone:oneE m ((((tellsT.getD (m.kind).toNat [])).getD k 0).toNat:Int)=0:=Ma_ hE hn21;obtain ⟨hol1,hol2,hol3,hol4⟩:=Wr_ hone;refine gx tv62 26 ?_;refine cD e22 (fun p24 e25=>?_) (fun p28 e29=>?_)
    · refine gx tv62 4 ?_;refine call (Ak_ _ _) rfl rfl fun w26=>?_;have :=L_ x m.name;refine gm tv62 4 [] fun _=>?_;refine next ⟨(k+1),(B_ x m.name)⟩ rfl rfl trivial ⟨rfl,rfl,trivial⟩ ?_ ?_
      · (try simp only []);omega
      exact ⟨by (try simp only []);omega,e25,(by (try simp only []);omega)⟩
    refine gx tv62 7 ?_;refine cE e29 (fun h30 e32=>?_) (fun h30 e36=>?_)
    · have p31:=dt h30;refine gx tv62 2 ?_;refine cndT rfl h30 ?_;refine gx tv62 4 ?_;refine call (Ak_ _ _) rfl rfl fun w33=>?_;have :=L_ x m.other;refine gm tv62 4 [] fun _=>?_;refine next ⟨(k+1),(B_ x m.other)⟩ rfl rfl trivial ⟨rfl,rfl,trivial⟩ ?_ ?_
      · (try simp only []);omega
      exact ⟨by (try simp only []);omega,e32,(by (try simp only []);omega)⟩
    have p35:=df h30;refine gx tv62 5 ?_;refine cD e36 (fun p38 e39=>?_) (fun p42 e43=>?_)
    · refine gx tv62 4 ?_;refine call (Ak_ _ _) rfl rfl fun w40=>?_;have :=L_ x m.other;refine gm tv62 4 [] fun _=>?_;refine next ⟨(k+1),(B_ x m.other)⟩ rfl rfl trivial ⟨rfl,rfl,trivial⟩ ?_ ?_
      · (try simp only []);omega
      exact ⟨by (try simp only []);omega,e39,(by (try simp only []);omega)⟩
    refine gx tv62 7 ?_;refine cE e43 (fun h44 e46=>?_) (fun h44 e50=>?_)
    · have p45:=dt h44;refine gx tv62 2 ?_;refine cndT rfl h44 ?_;refine gx tv62 4 ?_;refine call (Ak_ _ _) rfl rfl fun w47=>?_;have :=L_ x m.key;refine gm tv62 4 [] fun _=>?_;refine next ⟨(k+1),(B_ x m.key)⟩ rfl rfl trivial ⟨rfl,rfl,trivial⟩ ?_ ?_
      · (try simp only []);omega
      exact ⟨by (try simp only []);omega,e46,(by (try simp only []);omega)⟩
    have p49:=df h44;refine gx tv62 5 ?_;refine cD e50 (fun p52 e53=>?_) (fun p56 e57=>?_)
    · refine gx tv62 4 ?_;refine call (Ak_ _ _) rfl rfl fun w54=>?_;have :=L_ x m.key;refine gm tv62 4 [] fun _=>?_;refine next ⟨(k+1),(B_ x m.key)⟩ rfl rfl trivial ⟨rfl,rfl,trivial⟩ ?_ ?_
      · (try simp only []);omega
      exact ⟨by (try simp only []);omega,e53,(by (try simp only []);omega)⟩
    refine gx tv62 6 ?_;refine cD e57 (fun p59 e60=>?_) (fun p64 e65=>?_)
    · refine gx tv62 4 ?_;refine call (Eb_ _) rfl rfl fun w61=>?_;have :=Cf_ m.head;refine gx tv62 10 ?_;refine call (Ft_ _ _) rfl rfl fun w62=>?_;have :=C6_ x (Y_ m.head);refine gm tv62 4 [] fun _=>?_;refine next ⟨(k+1),(J_ x (Y_ m.head))⟩ rfl rfl trivial ⟨rfl,rfl,trivial⟩ ?_ ?_
      · (try simp only []);omega
      exact ⟨by (try simp only []);omega,e60,(by (try simp only []);omega)⟩
    refine gx tv62 6 ?_;refine cD e65 (fun p67 e68=>?_) (fun p71 e72=>?_)
    · refine gx tv62 4 ?_;refine call (Ak_ _ _) rfl rfl fun w69=>?_;have :=L_ x m.body;refine gm tv62 4 [] fun _=>?_;refine next ⟨(k+1),(B_ x m.body)⟩ rfl rfl trivial ⟨rfl,rfl,trivial⟩ ?_ ?_
      · (try simp only []);omega
      exact ⟨by (try simp only []);omega,e68,(by (try simp only []);omega)⟩
    refine gx tv62 6 ?_;refine cD e72 (fun p74 e75=>?_) (fun p78 e79=>?_)
    · refine gx tv62 4 ?_;refine call (out_Num _ _ _ (by first | omega | (have :=hrl (by assumption);omega) | (simp [A_,J_,G_,numK] <;> omega) | (have :=hrl (by assumption);simp [A_,J_,G_,numK] <;> omega))) rfl rfl fun w76=>?_;have :=I_ x m.n 8;refine gm tv62 4 [] fun _=>?_;refine next ⟨(k+1),(A_ x m.n 8)⟩ rfl rfl trivial ⟨rfl,rfl,trivial⟩ ?_ ?_
      · (try simp only []);omega
      exact ⟨by (try simp only []);omega,e75,(by (try simp only []);omega)⟩
    refine gx tv62 6 ?_;refine cD e79 (fun p81 e82=>?_) (fun p85 e86=>?_)
    · refine gx tv62 4 ?_;refine call (out_Num _ _ _ (by first | omega | (have :=hrl (by assumption);omega) | (simp [A_,J_,G_,numK] <;> omega) | (have :=hrl (by assumption);simp [A_,J_,G_,numK] <;> omega))) rfl rfl fun w83=>?_;have :=I_ x m.m 8;refine gm tv62 4 [] fun _=>?_;refine next ⟨(k+1),(A_ x m.m 8)⟩ rfl rfl trivial ⟨rfl,rfl,trivial⟩ ?_ ?_
      · (try simp only []);omega
      exact ⟨by (try simp only []);omega,e82,(by (try simp only []);omega)⟩
    refine gx tv62 6 ?_;refine cD e86 (fun p88 e89=>?_) (fun p97 e98=>?_)
    · refine gx tv62 12 ?_;refine cE e89 (fun h90 e91=>?_) (fun h90 e94=>?_)
      · refine gx tv62 7 ?_;refine call (out_Num _ _ _ (by first | omega | (have :=hrl (by assumption);omega) | (simp [A_,J_,G_,numK] <;> omega) | (have :=hrl (by assumption);simp [A_,J_,G_,numK] <;> omega))) rfl rfl fun w92=>?_;have :=I_ x 1 1;refine gm tv62 4 [] fun _=>?_;refine next ⟨(k+1),(A_ x 1 1)⟩ rfl rfl trivial ⟨rfl,rfl,trivial⟩ ?_ ?_
        · (try simp only []);omega
        exact ⟨by (try simp only []);omega,e91,(by (try simp only []);omega)⟩
      refine gx tv62 5 ?_;refine call (out_Num _ _ _ (by first | omega | (have :=hrl (by assumption);omega) | (simp [A_,J_,G_,numK] <;> omega) | (have :=hrl (by assumption);simp [A_,J_,G_,numK] <;> omega))) rfl rfl fun w95=>?_;have :=I_ x 0 1;refine gm tv62 4 [] fun _=>?_;refine next ⟨(k+1),(A_ x 0 1)⟩ rfl rfl trivial ⟨rfl,rfl,trivial⟩ ?_ ?_
      · (try simp only []);omega
      exact ⟨by (try simp only []);omega,e94,(by (try simp only []);omega)⟩
    refine gx tv62 3 ?_;refine next ⟨(k+1),x⟩ rfl rfl trivial ⟨rfl,rfl,trivial⟩ ?_ ?_
    · (try simp only []);omega
    exact ⟨by (try simp only []);omega,e98,(by (try simp only []);omega)⟩
  have e99:=Gg_ (f:=fun zz=>H_ m zz x) hp20_2 (Nk_ hn21) (H_.eq_1 _ _);refine gx tv62 11 ?_;refine aN [1,4,5,6,7,8,9] 9 mixd ?_;refine gX tv62 [0,1,2,3,4] 4 ?_;refine vC 5 rfl (Aa_ _) rfl fun w100=>?_;refine gX tv62 [6] 2 ?_;refine vT 7 rfl (sA tv62 ?_);refine gX tv62 [8] 0 ?_;refine vD ?_;refine gx tv62 2 ?_;subst e99;exact qr2
end Go.SW.V
set_option linter.unusedVariables false
set_option maxRecDepth 100000
set_option maxHeartbeats 4000000
namespace Go.SW.V
open Go.SW Go.Proofs
theorem cb118:U_ Tryz.prog 118:=S_ Tryz.func118 (by kernel_rfl) (by kernel_rfl)
def tbv63:Tb:=[(3,ty3),(4,ty4),(5,ty5),(9,ty9),(27,ty27),(47,ty47),(64,ty64),(158,Nq_),(303,ty303)]
theorem tv63:tbB Tryz.prog tbv63=true:=by kernel_rfl
theorem Ow_ (f:Frame):Fn Tryz.prog gb 75 [.agg (Frame.pc f)] (.tup [.agg (Method.pc ((A9_ f).1)), .int .i64 ((A9_ f).2)]):=by
  refine fC Tryz.func75 tv63 Tryz.ntmps75 fun w N H hG=>?_;have f_channel_r:0≤f.channel∧f.channel≤255:=w.1.1;have f_kind_r:0≤f.kind∧f.kind≤255:=w.1.2.1;have f_body_l:f.body.length≤9223372036854775807:=w.1.2.2.1;have e0:=A9_.eq_1 f;generalize A9_ f=z at e0 ⊢;refine gm tv63 15 [0,1] fun B2=>?_;refine cD e0 (fun p5 e6=>?_) (fun p8 e9=>?_)
  · refine gm tv63 9 [] fun _=>?_;subst e6;exact qr2
  refine gm tv63 17 [2] fun B11=>?_;refine ef (ecallb 3 (Kg_ _) rfl rfl fun w12 b13=>?_);refine gx tv63 8 ?_;refine q1 (qgstr (m:=(f.kind).toNat) tellsT (by decide) (fun _ h=>Mp_ h) rfl Tryz.underlying219 sz9 (by omega) (by omega) rfl) rfl fun w14=>?_;refine gx tv63 1 ?_;refine ef (S8_ tv63 4 rfl rfl rfl rfl fun b15=>?_);refine gx tv63 3 ?_;refine loop (ι:=Nat×Method×In) [2,3,4,5,26] [0,1] (fun ⟨k,x,x1⟩=>[]) (fun ⟨k,x,x1⟩=>[(4, .itr b15 (tellsT.getD (f.kind).toNat []) k),(2, .box (B11 0) 64 (Method.pc x)),(3, .box b13 261 (In.pc x1))]) (fun ⟨k,x,x1⟩=>k≤(tellsT.getD (f.kind).toNat []).length∧z=D_ ((tellsT.getD (f.kind).toNat []).drop k) x x1) (fun ⟨k,x,x1⟩=>(tellsT.getD (f.kind).toNat []).length-k) ⟨0,(⟨f.channel,f.kind,[],[],[],[],[],0,0,false⟩:Method),(⟨f.body,0⟩)⟩ trivial ⟨rfl,rfl,rfl,trivial⟩ ?_ ?_
  · exact ⟨Nat.zero_le _,e9⟩
  rintro ⟨k,x,x1⟩ ⟨hp16_1,hp16_2⟩;refine gx tv63 2 ?_;have u8_hn17:=u8r ((tellsT.getD (f.kind).toNat []).getD k 0);refine hnext rfl rfl rfl rfl (by have :(tellsT.getD (f.kind).toNat []).length≤5:=Gk_ f.kind;omega) (fun hn17=>(Nh_ _ _ hn17)) rfl (fun hn17=>?_) (fun hn17=>?_)
  · have e18:=Gg_ (f:=fun zz=>D_ zz x x1) hp16_2 (Dx_ hn17) (D_.eq_2 _ _ _ _);refine gx tv63 17 ?_;refine hinl [] tv63 Tryz.func118 rfl Tryz.ntmps118 cb118 rfl rfl rfl rfl fun Hc19 hHc19=>?_;refine gx tv63 12 ?_;refine cD e18 (fun p21 e22=>?_) (fun p28 e29=>?_)
    · refine gx tv63 3 ?_;refine ef (ecallm (F1_ _ _) rfl rfl rfl rfl rfl ?_);generalize hr24:M_ x1 16=r;intro w23 w23p;have e25:=e22.trans (C0_ hr24.symm);have :=Ch_ x1 16
      (try simp only [hr24] at *)
      refine gm tv63 5 [] fun _=>?_;refine inln rfl rfl rfl trivial ?_;refine gx tv63 2 ?_;refine next ⟨(k+1),(⟨x.channel,x.kind,r.1,x.other,x.key,x.head,x.body,x.n,x.m,x.yes⟩:Method),r.2⟩ rfl rfl trivial ⟨rfl,rfl,rfl,trivial⟩ ?_ ?_
      · (try simp only []);omega
      exact ⟨by (try simp only []);omega,e25⟩
    refine gx tv63 7 ?_;refine cE e29 (fun h30 e32=>?_) (fun h30 e39=>?_)
    · have p31:=dt h30;refine gx tv63 2 ?_;refine cndT rfl h30 ?_;refine gx tv63 3 ?_;refine ef (ecallm (F1_ _ _) rfl rfl rfl rfl rfl ?_);generalize hr34:M_ x1 16=r1;intro w33 w33p;have e35:=e32.trans (C0_ hr34.symm);have :=Ch_ x1 16
      (try simp only [hr34] at *)
      refine gm tv63 5 [] fun _=>?_;refine inln rfl rfl rfl trivial ?_;refine gx tv63 2 ?_;refine next ⟨(k+1),(⟨x.channel,x.kind,x.name,r1.1,x.key,x.head,x.body,x.n,x.m,x.yes⟩:Method),r1.2⟩ rfl rfl trivial ⟨rfl,rfl,rfl,trivial⟩ ?_ ?_
      · (try simp only []);omega
      exact ⟨by (try simp only []);omega,e35⟩
    have p38:=df h30;refine gx tv63 5 ?_;refine cD e39 (fun p41 e42=>?_) (fun p48 e49=>?_)
    · refine gx tv63 3 ?_;refine ef (ecallm (F1_ _ _) rfl rfl rfl rfl rfl ?_);generalize hr44:M_ x1 16=r2;intro w43 w43p;have e45:=e42.trans (C0_ hr44.symm);have :=Ch_ x1 16
      (try simp only [hr44] at *)
      refine gm tv63 5 [] fun _=>?_;refine inln rfl rfl rfl trivial ?_;refine gx tv63 2 ?_;refine next ⟨(k+1),(⟨x.channel,x.kind,x.name,r2.1,x.key,x.head,x.body,x.n,x.m,x.yes⟩:Method),r2.2⟩ rfl rfl trivial ⟨rfl,rfl,rfl,trivial⟩ ?_ ?_
      · (try simp only []);omega
      exact ⟨by (try simp only []);omega,e45⟩
    refine gx tv63 7 ?_;refine cE e49 (fun h50 e52=>?_) (fun h50 e59=>?_)
    · have p51:=dt h50;refine gx tv63 2 ?_;refine cndT rfl h50 ?_;refine gx tv63 3 ?_;refine ef (ecallm (F1_ _ _) rfl rfl rfl rfl rfl ?_);generalize hr54:M_ x1 64=r3;intro w53 w53p;have e55:=e52.trans (C0_ hr54.symm);have :=Ch_ x1 64
      (try simp only [hr54] at *)
      refine gm tv63 5 [] fun _=>?_;refine inln rfl rfl rfl trivial ?_;refine gx tv63 2 ?_;refine next ⟨(k+1),(⟨x.channel,x.kind,x.name,x.other,r3.1,x.head,x.body,x.n,x.m,x.yes⟩:Method),r3.2⟩ rfl rfl trivial ⟨rfl,rfl,rfl,trivial⟩ ?_ ?_
      · (try simp only []);omega
      exact ⟨by (try simp only []);omega,e55⟩
    have p58:=df h50;refine gx tv63 5 ?_;refine cD e59 (fun p61 e62=>?_) (fun p68 e69=>?_)
    · refine gx tv63 3 ?_;refine ef (ecallm (F1_ _ _) rfl rfl rfl rfl rfl ?_);generalize hr64:M_ x1 64=r4;intro w63 w63p;have e65:=e62.trans (C0_ hr64.symm);have :=Ch_ x1 64
      (try simp only [hr64] at *)
      refine gm tv63 5 [] fun _=>?_;refine inln rfl rfl rfl trivial ?_;refine gx tv63 2 ?_;refine next ⟨(k+1),(⟨x.channel,x.kind,x.name,x.other,r4.1,x.head,x.body,x.n,x.m,x.yes⟩:Method),r4.2⟩ rfl rfl trivial ⟨rfl,rfl,rfl,trivial⟩ ?_ ?_
      · (try simp only []);omega
      exact ⟨by (try simp only []);omega,e65⟩
    refine gx tv63 6 ?_;refine cD e69 (fun p71 e72=>?_) (fun p78 e79=>?_)
    · refine gx tv63 3 ?_;refine ef (ecallm (Tk_ _) rfl rfl rfl rfl rfl ?_);generalize hr74:Ac_ x1=r5;intro w73 w73p;have e75:=e72.trans (C0_ hr74.symm);have :=Jk_ x1
      (try simp only [hr74] at *)
      refine gm tv63 5 [] fun _=>?_;refine inln rfl rfl rfl trivial ?_;refine gx tv63 2 ?_;refine next ⟨(k+1),(⟨x.channel,x.kind,x.name,x.other,x.key,r5.1,x.body,x.n,x.m,x.yes⟩:Method),r5.2⟩ rfl rfl trivial ⟨rfl,rfl,rfl,trivial⟩ ?_ ?_
      · (try simp only []);omega
      exact ⟨by (try simp only []);omega,e75⟩
    refine gx tv63 6 ?_;refine cD e79 (fun p81 e82=>?_) (fun p88 e89=>?_)
    · refine gx tv63 3 ?_;refine ef (ecallm (F1_ _ _) rfl rfl rfl rfl rfl ?_);generalize hr84:M_ x1 256=r6;intro w83 w83p;have e85:=e82.trans (C0_ hr84.symm);have :=Ch_ x1 256
      (try simp only [hr84] at *)
      refine gm tv63 5 [] fun _=>?_;refine inln rfl rfl rfl trivial ?_;refine gx tv63 2 ?_;refine next ⟨(k+1),(⟨x.channel,x.kind,x.name,x.other,x.key,x.head,r6.1,x.n,x.m,x.yes⟩:Method),r6.2⟩ rfl rfl trivial ⟨rfl,rfl,rfl,trivial⟩ ?_ ?_
      · (try simp only []);omega
      exact ⟨by (try simp only []);omega,e85⟩
    refine gx tv63 6 ?_;refine cD e89 (fun p91 e92=>?_) (fun p98 e99=>?_)
    · refine gx tv63 3 ?_;refine ef (ecallm (Fl_ _ _) rfl rfl rfl rfl rfl ?_);generalize hr94:K_ x1 8=r7;intro w93 w93p;have e95:=e92.trans (C0_ hr94.symm);have :=Bq_ x1 8
      (try simp only [hr94] at *)
      refine gm tv63 5 [] fun _=>?_;refine inln rfl rfl rfl trivial ?_;refine gx tv63 2 ?_;refine next ⟨(k+1),(⟨x.channel,x.kind,x.name,x.other,x.key,x.head,x.body,r7.1,x.m,x.yes⟩:Method),r7.2⟩ rfl rfl trivial ⟨rfl,rfl,rfl,trivial⟩ ?_ ?_
      · (try simp only []);omega
      exact ⟨by (try simp only []);omega,e95⟩
    refine gx tv63 6 ?_;refine cD e99 (fun p101 e102=>?_) (fun p108 e109=>?_)
    · refine gx tv63 3 ?_;refine ef (ecallm (Fl_ _ _) rfl rfl rfl rfl rfl ?_);generalize hr104:K_ x1 8=r8;intro w103 w103p;have e105:=e102.trans (C0_ hr104.symm);have :=Bq_ x1 8
      (try simp only [hr104] at *)
      refine gm tv63 5 [] fun _=>?_;refine inln rfl rfl rfl trivial ?_;refine gx tv63 2 ?_;refine next ⟨(k+1),(⟨x.channel,x.kind,x.name,x.other,x.key,x.head,x.body,x.n,r8.1,x.yes⟩:Method),r8.2⟩ rfl rfl trivial ⟨rfl,rfl,rfl,trivial⟩ ?_ ?_
      · (try simp only []);omega
      exact ⟨by (try simp only []);omega,e105⟩
    refine gx tv63 6 ?_;refine cD e109 (fun p111 e112=>?_) (fun p124 e125=>?_)
    · refine gx tv63 3 ?_;refine ef (ecallm (Fl_ _ _) rfl rfl rfl rfl rfl ?_);generalize hr114:K_ x1 1=r9;intro w113 w113p;have e115:=e112.trans (C0_ hr114.symm);have :=Bq_ x1 1
      (try simp only [hr114] at *)
      refine gm tv63 19 [] fun _=>?_;refine cD e115 (fun p119 e120=>?_) (fun p122 e123=>?_)
      · refine gx tv63 2 ?_;refine ef (ecallm (Hn_ _ _) rfl rfl rfl rfl rfl fun w121 w121p=>?_);refine gx tv63 2 ?_;refine inln rfl rfl rfl trivial ?_;refine gx tv63 2 ?_;refine next ⟨(k+1),(⟨x.channel,x.kind,x.name,x.other,x.key,x.head,x.body,x.n,x.m,decide (r9.1=1)⟩:Method),(Ab_ r9.2 4)⟩ rfl rfl trivial ⟨rfl,rfl,rfl,trivial⟩ ?_ ?_
        · (try simp only []);omega
        exact ⟨by (try simp only []);omega,e120⟩
      refine gx tv63 2 ?_;refine inln rfl rfl rfl trivial ?_;refine gx tv63 2 ?_;refine next ⟨(k+1),(⟨x.channel,x.kind,x.name,x.other,x.key,x.head,x.body,x.n,x.m,decide (r9.1=1)⟩:Method),r9.2⟩ rfl rfl trivial ⟨rfl,rfl,rfl,trivial⟩ ?_ ?_
      · (try simp only []);omega
      exact ⟨by (try simp only []);omega,e123⟩
    refine gx tv63 2 ?_;refine inln rfl rfl rfl trivial ?_;refine gx tv63 2 ?_;refine next ⟨(k+1),x,x1⟩ rfl rfl trivial ⟨rfl,rfl,rfl,trivial⟩ ?_ ?_
    · (try simp only []);omega
    exact ⟨by (try simp only []);omega,e125⟩
  have e126:=Gg_ (f:=fun zz=>D_ zz x x1) hp16_2 (Nk_ hn17) (D_.eq_1 _ _);refine gx tv63 14 ?_;refine ef (ecallm (in_End _) rfl rfl rfl rfl rfl fun w127 w127p=>?_);refine gx tv63 9 ?_;refine cN e126 (fun p130 e131=>?_) (fun p134 e135=>?_)
  · refine gm tv63 10 [] fun _=>?_;subst e131;exact qr2
  refine gx tv63 6 ?_;refine cV e135 R0_ (D9_ _) rfl fun r10 hr136 e138 w137=>?_;have hA138:=Md_ x
  (try rw [← hr136] at hA138)
  refine gx tv63 9 ?_;refine cN e138 (fun p142 e143=>?_) (fun p146 e147=>?_)
  · refine gm tv63 10 [] fun _=>?_;subst e143;exact qr2
  refine gm tv63 10 [] fun _=>?_;subst e147;exact qr2
end Go.SW.V
set_option linter.unusedVariables false
set_option maxRecDepth 100000
set_option maxHeartbeats 4000000
namespace Go.SW.V
open Go.SW Go.Proofs
end Go.SW.V
set_option linter.unusedVariables false
set_option maxRecDepth 100000
set_option maxHeartbeats 4000000
namespace Go.SW.V
open Go.SW Go.Proofs
end Go.SW.V
set_option linter.unusedVariables false
set_option maxRecDepth 100000
set_option maxHeartbeats 4000000
namespace Go.SW.V
open Go.SW Go.Proofs
abbrev ty269:TI:=⟨.agg [(0,1),(1,1),(2,1)],3,24,[.int .u8 0, .int .u8 0, .str []]⟩
end Go.SW.V
set_option linter.unusedVariables false
set_option maxRecDepth 100000
set_option maxHeartbeats 4000000
namespace Go.SW.V
open Go.SW Go.Proofs
def tbv67:Tb:=[(5,ty5),(9,ty9),(64,ty64),(158,Nq_)]
theorem tv67:tbB Tryz.prog tbv67=true:=by kernel_rfl
theorem Tv_:Fn Tryz.prog gb 102 [] (.bool true):=by
  refine fC Tryz.func102 tv67 Tryz.ntmps102 fun w N H hG=>?_;refine gx tv67 8 ?_;refine call (Ge_ (⟨1,1,[],[],[],[],[],0,0,false⟩:Method)) rfl rfl fun w1=>?_;refine gm tv67 10 [0] fun B3=>?_;refine call O3_ rfl rfl fun w4=>?_;refine gx tv67 1 ?_;refine ungd rfl rfl ?_;refine call Or_ rfl rfl fun w5=>?_;refine gx tv67 2 ?_;refine ungd rfl rfl ?_;refine gx tv67 1 ?_;refine ungd rfl rfl ?_;refine gx tv67 1 ?_;refine so_rt (t:=14) (p':= .bool true) (ple (congrArg PV.bool (show decide (((Ba_ (⟨1,1,[],[],[],[],[],0,0,false⟩:Method)).2)=0)=true by decide +kernel))) rfl ?_;refine gx tv67 2 ?_;refine ungd rfl rfl ?_;refine gx tv67 1 ?_;refine ungd rfl rfl ?_;refine gx tv67 1 ?_;refine ungd rfl rfl ?_;refine gx tv67 1 ?_;refine so_rt (t:=19) (p':= .bool true) (ple (congrArg PV.bool (show decide ((((Ba_ (⟨1,1,[],[],[],[],[],0,0,false⟩:Method)).1).kind)=1)=true by decide +kernel))) rfl ?_;refine gx tv67 2 ?_;refine ungd rfl rfl ?_;refine gx tv67 1 ?_;refine ungd rfl rfl ?_;refine gx tv67 1 ?_;refine ungd rfl rfl ?_;refine gx tv67 1 ?_;refine so_rt (t:=24) (p':= .bool true) (ple (congrArg PV.bool (show decide ((((Ba_ (⟨1,1,[],[],[],[],[],0,0,false⟩:Method)).1).channel)=1)=true by decide +kernel))) rfl ?_;refine gx tv67 2 ?_;refine ungd rfl rfl ?_;refine gx tv67 1 ?_;refine ungd rfl rfl ?_;refine gx tv67 1 ?_;refine ungd rfl rfl ?_;refine gx tv67 1 ?_;refine so_rt (t:=29) (p':= .bool true) (ple (congrArg PV.bool (show decide ((((Ba_ (⟨1,1,[],[],[],[],[],0,0,false⟩:Method)).1).body)=[])=true by decide +kernel))) rfl ?_;refine gx tv67 5 ?_;refine rt1 rfl rfl ?_;refine ple ?_;exact congrArg PV.bool (by first | rfl | decide +kernel)
end Go.SW.V
set_option linter.unusedVariables false
set_option maxRecDepth 100000
set_option maxHeartbeats 4000000
namespace Go.SW.V
open Go.SW Go.Proofs
end Go.SW.V
set_option linter.unusedVariables false
set_option maxRecDepth 100000
set_option maxHeartbeats 4000000
namespace Go.SW.V
open Go.SW Go.Proofs
abbrev ty77:TI:=⟨.slc 137,1,24,[.sl Reply.pc []]⟩
abbrev ty173:TI:=⟨.slc 167,1,24,[.sl Reply.pc []]⟩
end Go.SW.V
set_option linter.unusedVariables false
set_option maxRecDepth 100000
set_option maxHeartbeats 4000000
namespace Go.SW.V
open Go.SW Go.Proofs
def tbv74:Tb:=[(5,ty5),(9,ty9),(70,ty70),(137,Se_),(154,ty154),(158,Nq_)]
theorem tv74:tbB Tryz.prog tbv74=true:=by kernel_rfl
theorem Oj_:Fn Tryz.prog gb 101 [] (.bool (Lb_)):=by
  refine fC Tryz.func101 tv74 Tryz.ntmps101 fun w N H hG=>?_;have e0:=Lb_.eq_1;refine gx tv74 8 ?_;refine call (Kz_ (⟨1,2,[97,98]⟩:Frame)) rfl rfl fun w1=>?_;refine gx tv74 10 ?_;refine call O3_ rfl rfl fun w2=>?_;refine gy tv74 8 ?_;refine cE e0 (fun h3 e4=>?_) (fun h3 e10=>?_)
  · refine gx tv74 7 ?_;exact rt1 rfl rfl (B1_ (fun r:Bool=> .bool r) e4 (ple rfl))
  have h5:=orl h3;have h6:=Cp_ h5;have h7:=orr h3;have h8:=Cp_ h7;have p9:=dt h8;refine gx tv74 7 ?_;refine q1 (sshi tv74 5 rfl rfl rfl rfl rfl (by omega)) rfl fun w11=>?_;refine go tv74 1 rfl rfl ⟨(by first | omega | (simp <;> omega)),trivial⟩ ?_;refine ef (ecallo 0 (Kx_ (⟨[],0⟩:Feed) _) rfl rfl fun u13 w12=>?_);have hfd13:=My_ (⟨[],0⟩:Feed) ((T_ (⟨1,2,[97,98]⟩:Frame))++((T_ (⟨1,2,[97,98]⟩:Frame)).take 5))
  (try simp only [List.length_nil,List.length_take,List.length_drop] at hfd13)
  refine gm tv74 9 [1] fun B16=>?_;refine aN [2,3,4,5,6,7] 9 mixd ?_;refine gX tv74 [0,1] 7 ?_;refine vq 2 (sslo tv74 5 rfl rfl rfl rfl rfl (by omega)) rfl (by kernel_rfl) rfl fun w17=>?_;refine vE 3 rfl (ecallo 2 (Kx_ _ _) rfl rfl fun u19 w18=>?_);have hfd19:=My_ ((P_ (⟨[],0⟩:Feed) ((T_ (⟨1,2,[97,98]⟩:Frame))++((T_ (⟨1,2,[97,98]⟩:Frame)).take 5))).1) ((T_ (⟨1,2,[97,98]⟩:Frame)).drop 5)
  (try simp only [List.length_nil,List.length_take,List.length_drop] at hfd19)
  refine gX tv74 [4,5,6] 2 ?_;refine vtp 7 rfl (by kernel_rfl) (by kernel_rfl) (sA tv74 ?_);refine gX tv74 [8] 0 ?_;refine vD ?_;refine gx tv74 4 ?_;refine so_osl (t:=34) 0 rfl rfl ?_;refine gx tv74 3 ?_;refine bcase (decide ((((P_ (⟨[],0⟩:Feed) ((T_ (⟨1,2,[97,98]⟩:Frame))++((T_ (⟨1,2,[97,98]⟩:Frame)).take 5))).2).length:Int)=1)) (fun h21=>?_) (fun h21=>?_)
  · have p22:=dt h21;have e23:=e10.trans (condT h21);refine so_rt (t:=36) (p':= .bool true) (ple (congrArg PV.bool h21)) rfl ?_;refine so_rt (t:=37) (p':= .bool true) (ple (congrArg PV.bool h21)) rfl ?_;refine ungd rfl rfl ?_;refine gx tv74 1 ?_;refine ungd rfl rfl ?_;refine so_osl (t:=38) 2 rfl rfl ?_;refine gx tv74 1 ?_;refine ungd rfl rfl ?_;refine gx tv74 3 ?_;refine bcase (decide ((((P_ ((P_ (⟨[],0⟩:Feed) ((T_ (⟨1,2,[97,98]⟩:Frame))++((T_ (⟨1,2,[97,98]⟩:Frame)).take 5))).1) ((T_ (⟨1,2,[97,98]⟩:Frame)).drop 5)).2).length:Int)=1)) (fun h24=>?_) (fun h24=>?_)
    · have p25:=dt h24;have e26:=e23.trans (condT h24);refine so_rt (t:=40) (p':= .bool true) (ple (congrArg PV.bool h24)) rfl ?_;refine so_rt (t:=41) (p':= .bool true) (ple (congrArg PV.bool h24)) rfl ?_;refine so_rt (t:=42) (p':= .bool true) (ple (congrArg PV.bool h24)) rfl ?_;refine ungd rfl rfl ?_;refine gx tv74 1 ?_;refine ungd rfl rfl ?_;refine so_osl (t:=43) 2 rfl rfl ?_;refine so_osl (t:=33) 2 rfl rfl ?_;refine so_osl (t:=5) 2 rfl rfl ?_;refine give 2 rfl ?_;have hc27:=getG (xs:=(P_ ((P_ (⟨[],0⟩:Feed) ((T_ (⟨1,2,[97,98]⟩:Frame))++((T_ (⟨1,2,[97,98]⟩:Frame)).take 5))).1) ((T_ (⟨1,2,[97,98]⟩:Frame)).drop 5)).2) (k:=0) (by omega);refine q1 (qidx tv74 0 rfl rfl rfl hc27 rfl rfl rfl rfl) rfl fun w28=>?_;refine ungd rfl rfl ?_;refine gx tv74 1 ?_;refine ungd rfl rfl ?_;refine gx tv74 1 ?_;refine ungd rfl rfl ?_;refine gx tv74 4 ?_;refine callg rfl (fun hc=>(Wf_ _)) rfl ⟨(fun hc=>hc),trivial⟩ rfl rfl fun _=>?_;refine gy tv74 4 ?_;refine callg rfl (fun hc=>(Qh_ _)) rfl ⟨(fun hc=>hc),trivial⟩ rfl rfl fun _=>?_;refine gy tv74 6 ?_;exact rt1 rfl rfl (B1_ (fun r:Bool=> .bool r) e26 (ple rfl))
    have p29:=df h24;have e30:=e23.trans (condF h24);refine so_rt (t:=40) (p':= .bool false) (ple (congrArg PV.bool h24)) rfl ?_;refine so_rt (t:=41) (p':= .bool false) (ple (congrArg PV.bool h24)) rfl ?_;refine so_rt (t:=42) (p':= .bool false) (ple (congrArg PV.bool h24)) rfl ?_;refine ungs rfl rfl rfl ?_;refine ungs rfl rfl rfl ?_;refine ungs rfl rfl rfl ?_;refine ungs rfl rfl rfl ?_;refine ungs rfl rfl rfl ?_;refine gx tv74 2 ?_;refine ungs rfl rfl rfl ?_;refine ungs rfl rfl rfl ?_;refine ungs rfl rfl rfl ?_;refine gx tv74 2 ?_;refine ungs rfl rfl rfl ?_;refine ungs rfl rfl rfl ?_;refine ungs rfl rfl rfl ?_;refine gx tv74 5 ?_;exact rt1 rfl rfl (B1_ (fun r:Bool=> .bool r) e30 (ple rfl))
  have p31:=df h21;have e32:=e10.trans (condF h21);refine so_rt (t:=36) (p':= .bool false) (ple (congrArg PV.bool h21)) rfl ?_;refine so_rt (t:=37) (p':= .bool false) (ple (congrArg PV.bool h21)) rfl ?_;refine ungs rfl rfl rfl ?_;refine ungs rfl rfl rfl ?_;refine ungs rfl rfl rfl ?_;refine gx tv74 2 ?_;refine ungs rfl rfl rfl ?_;refine ungs rfl rfl rfl ?_;refine ungs rfl rfl rfl ?_;refine ungs rfl rfl rfl ?_;refine ungs rfl rfl rfl ?_;refine gx tv74 2 ?_;refine ungs rfl rfl rfl ?_;refine ungs rfl rfl rfl ?_;refine ungs rfl rfl rfl ?_;refine gx tv74 2 ?_;refine ungs rfl rfl rfl ?_;refine ungs rfl rfl rfl ?_;refine ungs rfl rfl rfl ?_;refine gx tv74 5 ?_;exact rt1 rfl rfl (B1_ (fun r:Bool=> .bool r) e32 (ple rfl))
theorem Ji_:Fn Tryz.prog gb 61 [] (.bool (Ik_)):=by
  refine fC Tryz.func61 tv74 Tryz.ntmps61 fun w N H hG=>?_;have e0:=Ik_.eq_1;refine gx tv74 7 ?_;refine call Oj_ rfl rfl fun w1=>?_;refine gx tv74 4 ?_;exact rt1 rfl rfl (B1_ (fun r:Bool=> .bool r) e0 (ple rfl))
theorem N4_:Fn Tryz.prog gb 103 [] (.bool (Ki_)):=by
  refine fC Tryz.func103 tv74 Tryz.ntmps103 fun w N H hG=>?_;have e0:=Ki_.eq_1;refine gx tv74 8 ?_;refine call (Px_ (⟨1,1,0,0,false,[],(⟨0,[],[],[],[],0,0⟩:Mail)⟩:Reply)) rfl rfl fun w1=>?_;refine gm tv74 10 [0] fun B3=>?_;refine call Ji_ rfl rfl fun w4=>?_;refine gx tv74 1 ?_;refine callg rfl (fun hc=>Km_) rfl trivial rfl rfl fun _=>?_;refine gy tv74 19 ?_;exact rt1 rfl rfl (B1_ (fun r:Bool=> .bool r) e0 (ple rfl))
theorem Ov_:Fn Tryz.prog gb 63 [] (.bool (Kv_)):=by
  refine fC Tryz.func63 tv74 Tryz.ntmps63 fun w N H hG=>?_;have e0:=Kv_.eq_1;refine gx tv74 7 ?_;refine call N4_ rfl rfl fun w1=>?_;refine gx tv74 4 ?_;exact rt1 rfl rfl (B1_ (fun r:Bool=> .bool r) e0 (ple rfl))
end Go.SW.V
set_option linter.unusedVariables false
set_option maxRecDepth 100000
set_option maxHeartbeats 4000000
namespace Go.SW.V
open Go.SW Go.Proofs
abbrev R11_:Int→PV:=fun r=> .int .u64 r
abbrev R12_:(List Reply)→PV:=fun r=> .sl Reply.pc r
theorem cb113:U_ Tryz.prog 113:=S_ Tryz.func113 (by kernel_rfl) (by kernel_rfl)
theorem fl53_1:Fld Tryz.prog 53 1 1:=fun b o w=>by kernel_rfl
theorem sz72:Sz Tryz.prog 72 8:=fun w=>by kernel_rfl
abbrev ty72:TI:=⟨.agg [(0,7),(7,1)],8,104,[.int .i64 0, .sl V_.pc [], .sl LentR.pc [], .bool false, .bool false, .int .u64 0, .sl DeedR.pc [], .bool false]⟩
abbrev ty75:TI:=⟨.agg [(0,1),(1,2),(3,1),(4,1),(5,40)],45,568,[.str [], .str [], .int .i64 0, .bool false, .bool false, .int .i64 0, .sl V_.pc [], .sl LentR.pc [], .bool false, .bool false, .int .u64 0, .sl DeedR.pc [], .bool false, .int .i64 0, .sl V_.pc [], .sl LentR.pc [], .bool false, .bool false, .int .u64 0, .sl DeedR.pc [], .bool false, .int .i64 0, .sl V_.pc [], .sl LentR.pc [], .bool false, .bool false, .int .u64 0, .sl DeedR.pc [], .bool false, .int .i64 0, .sl V_.pc [], .sl LentR.pc [], .bool false, .bool false, .int .u64 0, .sl DeedR.pc [], .bool false, .int .i64 0, .sl V_.pc [], .sl LentR.pc [], .bool false, .bool false, .int .u64 0, .sl DeedR.pc [], .bool false]⟩
def tbv80:Tb:=[(4,ty4),(5,ty5),(9,ty9),(26,ty26),(27,ty27),(28,ty28),(32,ty32),(39,ty39),(40,ty40),(47,ty47),(51,ty51),(53,ty53),(64,ty64),(72,ty72),(75,ty75),(77,ty77),(137,Se_)]
theorem tv80:tbB Tryz.prog tbv80=true:=by kernel_rfl
theorem Ei_ (place:Bs):Fn Tryz.prog gb 19 [.str place] (.agg (C_.pc (At_ place))):=by
  refine fC Tryz.func19 tv80 Tryz.ntmps19 fun w N H hG=>?_;have e0:=At_.eq_1 place;refine gm tv80 13 [0] fun B2=>?_;exact rt1 rfl rfl (B1_ (fun r:C_=> .agg (C_.pc r)) e0 (ple rfl))
theorem Bb_ (m:Method) (e:Int):Fn Tryz.prog gb 70 [.agg (Method.pc m), .int .i64 e] (.sl Reply.pc (R_ m e)):=by
  refine fC Tryz.func70 tv80 Tryz.ntmps70 fun w N H hG=>?_;have e0:=R_.eq_1 m e;generalize R_ m e=z at e0 ⊢;refine gm tv80 13 [0] fun B2=>?_;refine cD e0 (fun p4 e5=>?_) (fun p7 e8=>?_)
  · refine gx tv80 5 ?_;refine ef (bsl 1 Reply.pc [(⟨m.channel,1,0,0,false,[],(⟨0,[],[],[],[],0,0⟩:Mail)⟩:Reply)] tv80 rfl rfl rfl rfl rfl (fun _=>rfl) rfl (by decide) (by decide) rfl fun u6=>?_);refine gx tv80 3 ?_;refine givec 1 rfl ?_;refine gx tv80 2 ?_;subst e5;exact qr1
  refine gx tv80 9 ?_;refine ef (bsl 1 Reply.pc [(⟨m.channel,2,(IntKind.wrap .u64 e),0,false,[],(⟨0,[],[],[],[],0,0⟩:Mail)⟩:Reply)] tv80 rfl rfl rfl rfl rfl (fun _=>rfl) rfl (by decide) (by decide) rfl fun u9=>?_);refine gx tv80 3 ?_;refine givec 1 rfl ?_;refine gx tv80 1 ?_;subst e8;exact qr1
theorem Fh_ (m:Method) (tick:Int) (due:Int) (hh:m.head.length≤1000000:=by omega):Fn Tryz.prog gb 110 [.agg (Method.pc m), .int .u64 tick, .int .u64 due] (.agg (DeedR.pc (A1_ m tick due))):=by
  refine fC Tryz.func110 tv80 Tryz.ntmps110 fun w N H hG=>?_;have e0:=A1_.eq_1 m tick due;refine gm tv80 7 [0,1] fun B2=>?_;refine aN [1,2,3,4,5,6,7] 14 mixd ?_;refine gX tv80 [0,1,2,3,4,5,6,8,9,10] 4 ?_;refine vE 7 rfl (eC (Ez_ _) rfl fun w4=>?_);refine gX tv80 [11,12] 1 ?_;refine vT 13 rfl (sA tv80 ?_);refine vD ?_;refine gx tv80 2 ?_;exact rt1 rfl rfl (B1_ (fun r:DeedR=> .agg (DeedR.pc r)) e0 (ple rfl))
theorem Kp_ (c:ChanR) (tick:Int) (hc:COk c 10000000:=by first | assumption | exact Ro_ (by assumption) (by omega) (by omega) | exact Tc_ (by assumption) (by omega) (by omega) | exact L8_ (by assumption) (by omega) | exact Ig_ _ | exact Kk_ _):Fn Tryz.prog gb 72 [.agg (ChanR.pc c), .int .u64 tick] (.sl DeedR.pc (Do_ c tick)):=by
  refine fC Tryz.func72 tv80 Tryz.ntmps72 fun w N H hG=>?_;obtain ⟨hc1,hc2,hc3,hc4⟩:=id hc;obtain ⟨hcd1,hcd2,hcd3⟩:=id hc4;have e0:=Do_.eq_1 c tick;refine gm tv80 15 [0] fun B2=>?_;refine cV e0 R3_ (Fx_ _) rfl fun r hr3 e5 w4=>?_;have hA5:=uns_len c
  (try rw [← hr3] at hA5)
  refine gx tv80 5 ?_;refine sw_own (t:=5) (k:=29) (e:=53) 1 DeedR.pc rfl rfl ?_;refine loop (ι:=Nat×(List DeedR)×Value) [1,4,9,10] [0] (fun ⟨k,out,u_out⟩=>[(11, .int .i64 (k:Int)),(5, .osl 1)]) (fun ⟨k,out,u_out⟩=>[(1, .arr u_out 29 53 DeedR.pc out)]) (fun ⟨k,out,u_out⟩=>k≤r.length∧Do_ c tick=Bk_ tick (r.drop k) out∧out.length≤k) (fun ⟨k,out,u_out⟩=>r.length-k) ⟨0,[],(.slice none 0 0)⟩ ⟨rfl,rfl,trivial⟩ ⟨rfl,trivial⟩ ?_ ?_
  · exact ⟨Nat.zero_le _,e5,(by first | omega | (simp;done) | (simp;omega))⟩
  rintro ⟨k,out,u_out⟩ ⟨hp7_1,hp7_2,hp7_3⟩;refine gx tv80 6 ?_;refine cnd rfl (fun h8=>?_) (fun h8=>?_)
  · have p9:=dt h8;have e10:=Gg_ (f:=fun zz=>Bk_ tick zz out) hp7_2 (Pd_ (by omega)) (Bk_.eq_2 _ _ _ _);have hc11:=getG (xs:=r) (k:=k) (by omega);refine gx tv80 6 ?_;refine q1 (qidx tv80 k rfl rfl rfl hc11 rfl rfl rfl rfl) rfl fun w12=>?_;refine gm tv80 13 [2] fun B14=>?_;refine ef (bsl 3 DeedR.pc [(⟨8,tick,(⟨[],0,[]⟩:ShopR),(⟨[],0,0,[]⟩:Al_),(⟨[],[],false,[],[],false⟩:BindR),(gt r k).queue,(gt r k).id,2,0,0,0,(⟨0,[],[],[],[],0,0⟩:Mail),[]⟩:DeedR)] tv80 rfl rfl rfl rfl rfl (fun _=>rfl) rfl (by decide) (by decide) rfl fun u15=>?_);refine ef (app tv80 [(⟨8,tick,(⟨[],0,[]⟩:ShopR),(⟨[],0,0,[]⟩:Al_),(⟨[],[],false,[],[],false⟩:BindR),(gt r k).queue,(gt r k).id,2,0,0,0,(⟨0,[],[],[],[],0,0⟩:Mail),[]⟩:DeedR)] rfl rfl rfl rfl rfl rfl rfl rfl rfl (src_o rfl rfl) (by first | omega | (simp;omega)) rfl fun u16=>?_);refine gy tv80 8 ?_;refine next ⟨(k+1),(out++[(⟨8,tick,(⟨[],0,[]⟩:ShopR),(⟨[],0,0,[]⟩:Al_),(⟨[],[],false,[],[],false⟩:BindR),(gt r k).queue,(gt r k).id,2,0,0,0,(⟨0,[],[],[],[],0,0⟩:Mail),[]⟩:DeedR)]),(u16)⟩ rfl rfl ⟨rfl,rfl,trivial⟩ ⟨rfl,trivial⟩ ?_ ?_
    · (try simp only []);omega
    exact ⟨by (try simp only []);omega,e10,(by (try simp only [List.length_append,List.length_cons,List.length_nil]);omega)⟩
  have p17:=df h8;have e18:=Gg_ (f:=fun zz=>Bk_ tick zz out) hp7_2 (Nk_ (by omega)) (Bk_.eq_1 _ _);refine gx tv80 11 ?_;refine givec 1 rfl ?_;refine gx tv80 1 ?_;exact rt1 rfl rfl (B1_ (fun r:(List DeedR)=> .sl DeedR.pc r) e18 (ple rfl))
theorem Ib_ (l:List DeedR) (tick:Int):Fl Tryz.prog gb 113 [.int .u64 tick] (fun u=> .val u) 29 53 DeedR.pc l (Df_ l tick):=by
  refine fl_cw tv80 Tryz.func113 rfl Tryz.ntmps113 rfl cb113 (fun _=>rfl) rfl fun w l_l u0 N H hG=>?_;have e0:=Df_.eq_1 l tick;refine gx tv80 14 ?_;refine loop (ι:=Nat×(List DeedR)×Nat×Value) [1,4,7] [] (fun ⟨f,l1,v,u_l1⟩=>[(0, .osl 0),(8, .int .i64 (v:Int))]) (fun ⟨f,l1,v,u_l1⟩=>[(0, .arr u_l1 29 53 DeedR.pc l1)]) (fun ⟨f,l1,v,u_l1⟩=>l.length-v<f∧Df_ l tick=Dr_ l tick f l1 v∧l1.length=l.length) (fun ⟨f,l1,v,u_l1⟩=>f) ⟨(l.length-0+1),l,0,(u0)⟩ ⟨rfl,rfl,trivial⟩ ⟨rfl,trivial⟩ ?_ ?_
  · exact ⟨Nat.lt_succ_self _,e0,rfl⟩
  rintro ⟨f,l1,v,u_l1⟩ ⟨hp1_1,hp1_2,hp1_3⟩;obtain ⟨f1,rfl⟩:∃ q,f=q+1:=⟨f-1,by omega⟩;have e_f1:=hp1_2.trans (Dr_.eq_2 _ _ _ _ _);refine gx tv80 6 ?_;refine cD e_f1 (fun p3 e4=>?_) (fun p9 e10=>?_)
  · refine gx tv80 14 ?_;refine q1 (eidx v tv80 rfl rfl rfl rfl rfl rfl rfl rfl (by omega)) rfl fun w5=>?_;refine q1 (efld rfl fl53_1) rfl fun w6=>?_;have hc7:=getG (xs:=l1) (k:=v) (by omega);refine ef (est1 (i:=0) v 1 (⟨(gt l1 v).kind,tick,(gt l1 v).shop,(gt l1 v).queue,(gt l1 v).bind,(gt l1 v).name,(gt l1 v).id,(gt l1 v).how,(gt l1 v).frm,(gt l1 v).code,(gt l1 v).number,(gt l1 v).mail,(gt l1 v).text⟩:DeedR) tv80 rfl rfl rfl rfl rfl rfl (by omega) rfl (by decide) (fun _ h=>by obtain rfl :=Option.some.inj (h.symm.trans hc7);rfl) ?_);have hset7:(l1.set v (⟨(gt l1 v).kind,tick,(gt l1 v).shop,(gt l1 v).queue,(gt l1 v).bind,(gt l1 v).name,(gt l1 v).id,(gt l1 v).how,(gt l1 v).frm,(gt l1 v).code,(gt l1 v).number,(gt l1 v).mail,(gt l1 v).text⟩:DeedR)).length=l1.length:=List.length_set ..;refine gy tv80 7 ?_;refine next ⟨f1,(l1.set v (⟨(gt l1 v).kind,tick,(gt l1 v).shop,(gt l1 v).queue,(gt l1 v).bind,(gt l1 v).name,(gt l1 v).id,(gt l1 v).how,(gt l1 v).frm,(gt l1 v).code,(gt l1 v).number,(gt l1 v).mail,(gt l1 v).text⟩:DeedR)),(v+1),(u_l1)⟩ rfl rfl ⟨rfl,rfl,trivial⟩ ⟨rfl,trivial⟩ ?_ ?_
    · (try simp only []);omega
    exact ⟨by (try simp only []);omega,e4,by (try simp only [List.length_set]);omega⟩
  refine gx tv80 11 ?_;refine sw_val (t:=4) (i:=0) rfl rfl ?_;refine gx tv80 1 ?_;refine ro1 (j:=0) rfl rfl rfl ?_;exact (congrArg (fun r:(List DeedR)=>r) e10).symm
theorem Lm_ (c:ChanR) (m:Method) (hc:COk c 10000000:=by first | assumption | exact Ro_ (by assumption) (by omega) (by omega) | exact Tc_ (by assumption) (by omega) (by omega) | exact L8_ (by assumption) (by omega) | exact Ig_ _ | exact Kk_ _):Fn Tryz.prog gb 107 [.agg (ChanR.pc c), .agg (Method.pc m)] (.tup [.agg (ChanR.pc ((Di_ c m).1)), .int .i64 ((Di_ c m).2.1), .bool ((Di_ c m).2.2)]):=by
  refine fC Tryz.func107 tv80 Tryz.ntmps107 fun w N H hG=>?_;obtain ⟨hc1,hc2,hc3,hc4⟩:=id hc;obtain ⟨hcd1,hcd2,hcd3⟩:=id hc4;have e0:=Di_.eq_1 c m;generalize Di_ c m=z at e0 ⊢;refine gm tv80 28 [0,1,2] fun B2=>?_;refine cD e0 (fun p6 e7=>?_) (fun p14 e15=>?_)
  · refine gx tv80 4 ?_;refine cV e7 R7_ (Es_ _ _) rfl fun r hr8 e10 w9=>?_;have hA10:=Ts_ c m.n
    (try rw [← hr8] at hA10)
    have hA11:=fun h=>L5_ (c:=c) (n:=0) m.n h
    (try rw [← hr8] at hA11)
    (try have hA11b:=hA11 (by first | assumption | omega | exact Lg_ | (simp;done)))
    refine gm tv80 18 [] fun _=>?_;subst e10;exact qr3
  refine gx tv80 6 ?_;refine cD e15 (fun p17 e18=>?_) (fun p23 e24=>?_)
  · refine gx tv80 6 ?_;refine cV e18 R7_ (Ic_ _ _ _) rfl fun r1 hr19 e21 w20=>?_;refine gm tv80 18 [] fun _=>?_;subst e21;exact qr3
  refine gx tv80 6 ?_;refine cD e24 (fun p26 e27=>?_) (fun p32 e33=>?_)
  · refine gx tv80 4 ?_;refine cV e27 R7_ (Ht_ _ _) rfl fun r2 hr28 e30 w29=>?_;refine gm tv80 18 [] fun _=>?_;subst e30;exact qr3
  refine gx tv80 6 ?_;refine cD e33 (fun p35 e36=>?_) (fun p41 e42=>?_)
  · refine gx tv80 2 ?_;refine cV e36 R7_ (Ij_ _) rfl fun r3 hr37 e39 w38=>?_;refine gm tv80 18 [] fun _=>?_;subst e39;exact qr3
  refine gx tv80 6 ?_;refine cD e42 (fun p44 e45=>?_) (fun p50 e51=>?_)
  · refine gx tv80 2 ?_;refine cV e45 R7_ (Hq_ _) rfl fun r4 hr46 e48 w47=>?_;refine gm tv80 18 [] fun _=>?_;subst e48;exact qr3
  refine gx tv80 6 ?_;refine cD e51 (fun p53 e54=>?_) (fun p59 e60=>?_)
  · refine gx tv80 2 ?_;refine cV e54 R7_ (Fa_ _) rfl fun r5 hr55 e57 w56=>?_;refine gm tv80 18 [] fun _=>?_;subst e57;exact qr3
  refine gm tv80 12 [] fun _=>?_;subst e60;exact qr3
theorem Gd_ (s:C_) (m:Method):Fn Tryz.prog gb 69 [.agg (C_.pc s), .agg (Method.pc m)] (.int .i64 (Bl_ s m)):=by
  refine fC Tryz.func69 tv80 Tryz.ntmps69 fun w N H hG=>?_;have s_place_l:s.place.length≤9223372036854775807:=w.1.1;have s_feed_rest_l:s.feed.rest.length≤9223372036854775807:=w.1.2.1;have s_feed_err_r:-9223372036854775808≤s.feed.err∧s.feed.err≤9223372036854775807:=w.1.2.2.1;have m_channel_r:0≤m.channel∧m.channel≤255:=w.2.1.1;have m_kind_r:0≤m.kind∧m.kind≤255:=w.2.1.2.1;have m_name_l:m.name.length≤9223372036854775807:=w.2.1.2.2.1;have m_other_l:m.other.length≤9223372036854775807:=w.2.1.2.2.2.1;have m_key_l:m.key.length≤9223372036854775807:=w.2.1.2.2.2.2.1;have m_head_l:m.head.length≤140737488355328:=w.2.1.2.2.2.2.2.1.1;have m_body_l:m.body.length≤9223372036854775807:=w.2.1.2.2.2.2.2.2.1;have m_n_r:0≤m.n∧m.n≤18446744073709551615:=w.2.1.2.2.2.2.2.2.2.1;have m_m_r:0≤m.m∧m.m≤18446744073709551615:=w.2.1.2.2.2.2.2.2.2.2.1;have e0:=Bl_.eq_1 s m;generalize Bl_ s m=z at e0 ⊢;refine gm tv80 24 [0,1] fun B2=>?_;refine cE e0 (fun h4 e5=>?_) (fun h4 e6=>?_)
  · refine gx tv80 8 ?_;subst e5;exact qr1
  refine gy tv80 17 ?_;refine cE e6 (fun h7 e11=>?_) (fun h7 e12=>?_)
  · have h8:=bl h7;have h9:=Bo_ h8;have h10:=br h7;refine gx tv80 8 ?_;subst e11;exact qr1
  refine gy tv80 13 ?_;refine cE e12 (fun h13 e19=>?_) (fun h13 e20=>?_)
  · have h14:=bl h13;have h15:=Bo_ h14;have h16:=br h13;have h17:=Bo_ h16;have p18:=df h17;refine gx tv80 8 ?_;subst e19;exact qr1
  refine gx tv80 8 ?_;refine cE e20 (fun h21 e23=>?_) (fun h21 e25=>?_)
  · have h22:=Bo_ h21;refine gx tv80 8 ?_;subst e23;exact qr1
  have h24:=Cp_ h21;refine gy tv80 11 ?_;refine cE e25 (fun h26 e27=>?_) (fun h26 e32=>?_)
  · refine gx tv80 8 ?_;subst e27;exact qr1
  have h28:=orl h26;have p29:=df h28;have h30:=orr h26;have p31:=df h30;refine gx tv80 8 ?_;refine cD e32 (fun p34 e35=>?_) (fun p36 e37=>?_)
  · refine gx tv80 8 ?_;subst e35;exact qr1
  refine gx tv80 1 ?_;refine aN [2,3,4,5,6,7] 11 mixd ?_;refine gX tv80 [0,1,2] 8 ?_;refine vq 3 (qaia (m.channel).toNat rfl rfl Tryz.underlying73 sz72 (by omega) (by omega)) rfl (by kernel_rfl) rfl fun w38=>?_;refine gX tv80 [4,6,7,8] 3 ?_;refine vE 5 rfl (oloadS1 (len:=5) (fun q=> .bool ((A5.get s.slots q).isopen)) ((m.channel).toNat) 5 8 7 tv80 rfl rfl rfl rfl rfl rfl (by omega) (bw5 rfl rfl rfl rfl rfl) rfl fun w39=>?_);refine gX tv80 [9,10] 0 ?_;refine vD ?_;refine gx tv80 1 ?_;refine cE e37 (fun h40 e42=>?_) (fun h40 e44=>?_)
  · have p41:=beqT h40;refine gx tv80 8 ?_;subst e42;exact qr1
  have p43:=beqF h40;refine gx tv80 9 ?_;subst e44;exact qr1
theorem Ce_ (s:C_) (m:Method) (c:ChanR) (hm:m.channel≤4:=by omega):Fn Tryz.prog gb 108 [.agg (C_.pc s), .agg (Method.pc m), .agg (ChanR.pc c)] (.agg (C_.pc (W_ s m c))):=by
  refine fC Tryz.func108 tv80 Tryz.ntmps108 fun w N H hG=>?_;have s_place_l:s.place.length≤9223372036854775807:=w.1.1;have s_feed_rest_l:s.feed.rest.length≤9223372036854775807:=w.1.2.1;have s_feed_err_r:-9223372036854775808≤s.feed.err∧s.feed.err≤9223372036854775807:=w.1.2.2.1;have m_channel_r:0≤m.channel∧m.channel≤255:=w.2.1.1;have m_kind_r:0≤m.kind∧m.kind≤255:=w.2.1.2.1;have m_name_l:m.name.length≤9223372036854775807:=w.2.1.2.2.1;have m_other_l:m.other.length≤9223372036854775807:=w.2.1.2.2.2.1;have m_key_l:m.key.length≤9223372036854775807:=w.2.1.2.2.2.2.1;have m_head_l:m.head.length≤140737488355328:=w.2.1.2.2.2.2.2.1.1;have m_body_l:m.body.length≤9223372036854775807:=w.2.1.2.2.2.2.2.2.1;have m_n_r:0≤m.n∧m.n≤18446744073709551615:=w.2.1.2.2.2.2.2.2.2.1;have m_m_r:0≤m.m∧m.m≤18446744073709551615:=w.2.1.2.2.2.2.2.2.2.2.1;have c_credit_r:-9223372036854775808≤c.credit∧c.credit≤9223372036854775807:=w.2.2.1.1;have c_takers_l:c.takers.length≤140737488355328:=w.2.2.1.2.1.1;have c_lent_l:c.lent.length≤140737488355328:=w.2.2.1.2.2.1.1;have c_puts_r:0≤c.puts∧c.puts≤18446744073709551615:=w.2.2.1.2.2.2.2.2.1;have c_held_l_l:c.held.l.length≤140737488355328:=w.2.2.1.2.2.2.2.2.2.1.1;have e0:=W_.eq_1 s m c;refine gm tv80 14 [0,1,2,3] fun B2=>?_;refine q1 (qaia (m.channel).toNat rfl rfl Tryz.underlying73 sz72 (by omega) (by omega)) rfl fun w6=>?_;refine gx tv80 1 ?_;refine ef (Gy_ (sz:=7) (len:=5) (fun q=>C_.pc (⟨s.place,s.feed,s.begun,s.over,(A5.set s.slots (⟨c,(A5.get s.slots q).isopen⟩:SlotR) q)⟩:C_)) ((m.channel).toNat) 5 8 0 tv80 rfl rfl rfl rfl rfl rfl rfl rfl rfl (by omega) (bw5 rfl rfl rfl rfl rfl) rfl (bw5 rfl rfl rfl rfl rfl) rfl ?_);refine gm tv80 9 [] fun _=>?_;exact rt1 rfl rfl (B1_ (fun r:C_=> .agg (C_.pc r)) e0 (ple rfl))
theorem F5_ (c:SlotR) (m:Method) (e:Int):Fn Tryz.prog gb 152 [.agg (SlotR.pc c), .agg (Method.pc m), .int .i64 e] (.sl Reply.pc (Bg_ c m e)):=by
  refine fC Tryz.func152 tv80 Tryz.ntmps152 fun w N H hG=>?_;have e0:=Bg_.eq_1 c m e;generalize Bg_ c m e=z at e0 ⊢;refine gm tv80 11 [0,1] fun B2=>?_;refine cV e0 R11_ (Hd_ _) rfl fun r hr4 e6 w5=>?_;refine gy tv80 16 ?_;refine cE e6 (fun h7 e12=>?_) (fun h7 e13=>?_)
  · have h8:=bl h7;have p9:=dt h8;have h10:=br h7;have p11:=dt h10;refine gx tv80 8 ?_;exact rt1 rfl rfl (B1_ (fun r:(List Reply)=> .sl Reply.pc r) e12 Bi_)
  refine gx tv80 7 ?_;refine cD e13 (fun p15 e16=>?_) (fun p20 e21=>?_)
  · refine gx tv80 4 ?_;refine cV e16 R12_ (Bb_ _ _) rfl fun r1 hr17 e19 w18=>?_;refine gx tv80 6 ?_;subst e19;exact qr1
  refine gx tv80 7 ?_;refine cD e21 (fun p23 e24=>?_) (fun p26 e27=>?_)
  · refine gx tv80 6 ?_;refine ef (bsl 2 Reply.pc [(⟨m.channel,5,r,0,false,[],(⟨0,[],[],[],[],0,0⟩:Mail)⟩:Reply)] tv80 rfl rfl rfl rfl rfl (fun _=>rfl) rfl (by decide) (by decide) rfl fun u25=>?_);refine gx tv80 3 ?_;refine givec 2 rfl ?_;refine gx tv80 3 ?_;subst e24;exact qr1
  refine gx tv80 11 ?_;refine ef (bsl 2 Reply.pc [(⟨m.channel,6,r,(IntKind.wrap .u64 e),false,[],(⟨0,[],[],[],[],0,0⟩:Mail)⟩:Reply)] tv80 rfl rfl rfl rfl rfl (fun _=>rfl) rfl (by decide) (by decide) rfl fun u28=>?_);refine gx tv80 3 ?_;refine givec 2 rfl ?_;refine gx tv80 1 ?_;subst e27;exact qr1
end Go.SW.V
set_option linter.unusedVariables false
set_option maxRecDepth 100000
set_option maxHeartbeats 4000000
namespace Go.SW.V
open Go.SW Go.Proofs
theorem cb112:U_ Tryz.prog 112:=S_ Tryz.func112 (by kernel_rfl) (by kernel_rfl)
abbrev ty99:TI:=⟨.agg [(0,7),(7,1),(8,1)],9,104,[.int .u64 0, .str [], .str [], .sl Pair.pc [], .str [], .int .u64 0, .int .u8 0, .bool false, .bool false]⟩
abbrev ty153:TI:=⟨.agg [(0,1),(1,1),(2,1)],3,32,[.int .u8 0, .int .u64 0, .str []]⟩
def tbv81:Tb:=[(4,ty4),(5,ty5),(9,ty9),(27,ty27),(28,ty28),(32,ty32),(39,ty39),(44,ty44),(46,ty46),(47,ty47),(49,ty49),(51,ty51),(53,ty53),(64,ty64),(72,ty72),(75,ty75),(99,ty99),(137,Se_),(153,ty153)]
theorem tv81:tbB Tryz.prog tbv81=true:=by kernel_rfl
theorem Jo_ (m:Method) (tick:Int) (hh:m.head.length≤1000000:=by omega):Fn Tryz.prog gb 106 [.agg (Method.pc m), .int .u64 tick] (.tup [.sl DeedR.pc ((Da_ m tick).1), .bool ((Da_ m tick).2)]):=by
  refine fC Tryz.func106 tv81 Tryz.ntmps106 fun w N H hG=>?_;have e0:=Da_.eq_1 m tick;generalize Da_ m tick=z at e0 ⊢;refine gm tv81 16 [0,1] fun B2=>?_;refine F3_ (ι:=Nat) [2,4,5,6] [0,1] (fun b4=>[(7, .own 2 b4 0)]) (fun b4=>[(2, .box b4 49 (BindR.pc (⟨m.name,m.other,decide (9≤m.kind),m.key,m.head,m.yes⟩:BindR)))]) (fun b4=>PV.wf (.sl Pair.pc m.head)) ?_ ?_
  · refine aN [2,3,4,5,6,7,8,9] 17 mixd ?_;refine gX tv81 [0,1,2,3,4,5,6,7,8,9,10,12,13] 4 ?_;refine veL 11 [15] (by kernel_rfl) ⟨⟨_,rfl,?_⟩,⟨_,rfl,?_⟩,trivial⟩
    · refine ej rfl (eC (Ez_ _) rfl fun w5=>?_);refine gX tv81 [14] 2 ?_;refine vE 15 rfl (aL tv81 2 fun b6=>?_);refine vE 16 rfl (sA tv81 ?_);refine vD ?_;refine nX (b6) ?_ ⟨rfl,trivial⟩ ⟨rfl,trivial⟩;exact w5
    refine ej rfl (aL tv81 2 fun b7=>?_);refine vE 11 rfl (eC (Ez_ _) rfl fun w8=>?_);refine gX tv81 [14] 1 ?_;refine vE 16 rfl (sA tv81 ?_);refine vD ?_;refine nX (b7) ?_ ⟨rfl,trivial⟩ ⟨rfl,trivial⟩;exact w8
  rintro b4 w9;refine gx tv81 15 ?_;refine cD e0 (fun p11 e12=>?_) (fun p14 e15=>?_)
  · refine aN [1,3,4,5,6,7,8] 13 mixd ?_;refine gX tv81 [0,1,2,3,4,5,6,7,8,9] 3 ?_;refine vE 10 rfl (sO tv81 ?_);refine gX tv81 [11] 1 ?_;refine vT 12 rfl (sA tv81 ?_);refine vD ?_;refine gx tv81 5 ?_;refine ef (bsl 3 DeedR.pc [(⟨0,tick,(⟨m.name,(IntKind.wrap .u8 (min m.n 255)),m.other⟩:ShopR),(⟨[],0,0,[]⟩:Al_),(⟨[],[],false,[],[],false⟩:BindR),[],0,0,0,0,0,(⟨0,[],[],[],[],0,0⟩:Mail),[]⟩:DeedR)] tv81 rfl rfl rfl rfl rfl (fun _=>rfl) rfl (by decide) (by decide) rfl fun u13=>?_);refine gx tv81 4 ?_;refine givec 3 rfl ?_;refine gx tv81 1 ?_;subst e12;exact qr2
  refine gx tv81 6 ?_;refine cD e15 (fun p17 e18=>?_) (fun p20 e21=>?_)
  · refine aN [1,3,4,5,6,7,8] 6 mixd ?_;refine gX tv81 [0,1,2] 3 ?_;refine vE 3 rfl (sO tv81 ?_);refine gX tv81 [4] 1 ?_;refine vT 5 rfl (sO tv81 ?_);refine vD ?_;refine gx tv81 5 ?_;refine ef (bsl 3 DeedR.pc [(⟨1,tick,(⟨[],0,[]⟩:ShopR),(⟨[],0,0,[]⟩:Al_),(⟨[],[],false,[],[],false⟩:BindR),m.name,0,0,0,0,0,(⟨0,[],[],[],[],0,0⟩:Mail),[]⟩:DeedR)] tv81 rfl rfl rfl rfl rfl (fun _=>rfl) rfl (by decide) (by decide) rfl fun u19=>?_);refine gx tv81 4 ?_;refine givec 3 rfl ?_;refine gx tv81 1 ?_;subst e18;exact qr2
  refine gx tv81 6 ?_;refine cD e21 (fun p23 e24=>?_) (fun p26 e27=>?_)
  · refine aN [1,3,4,5,6,7,8] 13 mixd ?_;refine gX tv81 [0,1,2,3,4,5,6,7,8,9] 3 ?_;refine vE 10 rfl (sO tv81 ?_);refine gX tv81 [11] 1 ?_;refine vT 12 rfl (sA tv81 ?_);refine vD ?_;refine gx tv81 5 ?_;refine ef (bsl 3 DeedR.pc [(⟨2,tick,(⟨[],0,[]⟩:ShopR),(⟨m.name,m.n,m.m,m.other⟩:Al_),(⟨[],[],false,[],[],false⟩:BindR),[],0,0,0,0,0,(⟨0,[],[],[],[],0,0⟩:Mail),[]⟩:DeedR)] tv81 rfl rfl rfl rfl rfl (fun _=>rfl) rfl (by decide) (by decide) rfl fun u25=>?_);refine gx tv81 4 ?_;refine givec 3 rfl ?_;refine gx tv81 1 ?_;subst e24;exact qr2
  refine gx tv81 6 ?_;refine cD e27 (fun p29 e30=>?_) (fun p32 e33=>?_)
  · refine aN [1,3,4,5,6,7,8] 6 mixd ?_;refine gX tv81 [0,1,2] 3 ?_;refine vE 3 rfl (sO tv81 ?_);refine gX tv81 [4] 1 ?_;refine vT 5 rfl (sO tv81 ?_);refine vD ?_;refine gx tv81 5 ?_;refine ef (bsl 3 DeedR.pc [(⟨3,tick,(⟨[],0,[]⟩:ShopR),(⟨[],0,0,[]⟩:Al_),(⟨[],[],false,[],[],false⟩:BindR),m.name,0,0,0,0,0,(⟨0,[],[],[],[],0,0⟩:Mail),[]⟩:DeedR)] tv81 rfl rfl rfl rfl rfl (fun _=>rfl) rfl (by decide) (by decide) rfl fun u31=>?_);refine gx tv81 4 ?_;refine givec 3 rfl ?_;refine gx tv81 1 ?_;subst e30;exact qr2
  refine gx tv81 1 ?_;obtain ⟨o,e_o,q_o⟩:=Fk_ e33;refine F3_ (ι:=Bool) [4,5,6,7,26] [0,1,2] (fun v=>[(65, .bool v)]) (fun v=>[]) (fun v=>o=v) ?_ ?_
  · refine gx tv81 6 ?_;refine cD e_o (fun p35 e36=>?_) (fun p37 e38=>?_)
    · refine gx tv81 1 ?_;refine nX (decide (m.kind=7)) ?_ ⟨rfl,trivial⟩ trivial;exact e36
    refine gx tv81 4 ?_;refine nX (decide (m.kind=9)) ?_ ⟨rfl,trivial⟩ trivial;exact e38
  rintro v hp39;have e40:=I6_ q_o hp39;refine gx tv81 1 ?_;refine cE e40 (fun h41 e42=>?_) (fun h41 e44=>?_)
  · refine aN [1,3,4,5,6,7,8] 5 mixd ?_;refine gX tv81 [0,1] 3 ?_;refine vE 2 rfl (sO tv81 ?_);refine gX tv81 [3] 1 ?_;refine vT 4 rfl (sA tv81 ?_);refine vD ?_;refine gx tv81 5 ?_;refine ef (bsl 3 DeedR.pc [(⟨4,tick,(⟨[],0,[]⟩:ShopR),(⟨[],0,0,[]⟩:Al_),(⟨m.name,m.other,decide (9≤m.kind),m.key,m.head,m.yes⟩:BindR),[],0,0,0,0,0,(⟨0,[],[],[],[],0,0⟩:Mail),[]⟩:DeedR)] tv81 rfl rfl rfl rfl rfl (fun _=>rfl) rfl (by decide) (by decide) rfl fun u43=>?_);refine gx tv81 4 ?_;refine givec 3 rfl ?_;refine gx tv81 1 ?_;subst e42;exact qr2
  refine gx tv81 1 ?_;obtain ⟨o1,e_o1,q_o1⟩:=Fk_ e44;refine F3_ (ι:=Bool) [4,5,6,7] [0,1,2] (fun v1=>[(71, .bool v1)]) (fun v1=>[]) (fun v1=>o1=v1) ?_ ?_
  · refine gx tv81 6 ?_;refine cD e_o1 (fun p46 e47=>?_) (fun p48 e49=>?_)
    · refine gx tv81 1 ?_;refine nX (decide (m.kind=8)) ?_ ⟨rfl,trivial⟩ trivial;exact e47
    refine gx tv81 4 ?_;refine nX (decide (m.kind=10)) ?_ ⟨rfl,trivial⟩ trivial;exact e49
  rintro v1 hp50;have e51:=I6_ q_o1 hp50;refine gx tv81 1 ?_;refine cE e51 (fun h52 e53=>?_) (fun h52 e55=>?_)
  · refine aN [1,3,4,5,6,7,8] 5 mixd ?_;refine gX tv81 [0,1] 3 ?_;refine vE 2 rfl (sO tv81 ?_);refine gX tv81 [3] 1 ?_;refine vT 4 rfl (sA tv81 ?_);refine vD ?_;refine gx tv81 5 ?_;refine ef (bsl 3 DeedR.pc [(⟨5,tick,(⟨[],0,[]⟩:ShopR),(⟨[],0,0,[]⟩:Al_),(⟨m.name,m.other,decide (9≤m.kind),m.key,m.head,m.yes⟩:BindR),[],0,0,0,0,0,(⟨0,[],[],[],[],0,0⟩:Mail),[]⟩:DeedR)] tv81 rfl rfl rfl rfl rfl (fun _=>rfl) rfl (by decide) (by decide) rfl fun u54=>?_);refine gx tv81 4 ?_;refine givec 3 rfl ?_;refine gx tv81 1 ?_;subst e53;exact qr2
  refine gx tv81 9 ?_;subst e55;exact rt2 rfl rfl (Cr_ (F_ Bi_ (F_ (ple rfl) A5_)))
theorem Fe_ (c:ChanR) (m:Method) (tick:Int) (hc:COk c 10000000:=by first | assumption | exact Ro_ (by assumption) (by omega) (by omega) | exact Tc_ (by assumption) (by omega) (by omega) | exact L8_ (by assumption) (by omega) | exact Ig_ _ | exact Kk_ _):Fo Tryz.prog gb 112 [.agg (ChanR.pc c), .agg (Method.pc m), .int .u64 tick] (fun u=> .tup [.val u, .int .i64 ((Bt_ c m tick).2)]) 29 53 DeedR.pc ((Bt_ c m tick).1):=by
  refine Lj_ tv81 Tryz.func112 rfl Tryz.ntmps112 rfl cb112 (fun _=>rfl) rfl fun w N H hG=>?_;obtain ⟨hc1,hc2,hc3,hc4⟩:=id hc;obtain ⟨hcd1,hcd2,hcd3⟩:=id hc4;have e0:=Bt_.eq_1 c m tick;refine gm tv81 16 [0,1] fun B2=>?_;refine cD e0 (fun p5 e6=>?_) (fun p12 e13=>?_)
  · refine gx tv81 4 ?_;refine ef (ecallo 2 (Ir_ _ _) rfl rfl ?_);generalize hr9:Cm_ c tick=r;intro u8 w7;have e10:=e6.trans (C0_ hr9.symm);have hr9:=hr9.symm;have hA10:=Q4_ c tick
    (try rw [← hr9] at hA10)
    refine gx tv81 6 ?_;refine gx tv81 2 ?_;refine roN (j:=2) u8 rfl rfl rfl rfl ?_ ?_
    · exact (congrArg (fun r:(List DeedR)×Int=>r.1) e10).symm
    exact B1_ (fun r:(List DeedR)×Int=> .tup [.val u8, .int .i64 r.2]) e10 (ple rfl)
  refine gx tv81 11 ?_;refine ef (ecallo 2 (Gr_ _ _ _ _) rfl rfl ?_);generalize hr16:Bj_ c m.n m.m m.yes=r1;intro u15 w14;have e17:=e13.trans (C0_ hr16.symm);have hr16:=hr16.symm;have hA17:=Q9_ c m.n m.m m.yes
  (try rw [← hr16] at hA17)
  refine gx tv81 11 ?_;refine so_osl (t:=29) 2 rfl rfl ?_;refine ef (ecallw (Ib_ _ _) rfl rfl rfl rfl rfl rfl ?_);generalize hr21:Df_ r1.1 tick=r2;intro u19 w20;have e22:=e17.trans (C0_ hr21.symm);have hr21:=hr21.symm;have hA22:=Py_ r1.1 tick
  (try rw [← hr21] at hA22)
  refine gx tv81 5 ?_;refine gx tv81 1 ?_;refine roN (j:=2) u19 rfl rfl rfl rfl ?_ ?_
  · exact (congrArg (fun r:(List DeedR)×Int=>r.1) e22).symm
  exact B1_ (fun r:(List DeedR)×Int=> .tup [.val u19, .int .i64 r.2]) e22 (ple rfl)
theorem Bp_ (s:C_) (t:TakerS) (x:ItemR) (hs:SOk s 10000000:=by first | assumption | exact Jb_ (by assumption) (by omega)) (hh:x.mail.head.length≤1000000:=by omega):Fn Tryz.prog gb 81 [.agg (C_.pc s), .agg (TakerS.pc t), .agg (ItemR.pc x)] (.tup [.agg (C_.pc ((Q_ s t x).1)), .agg (Reply.pc ((Q_ s t x).2))]):=by
  refine fC Tryz.func81 tv81 Tryz.ntmps81 fun w N H hG=>?_;have s_place_l:s.place.length≤9223372036854775807:=w.1.1;have s_feed_rest_l:s.feed.rest.length≤9223372036854775807:=w.1.2.1;have s_feed_err_r:-9223372036854775808≤s.feed.err∧s.feed.err≤9223372036854775807:=w.1.2.2.1;have t_channel_r:0≤t.channel∧t.channel≤255:=w.2.1.1;have t_tag_r:0≤t.tag∧t.tag≤18446744073709551615:=w.2.1.2.1;have t_queue_l:t.queue.length≤9223372036854775807:=w.2.1.2.2.1;have x_mail_id_r:0≤x.mail.id∧x.mail.id≤18446744073709551615:=w.2.2.1.1;have x_mail_shop_l:x.mail.shop.length≤9223372036854775807:=w.2.2.1.2.1;have x_mail_key_l:x.mail.key.length≤9223372036854775807:=w.2.2.1.2.2.1;have x_mail_head_l:x.mail.head.length≤140737488355328:=w.2.2.1.2.2.2.1.1;have x_mail_body_l:x.mail.body.length≤9223372036854775807:=w.2.2.1.2.2.2.2.1;have x_mail_due_r:0≤x.mail.due∧x.mail.due≤18446744073709551615:=w.2.2.1.2.2.2.2.2.1;have x_mail_hops_r:0≤x.mail.hops∧x.mail.hops≤255:=w.2.2.1.2.2.2.2.2.2.1;have e0:=Q_.eq_1 s t x;generalize Q_ s t x=z at e0 ⊢;refine gmy tv81 19 [0,1,2,3,4] fun B2=>?_;refine q1g [14,15] rfl (fun hc=>qaia (t.channel).toNat rfl rfl Tryz.underlying73 sz72 (by omega) (by first | omega | (simp only [gOf,Bool.and_eq_true,Bool.or_eq_true,Bool.not_eq_true',decide_eq_true_eq,decide_eq_false_iff_not,Bool.not_eq_false',Bool.and_true,Bool.true_and,cond_true,cond_false] at *;omega))) ⟨(fun hc=>hc),(fun hc=>hc),trivial⟩ rfl rfl rfl fun _=>?_;refine gy tv81 1 ?_;refine q1gL [17] rfl (fun hc=>lyS1 (len:=5) (fun q=> .bool ((A5.get s.slots q).isopen)) ((t.channel).toNat) 5 8 7 tv81 rfl rfl rfl rfl rfl rfl (by first | omega | (simp only [gOf,Bool.and_eq_true,Bool.or_eq_true,Bool.not_eq_true',decide_eq_true_eq,decide_eq_false_iff_not,Bool.not_eq_false',Bool.and_true,Bool.true_and,cond_true,cond_false] at *;omega)) (fun _=>rfl) (bw5 rfl rfl rfl rfl rfl)) ⟨(fun hc=>hc),trivial⟩ rfl rfl fun _=>?_;refine gy tv81 4 ?_;refine cE e0 (fun h7 e8=>?_) (fun h7 e14=>?_)
  · refine gm tv81 10 [] fun _=>?_;subst e8;exact qr2
  have h10:=orl h7;have p11:=df h10;have h12:=orr h7;have h13:=Cp_ h12;refine gm tv81 11 [5] fun B16=>?_;refine aN [6,7,8,9,10,11] 18 mixd ?_;refine gX tv81 [0,1,2,3,4] 13 ?_;refine vq 5 (qaia (t.channel).toNat rfl rfl Tryz.underlying73 sz72 (by omega) (by omega)) rfl (by kernel_rfl) rfl fun w17=>?_;refine gX tv81 [6,8,9,10,11,12,14] 5 ?_;refine vE 7 rfl (Pl_ (sz:=7) (len:=5) (fun q=>[.int .i64 ((A5.get s.slots q).chan.credit), .sl V_.pc ((A5.get s.slots q).chan.takers), .sl LentR.pc ((A5.get s.slots q).chan.lent), .bool ((A5.get s.slots q).chan.sure), .bool ((A5.get s.slots q).chan.drafts), .int .u64 ((A5.get s.slots q).chan.puts), .sl DeedR.pc ((A5.get s.slots q).chan.held.l)]) ((t.channel).toNat) 5 8 0 tv81 rfl rfl rfl rfl rfl rfl rfl (by omega) (bw5 rfl rfl rfl rfl rfl) (bw5 rfl rfl rfl rfl rfl) rfl fun w18=>?_);refine vE 13 rfl (eC (Fc_ ((A5.get s.slots ((t.channel).toNat)).chan) (⟨x.mail.id,t.queue⟩:LentR) (hn:=by first | omega | exact Ze_ (by assumption) (by omega) (by omega))) rfl ?_);generalize hr20:Cq_ ((A5.get s.slots ((t.channel).toNat)).chan) (⟨x.mail.id,t.queue⟩:LentR)=r;intro w19;have e21:=e14.trans (C0_ hr20.symm);have hr20:=hr20.symm
  (try have hA21:=Q3_ (c:=((A5.get s.slots ((t.channel).toNat)).chan)) (⟨x.mail.id,t.queue⟩:LentR) (by assumption);(try rw [← hr20] at hA21))
  refine vq 15 (qaia (t.channel).toNat rfl rfl Tryz.underlying73 sz72 (by omega) (by omega)) rfl (by kernel_rfl) rfl fun w23=>?_;refine gX tv81 [16] 1 ?_;refine vtp 17 rfl (by kernel_rfl) (by kernel_rfl) (Gy_ (sz:=7) (len:=5) (fun q=>C_.pc (⟨s.place,s.feed,s.begun,s.over,(A5.set s.slots (⟨r,(A5.get s.slots q).isopen⟩:SlotR) q)⟩:C_)) ((t.channel).toNat) 5 8 0 tv81 rfl rfl rfl rfl rfl rfl rfl rfl rfl (by omega) (bw5 rfl rfl rfl rfl rfl) rfl (bw5 rfl rfl rfl rfl rfl) rfl ?_);refine vD ?_;refine gx tv81 2 ?_;refine aN [3,4,6,7,8,9,10,11] 22 mixd ?_;refine gX tv81 [0,1,2,3,4,5,6,7,8,9,10,11,12,13,14,16,17] 5 ?_;refine vE 15 rfl (eC (Ez_ _) rfl fun w24=>?_);refine gX tv81 [18,19] 2 ?_;refine vE 20 rfl (sA tv81 ?_);refine vT 21 rfl (sA tv81 ?_);refine vD ?_;refine gx tv81 2 ?_;subst e21;exact qr2
end Go.SW.V
set_option linter.unusedVariables false
set_option maxRecDepth 100000
set_option maxHeartbeats 4000000
namespace Go.SW.V
open Go.SW Go.Proofs
abbrev R13_:ChanR→PV:=fun r=> .agg (ChanR.pc r)
abbrev R14_:(ChanR×Int×Bool)→PV:=fun r=> .tup [.agg (ChanR.pc r.1), .int .i64 r.2.1, .bool r.2.2]
abbrev R15_:C_→PV:=fun r=> .agg (C_.pc r)
abbrev R16_:(C_×(List Reply))→PV:=fun r=> .tup [.agg (C_.pc r.1), .sl Reply.pc r.2]
abbrev R17_:(C_×(List Reply)×(List DeedR))→PV:=fun r=> .tup [.agg (C_.pc r.1), .sl Reply.pc r.2.1, .sl DeedR.pc r.2.2]
abbrev R19_:(Method×Int)→PV:=fun r=> .tup [.agg (Method.pc r.1), .int .i64 r.2]
abbrev ty73:TI:=⟨.arr,40,520,[.int .i64 0, .sl V_.pc [], .sl LentR.pc [], .bool false, .bool false, .int .u64 0, .sl DeedR.pc [], .bool false, .int .i64 0, .sl V_.pc [], .sl LentR.pc [], .bool false, .bool false, .int .u64 0, .sl DeedR.pc [], .bool false, .int .i64 0, .sl V_.pc [], .sl LentR.pc [], .bool false, .bool false, .int .u64 0, .sl DeedR.pc [], .bool false, .int .i64 0, .sl V_.pc [], .sl LentR.pc [], .bool false, .bool false, .int .u64 0, .sl DeedR.pc [], .bool false, .int .i64 0, .sl V_.pc [], .sl LentR.pc [], .bool false, .bool false, .int .u64 0, .sl DeedR.pc [], .bool false]⟩
abbrev ty82:TI:=⟨.slc 153,1,24,[.sl TakerS.pc []]⟩
abbrev ty86:TI:=⟨.slc 64,1,24,[.sl Method.pc []]⟩
abbrev ty230:TI:=⟨.slc 232,1,24,[.sl Gq_.pc []]⟩
abbrev ty232:TI:=⟨.agg [(0,9),(9,1),(10,1)],11,120,[.int .u64 0, .str [], .str [], .sl Pair.pc [], .str [], .int .u64 0, .int .u8 0, .bool false, .bool false, .int .i64 0, .int .i64 0]⟩
def tbv82:Tb:=[(3,ty3),(4,ty4),(5,ty5),(9,ty9),(25,ty25),(27,ty27),(28,ty28),(32,ty32),(53,ty53),(64,ty64),(70,ty70),(72,ty72),(73,ty73),(75,ty75),(77,ty77),(82,ty82),(86,ty86),(99,ty99),(137,Se_),(151,Yh_),(153,ty153),(154,ty154),(158,Nq_),(230,ty230),(232,ty232)]
theorem tv82:tbB Tryz.prog tbv82=true:=by kernel_rfl
theorem Fy_ (s:C_) (m:Method) (l:List Gq_) (e:Int) (hs:SOk s 10000000:=by first | assumption | exact Jb_ (by assumption) (by omega)) (hl:∀ r∈l,r.item.mail.head.length≤1000000:=by first | assumption | simp | exact O6_ (by simp) (by omega)):Fn Tryz.prog gb 114 [.agg (C_.pc s), .agg (Method.pc m), .sl Gq_.pc l, .int .i64 e] (.tup [.agg (C_.pc ((Bf_ s m l e).1)), .sl Reply.pc ((Bf_ s m l e).2)]):=by
  refine fC Tryz.func114 tv82 Tryz.ntmps114 fun w N H hG=>?_;have s_place_l:s.place.length≤9223372036854775807:=w.1.1;have s_feed_rest_l:s.feed.rest.length≤9223372036854775807:=w.1.2.1;have s_feed_err_r:-9223372036854775808≤s.feed.err∧s.feed.err≤9223372036854775807:=w.1.2.2.1;have m_channel_r:0≤m.channel∧m.channel≤255:=w.2.1.1;have m_kind_r:0≤m.kind∧m.kind≤255:=w.2.1.2.1;have m_name_l:m.name.length≤9223372036854775807:=w.2.1.2.2.1;have m_other_l:m.other.length≤9223372036854775807:=w.2.1.2.2.2.1;have m_key_l:m.key.length≤9223372036854775807:=w.2.1.2.2.2.2.1;have m_head_l:m.head.length≤140737488355328:=w.2.1.2.2.2.2.2.1.1;have m_body_l:m.body.length≤9223372036854775807:=w.2.1.2.2.2.2.2.2.1;have m_n_r:0≤m.n∧m.n≤18446744073709551615:=w.2.1.2.2.2.2.2.2.2.1;have m_m_r:0≤m.m∧m.m≤18446744073709551615:=w.2.1.2.2.2.2.2.2.2.2.1;have l_l:l.length≤140737488355328:=w.2.2.1.1;have e_r:-9223372036854775808≤e∧e≤9223372036854775807:=w.2.2.2.1;have e0:=Bf_.eq_1 s m l e;generalize Bf_ s m l e=z at e0 ⊢;refine gmy tv82 18 [0,1,2] fun B2=>?_;refine q1g [20,21] rfl (fun hc=>qaia (m.channel).toNat rfl rfl Tryz.underlying73 sz72 (by omega) (by first | omega | (simp only [gOf,Bool.and_eq_true,Bool.or_eq_true,Bool.not_eq_true',decide_eq_true_eq,decide_eq_false_iff_not,Bool.not_eq_false',Bool.and_true,Bool.true_and,cond_true,cond_false] at *;omega))) ⟨(fun hc=>hc),(fun hc=>hc),trivial⟩ rfl rfl rfl fun _=>?_;refine gy tv82 1 ?_;refine q1gL [23] rfl (fun hc=>lyS1 (len:=5) (fun q=> .bool ((A5.get s.slots q).isopen)) ((m.channel).toNat) 5 8 7 tv82 rfl rfl rfl rfl rfl rfl (by first | omega | (simp only [gOf,Bool.and_eq_true,Bool.or_eq_true,Bool.not_eq_true',decide_eq_true_eq,decide_eq_false_iff_not,Bool.not_eq_false',Bool.and_true,Bool.true_and,cond_true,cond_false] at *;omega)) (fun _=>rfl) (bw5 rfl rfl rfl rfl rfl)) ⟨(fun hc=>hc),trivial⟩ rfl rfl fun _=>?_;refine gy tv82 4 ?_;refine cE e0 (fun h5 e6=>?_) (fun h5 e12=>?_)
  · refine gm tv82 9 [] fun _=>?_;subst e6;exact rt2 rfl rfl (Cr_ (F_ (ple rfl) (F_ Bi_ A5_)))
  have h8:=orl h5;have p9:=df h8;have h10:=orr h5;have h11:=Cp_ h10;refine gx tv82 7 ?_;refine q1 (qaia (m.channel).toNat rfl rfl Tryz.underlying73 sz72 (by omega) (by omega)) rfl fun w13=>?_;refine ef (Pl_ (sz:=8) (len:=5) (fun q=>[.int .i64 ((A5.get s.slots q).chan.credit), .sl V_.pc ((A5.get s.slots q).chan.takers), .sl LentR.pc ((A5.get s.slots q).chan.lent), .bool ((A5.get s.slots q).chan.sure), .bool ((A5.get s.slots q).chan.drafts), .int .u64 ((A5.get s.slots q).chan.puts), .sl DeedR.pc ((A5.get s.slots q).chan.held.l), .bool ((A5.get s.slots q).isopen)]) ((m.channel).toNat) 5 8 0 tv82 rfl rfl rfl rfl rfl rfl rfl (by omega) (bw5 rfl rfl rfl rfl rfl) (bw5 rfl rfl rfl rfl rfl) rfl fun w14=>?_);refine gm tv82 5 [3] fun B16=>?_;obtain ⟨o,e_o,q_o⟩:=Un_ e12;refine F3_ (ι:=C_×SlotR) [3,4,5,8] [1,2] (fun ⟨x,x1⟩=>[]) (fun ⟨x,x1⟩=>[(0, .box (B2 0) 75 (C_.pc x)),(3, .box (B16 0) 72 (SlotR.pc x1))]) (fun ⟨x,x1⟩=>o = .fin (x,x1)) ?_ ?_
  · refine gx tv82 13 ?_;refine cD e_o (fun p18 e19=>?_) (fun p24 e25=>?_)
    · refine gx tv82 1 ?_;refine aN [2,4,5,6,7,8,9] 7 mixd ?_;refine gX tv82 [0,1,2,3] 3 ?_;refine vE 4 rfl (eC (F5_ (A5.get s.slots ((m.channel).toNat)) m _) rfl ?_);generalize hr21:Bg_ (A5.get s.slots ((m.channel).toNat)) m e=r;intro w20;have e22:=e19.trans (C0_ hr21.symm);refine vE 5 rfl (sA tv82 ?_);refine gX tv82 [6] 0 ?_;refine vD ?_;refine gx tv82 5 ?_;have e23:=P2_ q_o e22;subst e23;exact qr2
    refine gx tv82 6 ?_;refine cD e25 (fun p27 e28=>?_) (fun p73 e74=>?_)
    · refine gx tv82 8 ?_;refine cD e28 (fun p30 e31=>?_) (fun p36 e37=>?_)
      · refine gx tv82 1 ?_;refine F3_ (ι:=Value) [8] [0,1,3] (fun u32=>[(9, .osl 4)]) (fun u32=>[(2, .box (B2 2) 75 (C_.pc s)),(4, .arr u32 13 137 Reply.pc [(⟨m.channel,4,0,0,false,[],(⟨0,[],[],[],[],0,0⟩:Mail)⟩:Reply)])]) (fun u32=>True) ?_ ?_
        · refine aN [2,4,5,6,7,8,9,10,11] 7 mixd ?_;refine gX tv82 [0,1,2,3] 3 ?_;refine veL 4 [5] (by kernel_rfl) ⟨⟨_,rfl,?_⟩,⟨_,rfl,?_⟩,trivial⟩
          · refine ej rfl (bsl 4 Reply.pc [(⟨m.channel,4,0,0,false,[],(⟨0,[],[],[],[],0,0⟩:Mail)⟩:Reply)] tv82 rfl rfl rfl rfl rfl (fun _=>rfl) rfl (by decide) (by decide) rfl fun u33=>?_);refine vE 5 rfl (sA tv82 ?_);refine gX tv82 [6] 0 ?_;refine vD ?_;refine nX (u33) ?_ ⟨rfl,trivial⟩ ⟨rfl,rfl,trivial⟩;exact trivial
          refine ej rfl (sA tv82 ?_);refine vE 4 rfl (bsl 4 Reply.pc [(⟨m.channel,4,0,0,false,[],(⟨0,[],[],[],[],0,0⟩:Mail)⟩:Reply)] tv82 rfl rfl rfl rfl rfl (fun _=>rfl) rfl (by decide) (by decide) rfl fun u34=>?_);refine gX tv82 [6] 0 ?_;refine vD ?_;refine nX (u34) ?_ ⟨rfl,trivial⟩ ⟨rfl,rfl,trivial⟩;exact trivial
        rintro u32 _;refine gx tv82 1 ?_;refine givec 4 rfl ?_;refine gx tv82 5 ?_;have e35:=P2_ q_o e31;subst e35;exact qr2
      refine gy tv82 12 ?_;refine cE e37 (fun h38 e43=>?_) (fun h38 e72=>?_)
      · have h39:=bl h38;have p40:=dt h39;have h41:=br h38;have p42:=dt h41;refine gx tv82 1 ?_;refine F3_ (ι:=Nat×Nat) [8,9] [0,1,2,3] (fun ⟨b44,b45⟩=>[(11, .own 4 b44 0),(12, .own 5 b45 0)]) (fun ⟨b44,b45⟩=>[(4, .box b44 75 (C_.pc ((Q_ s (⟨m.channel,256,m.name⟩:TakerS) ((gt l 0).item)).1))),(5, .box b45 137 (Reply.pc ((Q_ s (⟨m.channel,256,m.name⟩:TakerS) ((gt l 0).item)).2)))]) (fun ⟨b44,b45⟩=>PV.wf (.tup [.agg (C_.pc ((Q_ s (⟨m.channel,256,m.name⟩:TakerS) ((gt l 0).item)).1)), .agg (Reply.pc ((Q_ s (⟨m.channel,256,m.name⟩:TakerS) ((gt l 0).item)).2))])) ?_ ?_
        · refine aN [4,5,6,7,8,9,10,11] 18 mixd ?_;refine gX tv82 [0,1,2,3,4,5,6] 11 ?_;have hc46:=getG (xs:=l) (k:=0) (by omega);have hz_hc46:=hl (gt l 0) (List.mem_of_getElem? hc46);refine vq 7 (qidx tv82 0 rfl rfl rfl hc46 rfl rfl rfl rfl) rfl (by kernel_rfl) rfl fun w47=>?_;refine gX tv82 [8,9] 8 ?_;refine veL 10 [14,15] (by kernel_rfl) ⟨⟨_,rfl,?_⟩,⟨_,rfl,?_⟩,⟨_,rfl,?_⟩,trivial⟩
          · refine ej rfl (eC (Bp_ s (⟨m.channel,256,m.name⟩:TakerS) ((gt l 0).item)) rfl fun w48=>?_);refine gX tv82 [11,12,13] 4 ?_;refine veL 14 [15] (by kernel_rfl) ⟨⟨_,rfl,?_⟩,⟨_,rfl,?_⟩,trivial⟩
            · refine ej rfl (aL tv82 4 fun b49=>?_);refine vE 15 rfl (aL tv82 5 fun b50=>?_);refine vE 16 rfl (sA tv82 ?_);refine vE 17 rfl (sA tv82 ?_);refine vD ?_;refine nX ⟨(b49),(b50)⟩ ?_ ⟨rfl,rfl,trivial⟩ ⟨rfl,rfl,trivial⟩;exact w48
            refine ej rfl (aL tv82 5 fun b51=>?_);refine vE 14 rfl (aL tv82 4 fun b52=>?_);refine vE 16 rfl (sA tv82 ?_);refine vE 17 rfl (sA tv82 ?_);refine vD ?_;refine nX ⟨(b52),(b51)⟩ ?_ ⟨rfl,rfl,trivial⟩ ⟨rfl,rfl,trivial⟩;exact w48
          · refine ej rfl (aL tv82 4 fun b53=>?_);refine veL 10 [15] (by kernel_rfl) ⟨⟨_,rfl,?_⟩,⟨_,rfl,?_⟩,trivial⟩
            · refine ej rfl (eC (Bp_ s (⟨m.channel,256,m.name⟩:TakerS) ((gt l 0).item)) rfl fun w54=>?_);refine gX tv82 [11,12,13] 3 ?_;refine vE 15 rfl (aL tv82 5 fun b55=>?_);refine vE 16 rfl (sA tv82 ?_);refine vE 17 rfl (sA tv82 ?_);refine vD ?_;refine nX ⟨(b53),(b55)⟩ ?_ ⟨rfl,rfl,trivial⟩ ⟨rfl,rfl,trivial⟩;exact w54
            refine ej rfl (aL tv82 5 fun b56=>?_);refine vE 10 rfl (eC (Bp_ s (⟨m.channel,256,m.name⟩:TakerS) ((gt l 0).item)) rfl fun w57=>?_);refine gX tv82 [11,12,13] 2 ?_;refine vE 16 rfl (sA tv82 ?_);refine vE 17 rfl (sA tv82 ?_);refine vD ?_;refine nX ⟨(b53),(b56)⟩ ?_ ⟨rfl,rfl,trivial⟩ ⟨rfl,rfl,trivial⟩;exact w57
          refine ej rfl (aL tv82 5 fun b58=>?_);refine veL 10 [14] (by kernel_rfl) ⟨⟨_,rfl,?_⟩,⟨_,rfl,?_⟩,trivial⟩
          · refine ej rfl (eC (Bp_ s (⟨m.channel,256,m.name⟩:TakerS) ((gt l 0).item)) rfl fun w59=>?_);refine gX tv82 [11,12,13] 3 ?_;refine vE 14 rfl (aL tv82 4 fun b60=>?_);refine vE 16 rfl (sA tv82 ?_);refine vE 17 rfl (sA tv82 ?_);refine vD ?_;refine nX ⟨(b60),(b58)⟩ ?_ ⟨rfl,rfl,trivial⟩ ⟨rfl,rfl,trivial⟩;exact w59
          refine ej rfl (aL tv82 4 fun b61=>?_);refine vE 10 rfl (eC (Bp_ s (⟨m.channel,256,m.name⟩:TakerS) ((gt l 0).item)) rfl fun w62=>?_);refine gX tv82 [11,12,13] 2 ?_;refine vE 16 rfl (sA tv82 ?_);refine vE 17 rfl (sA tv82 ?_);refine vD ?_;refine nX ⟨(b61),(b58)⟩ ?_ ⟨rfl,rfl,trivial⟩ ⟨rfl,rfl,trivial⟩;exact w62
        generalize hr63:Q_ s (⟨m.channel,256,m.name⟩:TakerS) ((gt l 0).item)=r1;rintro ⟨b44,b45⟩ w64;have e65:=e43.trans (C0_ hr63.symm);have hr63:=hr63.symm
        (try have hA65:=Qo_ (s:=s) (⟨m.channel,256,m.name⟩:TakerS) ((gt l 0).item) (by assumption) (by omega);(try rw [← hr63] at hA65))
        (try have hA66:=N3_ s (⟨m.channel,256,m.name⟩:TakerS) ((gt l 0).item) (by omega);(try rw [← hr63] at hA66))
        refine gx tv82 2 ?_;refine F3_ (ι:=Value) [8] [0,1,3,4,5] (fun u68=>[(9, .osl 6)]) (fun u68=>[(2, .box (B2 2) 75 (C_.pc (r1.1))),(6, .arr u68 13 137 Reply.pc [(r1.2)])]) (fun u68=>True) ?_ ?_
        · refine aN [2,6,7,8,9,10,11,12,13] 5 mixd ?_;refine gX tv82 [0,1] 3 ?_;refine veL 2 [3] (by kernel_rfl) ⟨⟨_,rfl,?_⟩,⟨_,rfl,?_⟩,trivial⟩
          · refine ej rfl (bsl 6 Reply.pc [(r1.2)] tv82 rfl rfl rfl rfl rfl (fun _=>rfl) rfl (by decide) (by decide) rfl fun u69=>?_);refine vE 3 rfl (sA tv82 ?_);refine gX tv82 [4] 0 ?_;refine vD ?_;refine nX (u69) ?_ ⟨rfl,trivial⟩ ⟨rfl,rfl,trivial⟩;exact trivial
          refine ej rfl (sA tv82 ?_);refine vE 2 rfl (bsl 6 Reply.pc [(r1.2)] tv82 rfl rfl rfl rfl rfl (fun _=>rfl) rfl (by decide) (by decide) rfl fun u70=>?_);refine gX tv82 [4] 0 ?_;refine vD ?_;refine nX (u70) ?_ ⟨rfl,trivial⟩ ⟨rfl,rfl,trivial⟩;exact trivial
        rintro u68 _;refine gx tv82 1 ?_;refine givec 6 rfl ?_;refine gx tv82 5 ?_;have e71:=P2_ q_o e65;subst e71;exact qr2
      refine gx tv82 3 ?_;refine nX ⟨s,(A5.get s.slots ((m.channel).toNat))⟩ ?_ trivial ⟨rfl,rfl,trivial⟩;exact e72
    refine gx tv82 1 ?_;obtain ⟨o1,e_o1,q_o1⟩:=Fk_ e74;refine F3_ (ι:=Bool) [3,4,5,8,9,10,34] [0,1,2,3] (fun v=>[(77, .bool v)]) (fun v=>[]) (fun v=>o1=v) ?_ ?_
    · refine gx tv82 6 ?_;refine cD e_o1 (fun p76 e77=>?_) (fun p78 e79=>?_)
      · refine gx tv82 1 ?_;refine nX (decide (m.kind=16)) ?_ ⟨rfl,trivial⟩ trivial;exact e77
      refine gx tv82 4 ?_;refine nX (decide (m.kind=19)) ?_ ⟨rfl,trivial⟩ trivial;exact e79
    rintro v hp80;have e81:=I6_ q_o1 hp80;refine gx tv82 1 ?_;refine cE e81 (fun h82 e83=>?_) (fun h82 e111=>?_)
    · refine gx tv82 5 ?_;refine ef (ecallo 4 (Fe_ _ _ _) rfl rfl ?_);generalize hr86:Bt_ ((A5.get s.slots ((m.channel).toNat)).chan) m 0=r2;intro u85 w84;have e87:=e83.trans (C0_ hr86.symm);have hr86:=hr86.symm;have hA87:=Nu_ ((A5.get s.slots ((m.channel).toNat)).chan) m 0
      (try rw [← hr86] at hA87)
      refine gx tv82 8 ?_;obtain ⟨o2,e_o2,q_o2⟩:=Fk_ e87;refine F3_ (ι:=SlotR) [3,4,5,8,9,10] [0,1,2] (fun x2=>[]) (fun x2=>[(3, .box (B16 0) 72 (SlotR.pc x2))]) (fun x2=>o2=x2) ?_ ?_
      · refine gx tv82 6 ?_;refine cD e_o2 (fun p90 e91=>?_) (fun p96 e97=>?_)
        · refine gx tv82 4 ?_;refine so_osl (t:=91) 4 rfl rfl ?_;refine so_osl (t:=85) 4 rfl rfl ?_;refine so_osl (t:=13) 4 rfl rfl ?_;refine give 4 rfl ?_;refine cV e91 R13_ (Ip_ _ _ (hn:=by first | omega | exact Ze_ (by assumption) (by omega) (by omega))) rfl fun r3 hr92 e94 w93=>?_;refine gm tv82 3 [] fun _=>?_;refine nX (⟨r3,(A5.get s.slots ((m.channel).toNat)).isopen⟩:SlotR) ?_ trivial ⟨rfl,trivial⟩;exact e94
        refine gx tv82 1 ?_;refine nX (A5.get s.slots ((m.channel).toNat)) ?_ trivial ⟨rfl,trivial⟩;exact e97
      rintro x2 hp98;have e99:=I6_ q_o2 hp98;refine gx tv82 9 ?_;refine cD e99 (fun p101 e102=>?_) (fun p108 e109=>?_)
      · refine gx tv82 3 ?_;refine cV e102 R7_ (Fa_ _) rfl fun r4 hr103 e105 w104=>?_;refine gm tv82 12 [] fun _=>?_;refine q1 (qaia (m.channel).toNat rfl rfl Tryz.underlying73 sz72 (by omega) (by omega)) rfl fun w107=>?_;refine ef (Gy_ (sz:=8) (len:=5) (fun q=>C_.pc (⟨s.place,s.feed,s.begun,s.over,(A5.set s.slots (⟨r4.1,x2.isopen⟩:SlotR) q)⟩:C_)) ((m.channel).toNat) 5 8 0 tv82 rfl rfl rfl rfl rfl rfl rfl rfl rfl (by omega) (bw5 rfl rfl rfl rfl rfl) rfl (bw5 rfl rfl rfl rfl rfl) rfl ?_);refine gx tv82 2 ?_;refine nX ⟨(⟨s.place,s.feed,s.begun,s.over,(A5.set s.slots (⟨r4.1,x2.isopen⟩:SlotR) ((m.channel).toNat))⟩:C_),(⟨r4.1,x2.isopen⟩:SlotR)⟩ ?_ trivial ⟨rfl,rfl,trivial⟩;exact e105
      refine gx tv82 7 ?_;refine q1 (qaia (m.channel).toNat rfl rfl Tryz.underlying73 sz72 (by omega) (by omega)) rfl fun w110=>?_;refine ef (Gy_ (sz:=8) (len:=5) (fun q=>C_.pc (⟨s.place,s.feed,s.begun,s.over,(A5.set s.slots x2 q)⟩:C_)) ((m.channel).toNat) 5 8 0 tv82 rfl rfl rfl rfl rfl rfl rfl rfl rfl (by omega) (bw5 rfl rfl rfl rfl rfl) rfl (bw5 rfl rfl rfl rfl rfl) rfl ?_);refine gx tv82 2 ?_;refine nX ⟨(⟨s.place,s.feed,s.begun,s.over,(A5.set s.slots x2 ((m.channel).toNat))⟩:C_),x2⟩ ?_ trivial ⟨rfl,rfl,trivial⟩;exact e109
    refine gx tv82 6 ?_;refine cD e111 (fun p113 e114=>?_) (fun p121 e122=>?_)
    · refine gx tv82 6 ?_;refine cD e114 (fun p116 e117=>?_) (fun p119 e120=>?_)
      · refine gx tv82 5 ?_;refine q1 (qaia (m.channel).toNat rfl rfl Tryz.underlying73 sz72 (by omega) (by omega)) rfl fun w118=>?_;refine ef (Gy_ (sz:=8) (len:=5) (fun q=>C_.pc (⟨s.place,s.feed,s.begun,s.over,(A5.set s.slots (⟨(⟨0,[],[],false,false,0,(⟨[]⟩:Aw_)⟩:ChanR),false⟩:SlotR) q)⟩:C_)) ((m.channel).toNat) 5 8 0 tv82 rfl rfl rfl rfl rfl rfl rfl rfl rfl (by omega) (bw5 rfl rfl rfl rfl rfl) rfl (bw5 rfl rfl rfl rfl rfl) rfl ?_);refine gx tv82 2 ?_;refine nX ⟨(⟨s.place,s.feed,s.begun,s.over,(A5.set s.slots (⟨(⟨0,[],[],false,false,0,(⟨[]⟩:Aw_)⟩:ChanR),false⟩:SlotR) ((m.channel).toNat))⟩:C_),(A5.get s.slots ((m.channel).toNat))⟩ ?_ trivial ⟨rfl,rfl,trivial⟩;exact e117
      refine gx tv82 2 ?_;refine nX ⟨s,(A5.get s.slots ((m.channel).toNat))⟩ ?_ trivial ⟨rfl,rfl,trivial⟩;exact e120
    refine gx tv82 2 ?_;refine nX ⟨s,(A5.get s.slots ((m.channel).toNat))⟩ ?_ trivial ⟨rfl,rfl,trivial⟩;exact e122
  rintro ⟨x,x1⟩ hp123;have e124:=lp2_fin q_o hp123;refine gx tv82 2 ?_;refine aN [2,4,5,6,7,8,9] 6 mixd ?_;refine gX tv82 [0,1,2] 3 ?_;refine vE 3 rfl (eC (Bb_ m _) rfl ?_);generalize hr126:R_ m e=r5;intro w125;have e127:=e124.trans (C0_ hr126.symm);refine vE 4 rfl (sA tv82 ?_);refine gX tv82 [5] 0 ?_;refine vD ?_;refine gx tv82 2 ?_;subst e127;exact qr2
theorem F9_ (s:C_) (m:Method) (tick:Int) (hs:SOk s 10000000:=by first | assumption | exact Jb_ (by assumption) (by omega)) (hm:m.channel≤4:=by omega) (hh:m.head.length≤1000000:=by omega):Fn Tryz.prog gb 71 [.agg (C_.pc s), .agg (Method.pc m), .int .u64 tick] (.tup [.agg (C_.pc ((A0_ s m tick).1)), .sl Reply.pc ((A0_ s m tick).2.1), .sl DeedR.pc ((A0_ s m tick).2.2)]):=by
  refine fC Tryz.func71 tv82 Tryz.ntmps71 fun w N H hG=>?_;have s_place_l:s.place.length≤9223372036854775807:=w.1.1;have s_feed_rest_l:s.feed.rest.length≤9223372036854775807:=w.1.2.1;have s_feed_err_r:-9223372036854775808≤s.feed.err∧s.feed.err≤9223372036854775807:=w.1.2.2.1;have m_channel_r:0≤m.channel∧m.channel≤255:=w.2.1.1;have m_kind_r:0≤m.kind∧m.kind≤255:=w.2.1.2.1;have m_name_l:m.name.length≤9223372036854775807:=w.2.1.2.2.1;have m_other_l:m.other.length≤9223372036854775807:=w.2.1.2.2.2.1;have m_key_l:m.key.length≤9223372036854775807:=w.2.1.2.2.2.2.1;have m_head_l:m.head.length≤140737488355328:=w.2.1.2.2.2.2.2.1.1;have m_body_l:m.body.length≤9223372036854775807:=w.2.1.2.2.2.2.2.2.1;have m_n_r:0≤m.n∧m.n≤18446744073709551615:=w.2.1.2.2.2.2.2.2.2.1;have m_m_r:0≤m.m∧m.m≤18446744073709551615:=w.2.1.2.2.2.2.2.2.2.2.1;have tick_r:0≤tick∧tick≤18446744073709551615:=w.2.2.1;have hch:COk (A5.get s.slots (m.channel).toNat).chan 10000000:=hs _ (by omega);obtain ⟨hc1,hc2,hc3,hc4⟩:=id hch;obtain ⟨hcd1,hcd2,hcd3⟩:=id hc4;have e0:=A0_.eq_1 s m tick;generalize A0_ s m tick=z at e0 ⊢;refine gm tv82 14 [0,1,2] fun B2=>?_;refine q1 (qaia (m.channel).toNat rfl rfl Tryz.underlying73 sz72 (by omega) (by omega)) rfl fun w5=>?_;refine gx tv82 1 ?_;refine ef (Pl_ (sz:=7) (len:=5) (fun q=>[.int .i64 ((A5.get s.slots q).chan.credit), .sl V_.pc ((A5.get s.slots q).chan.takers), .sl LentR.pc ((A5.get s.slots q).chan.lent), .bool ((A5.get s.slots q).chan.sure), .bool ((A5.get s.slots q).chan.drafts), .int .u64 ((A5.get s.slots q).chan.puts), .sl DeedR.pc ((A5.get s.slots q).chan.held.l)]) ((m.channel).toNat) 5 8 0 tv82 rfl rfl rfl rfl rfl rfl rfl (by omega) (bw5 rfl rfl rfl rfl rfl) (bw5 rfl rfl rfl rfl rfl) rfl fun w6=>?_);refine gm tv82 9 [3] fun B8=>?_;refine cV e0 R6_ (Jo_ _ _) rfl fun r hr9 e11 w10=>?_;refine gx tv82 12 ?_;refine cE e11 (fun h12 e13=>?_) (fun h12 e15=>?_)
  · refine gm tv82 11 [] fun _=>?_;subst e13;exact rt3 rfl rfl (Cr_ (F_ (ple rfl) (F_ Bi_ (F_ (ple rfl) A5_))))
  refine gx tv82 7 ?_;refine cV e15 R14_ (Lm_ _ _) rfl fun r1 hr16 e18 w17=>?_;refine gm tv82 15 [4] fun B20=>?_;refine cE e18 (fun h21 e22=>?_) (fun h21 e29=>?_)
  · refine gx tv82 1 ?_;refine aN [2,5,6,7,8,9,10] 10 mixd ?_;refine gX tv82 [0,1,2,4,5] 5 ?_;refine vE 3 rfl (eC (Ce_ s m r1.1) rfl ?_);generalize hr24:W_ s m r1.1=r2;intro w23;have e25:=e22.trans (C0_ hr24.symm);refine vE 6 rfl (eC (Bb_ m _) rfl ?_);generalize hr27:R_ m r1.2.1=r3;intro w26;have e28:=e25.trans (C0_ hr27.symm);refine vE 7 rfl (sA tv82 ?_);refine gX tv82 [8,9] 0 ?_;refine vD ?_;refine gx tv82 3 ?_;subst e28;exact rt3 rfl rfl (Cr_ (F_ (ple rfl) (F_ (ple rfl) (F_ Bi_ A5_))))
  refine gx tv82 3 ?_;obtain ⟨o,e_o,q_o⟩:=Og_ e29;refine F3_ (ι:=Unit) [2,3,4,6,9] [0,1,2,3,4] (fun _=>[]) (fun _=>[]) (fun _=>o = .fin ()) ?_ ?_
  · refine gx tv82 13 ?_;refine cD e_o (fun p31 e32=>?_) (fun p89 e90=>?_)
    · refine gx tv82 4 ?_;refine call (Et_ _) rfl rfl fun w33=>?_;refine gx tv82 2 ?_;refine cE e32 (fun h34 e35=>?_) (fun h34 e70=>?_)
      · refine gx tv82 1 ?_;refine F3_ (ι:=Nat) [3,4,6,7,8] [0,1,2,3,4] (fun b36=>[(15, .own 6 b36 0),(16, .int .i64 ((Aj_ ((A5.get s.slots ((m.channel).toNat)).chan) [(A1_ m 0 m.m)]).2))]) (fun b36=>[(6, .box b36 32 (ChanR.pc ((Aj_ ((A5.get s.slots ((m.channel).toNat)).chan) [(A1_ m 0 m.m)]).1)))]) (fun b36=>PV.wf (.agg (DeedR.pc (A1_ m 0 m.m)))∧PV.wf (.tup [.agg (ChanR.pc ((Aj_ ((A5.get s.slots ((m.channel).toNat)).chan) [(A1_ m 0 m.m)]).1)), .int .i64 ((Aj_ ((A5.get s.slots ((m.channel).toNat)).chan) [(A1_ m 0 m.m)]).2)])) ?_ ?_
        · refine aN [5,6,7,8,9,10,11,12] 13 mixd ?_;refine gX tv82 [0,1,2,3] 9 ?_;refine veL 4 [10] (by kernel_rfl) ⟨⟨_,rfl,?_⟩,⟨_,rfl,?_⟩,trivial⟩
          · refine ej rfl (eC (Fh_ m _ _) rfl fun w37=>?_);refine veL 5 [10] (by kernel_rfl) ⟨⟨_,rfl,?_⟩,⟨_,rfl,?_⟩,trivial⟩
            · refine ej rfl (bsl 5 DeedR.pc [(A1_ m 0 m.m)] tv82 rfl rfl rfl rfl rfl (fun _=>rfl) rfl (by decide) (by decide) rfl fun u38=>?_);refine veL 6 [10] (by kernel_rfl) ⟨⟨_,rfl,?_⟩,⟨_,rfl,?_⟩,trivial⟩
              · refine ej rfl (J8_ 5 rfl (Nt_ (eC (Cv_ ((A5.get s.slots ((m.channel).toNat)).chan) _ (hx:=by first | omega | exact N1_ (by assumption) (by omega) (by omega))) rfl fun w39=>?_)));refine gX tv82 [7,8,9] 3 ?_;refine vE 10 rfl (aL tv82 6 fun b40=>?_);refine vE 11 rfl (sA tv82 ?_);refine gX tv82 [12] 0 ?_;refine vD ?_;refine nX (b40) ?_ ⟨rfl,rfl,trivial⟩ ⟨rfl,trivial⟩;exact ⟨w37,w39⟩
              refine ej rfl (aL tv82 6 fun b41=>?_);refine vE 6 rfl (J8_ 5 rfl (Nt_ (eC (Cv_ ((A5.get s.slots ((m.channel).toNat)).chan) _ (hx:=by first | omega | exact N1_ (by assumption) (by omega) (by omega))) rfl fun w42=>?_)));refine gX tv82 [7,8,9] 2 ?_;refine vE 11 rfl (sA tv82 ?_);refine gX tv82 [12] 0 ?_;refine vD ?_;refine nX (b41) ?_ ⟨rfl,rfl,trivial⟩ ⟨rfl,trivial⟩;exact ⟨w37,w42⟩
            refine ej rfl (aL tv82 6 fun b43=>?_);refine vE 5 rfl (bsl 5 DeedR.pc [(A1_ m 0 m.m)] tv82 rfl rfl rfl rfl rfl (fun _=>rfl) rfl (by decide) (by decide) rfl fun u44=>?_);refine vE 6 rfl (J8_ 5 rfl (Nt_ (eC (Cv_ ((A5.get s.slots ((m.channel).toNat)).chan) _ (hx:=by first | omega | exact N1_ (by assumption) (by omega) (by omega))) rfl fun w45=>?_)));refine gX tv82 [7,8,9] 2 ?_;refine vE 11 rfl (sA tv82 ?_);refine gX tv82 [12] 0 ?_;refine vD ?_;refine nX (b43) ?_ ⟨rfl,rfl,trivial⟩ ⟨rfl,trivial⟩;exact ⟨w37,w45⟩
          refine ej rfl (aL tv82 6 fun b46=>?_);refine vE 4 rfl (eC (Fh_ m _ _) rfl fun w47=>?_);refine vE 5 rfl (bsl 5 DeedR.pc [(A1_ m 0 m.m)] tv82 rfl rfl rfl rfl rfl (fun _=>rfl) rfl (by decide) (by decide) rfl fun u48=>?_);refine vE 6 rfl (J8_ 5 rfl (Nt_ (eC (Cv_ ((A5.get s.slots ((m.channel).toNat)).chan) _ (hx:=by first | omega | exact N1_ (by assumption) (by omega) (by omega))) rfl fun w49=>?_)));refine gX tv82 [7,8,9] 2 ?_;refine vE 11 rfl (sA tv82 ?_);refine gX tv82 [12] 0 ?_;refine vD ?_;refine nX (b46) ?_ ⟨rfl,rfl,trivial⟩ ⟨rfl,trivial⟩;exact ⟨w47,w49⟩
        generalize hr50:A1_ m 0 m.m=r4;generalize hr51:Aj_ ((A5.get s.slots ((m.channel).toNat)).chan) [r4]=r5;rintro b36 ⟨w52,w53⟩;have e54:=e35.trans (C0_ hr50.symm);have e55:=e54.trans (C0_ hr51.symm);refine gx tv82 8 ?_;refine cD e55 (fun p57 e58=>?_) (fun p64 e65=>?_)
        · refine gx tv82 5 ?_;refine cV e58 R15_ (Ce_ _ _ _) rfl fun r6 hr59 e61 w60=>?_;refine gm tv82 11 [] fun _=>?_;have e63:=Fg_ q_o e61;subst e63;exact rt3 rfl rfl (Cr_ (F_ (ple rfl) (F_ Bi_ (F_ Bi_ A5_))))
        refine gx tv82 3 ?_;refine aN [2,5,7,8,9,10,11] 7 mixd ?_;refine gX tv82 [0,1,2] 4 ?_;refine vE 3 rfl (eC (Bb_ m _) rfl ?_);generalize hr67:R_ m r5.2=r7;intro w66;have e68:=e65.trans (C0_ hr67.symm);refine vE 4 rfl (sA tv82 ?_);refine gX tv82 [5,6] 0 ?_;refine vD ?_;refine gx tv82 6 ?_;have e69:=Fg_ q_o e68;subst e69;exact rt3 rfl rfl (Cr_ (F_ (ple rfl) (F_ (ple rfl) (F_ Bi_ A5_))))
      refine gx tv82 5 ?_;refine cV e70 R9_ (Is_ _) rfl fun r8 hr71 e73 w72=>?_;refine gm tv82 7 [] fun _=>?_;refine F3_ (ι:=Value) [6] [0,1,3,4] (fun u75=>[(7, .val (.slice none 0 0)),(8, .osl 5)]) (fun u75=>[(2, .box (B2 2) 75 (C_.pc (W_ s m r8.1))),(5, .arr u75 29 53 DeedR.pc [(A1_ m tick (Hf_ tick m.m))])]) (fun u75=>PV.wf (.agg (C_.pc (W_ s m r8.1)))∧PV.wf (.int .u64 (Hf_ tick m.m))∧PV.wf (.agg (DeedR.pc (A1_ m tick (Hf_ tick m.m))))) ?_ ?_
      · refine aN [2,5,6,7,8,9,10,11,12] 15 mixd ?_;refine gX tv82 [0,1,2,4,5,6,7,8] 7 ?_;refine vE 3 rfl (eC (Ce_ s m r8.1) rfl fun w76=>?_);refine vC 9 rfl (Hb_ _ _) rfl fun w77=>?_;refine vE 10 rfl (eC (Fh_ m _ _) rfl fun w78=>?_);refine veL 11 [12] (by kernel_rfl) ⟨⟨_,rfl,?_⟩,⟨_,rfl,?_⟩,trivial⟩
        · refine ej rfl (bsl 5 DeedR.pc [(A1_ m tick (Hf_ tick m.m))] tv82 rfl rfl rfl rfl rfl (fun _=>rfl) rfl (by decide) (by decide) rfl fun u79=>?_);refine vE 12 rfl (sA tv82 ?_);refine gX tv82 [13,14] 0 ?_;refine vD ?_;refine nX (u79) ?_ ⟨rfl,rfl,trivial⟩ ⟨rfl,rfl,trivial⟩;exact ⟨w76,w77,w78⟩
        refine ej rfl (sA tv82 ?_);refine gX tv82 [13] 2 ?_;refine vE 11 rfl (bsl 5 DeedR.pc [(A1_ m tick (Hf_ tick m.m))] tv82 rfl rfl rfl rfl rfl (fun _=>rfl) rfl (by decide) (by decide) rfl fun u80=>?_);refine gX tv82 [14] 0 ?_;refine vD ?_;refine nX (u80) ?_ ⟨rfl,rfl,trivial⟩ ⟨rfl,rfl,trivial⟩;exact ⟨w76,w77,w78⟩
      generalize hr81:W_ s m r8.1=r9;generalize hr82:A1_ m tick (Hf_ tick m.m)=r10;rintro u75 ⟨w83,w84,w85⟩;have e86:=e73.trans (C0_ hr81.symm);have e87:=e86.trans (C0_ hr82.symm);refine gx tv82 1 ?_;refine givec 5 rfl ?_;refine gx tv82 4 ?_;have e88:=Fg_ q_o e87;subst e88;exact rt3 rfl rfl (Cr_ (F_ (ple rfl) (F_ Bi_ (F_ (ple rfl) A5_))))
    refine gx tv82 6 ?_;refine cD e90 (fun p92 e93=>?_) (fun p110 e111=>?_)
    · refine gx tv82 4 ?_;refine cV e93 R0_ (D3_ _ (hc:=by first | omega | exact sok_cr (by assumption) (by omega))) rfl fun r11 hr94 e96 w95=>?_;refine gx tv82 3 ?_;refine cD e96 (fun p98 e99=>?_) (fun p104 e105=>?_)
      · refine gx tv82 1 ?_;refine aN [2,5,6,7,8,9,10] 6 mixd ?_;refine gX tv82 [0,1] 4 ?_;refine vE 2 rfl (eC (Bb_ m _) rfl ?_);generalize hr101:R_ m 12=r12;intro w100;have e102:=e99.trans (C0_ hr101.symm);refine vE 3 rfl (sA tv82 ?_);refine gX tv82 [4,5] 0 ?_;refine vD ?_;refine gx tv82 6 ?_;have e103:=Fg_ q_o e102;subst e103;exact rt3 rfl rfl (Cr_ (F_ (ple rfl) (F_ (ple rfl) (F_ Bi_ A5_))))
      refine gx tv82 3 ?_;refine F3_ (ι:=Value) [6] [0,1,3,4] (fun u106=>[(7, .val (.slice none 0 0)),(8, .osl 5)]) (fun u106=>[(2, .box (B2 2) 75 (C_.pc s)),(5, .arr u106 29 53 DeedR.pc [(⟨7,tick,(⟨[],0,[]⟩:ShopR),(⟨[],0,0,[]⟩:Al_),(⟨[],[],false,[],[],false⟩:BindR),m.name,0,0,0,0,0,(⟨0,[],[],[],[],0,0⟩:Mail),[]⟩:DeedR)])]) (fun u106=>True) ?_ ?_
      · refine aN [2,5,6,7,8,9,10,11,12] 9 mixd ?_;refine gX tv82 [0,1,2,3,4] 4 ?_;refine veL 5 [6] (by kernel_rfl) ⟨⟨_,rfl,?_⟩,⟨_,rfl,?_⟩,trivial⟩
        · refine ej rfl (bsl 5 DeedR.pc [(⟨7,tick,(⟨[],0,[]⟩:ShopR),(⟨[],0,0,[]⟩:Al_),(⟨[],[],false,[],[],false⟩:BindR),m.name,0,0,0,0,0,(⟨0,[],[],[],[],0,0⟩:Mail),[]⟩:DeedR)] tv82 rfl rfl rfl rfl rfl (fun _=>rfl) rfl (by decide) (by decide) rfl fun u107=>?_);refine vE 6 rfl (sA tv82 ?_);refine gX tv82 [7,8] 0 ?_;refine vD ?_;refine nX (u107) ?_ ⟨rfl,rfl,trivial⟩ ⟨rfl,rfl,trivial⟩;exact trivial
        refine ej rfl (sA tv82 ?_);refine gX tv82 [7] 2 ?_;refine vE 5 rfl (bsl 5 DeedR.pc [(⟨7,tick,(⟨[],0,[]⟩:ShopR),(⟨[],0,0,[]⟩:Al_),(⟨[],[],false,[],[],false⟩:BindR),m.name,0,0,0,0,0,(⟨0,[],[],[],[],0,0⟩:Mail),[]⟩:DeedR)] tv82 rfl rfl rfl rfl rfl (fun _=>rfl) rfl (by decide) (by decide) rfl fun u108=>?_);refine gX tv82 [8] 0 ?_;refine vD ?_;refine nX (u108) ?_ ⟨rfl,rfl,trivial⟩ ⟨rfl,rfl,trivial⟩;exact trivial
      rintro u106 _;refine gx tv82 1 ?_;refine givec 5 rfl ?_;refine gx tv82 4 ?_;have e109:=Fg_ q_o e105;subst e109;exact rt3 rfl rfl (Cr_ (F_ (ple rfl) (F_ Bi_ (F_ (ple rfl) A5_))))
    refine gx tv82 1 ?_;obtain ⟨o1,e_o1,q_o1⟩:=Fk_ e111;refine F3_ (ι:=Bool) [2,3,4,6,7,8,9] [0,1,2,3,4] (fun v=>[(109, .bool v)]) (fun v=>[]) (fun v=>o1=v) ?_ ?_
    · refine gx tv82 6 ?_;refine cD e_o1 (fun p113 e114=>?_) (fun p115 e116=>?_)
      · refine gx tv82 1 ?_;refine nX (decide (m.kind=16)) ?_ ⟨rfl,trivial⟩ trivial;exact e114
      refine gx tv82 4 ?_;refine nX (decide (m.kind=19)) ?_ ⟨rfl,trivial⟩ trivial;exact e116
    rintro v hp117;have e118:=I6_ q_o1 hp117;refine gx tv82 1 ?_;refine cE e118 (fun h119 e120=>?_) (fun h119 e172=>?_)
    · refine gx tv82 5 ?_;refine ef (ecallo 5 (Fe_ _ _ _) rfl rfl ?_);generalize hr123:Bt_ ((A5.get s.slots ((m.channel).toNat)).chan) m tick=r13;intro u122 w121;have e124:=e120.trans (C0_ hr123.symm);have hr123:=hr123.symm;have hA124:=Nu_ ((A5.get s.slots ((m.channel).toNat)).chan) m tick
      (try rw [← hr123] at hA124)
      refine gy tv82 19 ?_;refine callg rfl (fun hc=>(Et_ _)) rfl ⟨(fun hc=>hc),trivial⟩ rfl rfl fun _=>?_;refine gy tv82 3 ?_;refine cE e124 (fun h126 e133=>?_) (fun h126 e149=>?_)
      · have h127:=bl h126;have h128:=bl h127;have p129:=dt h128;have h130:=br h127;have p131:=dt h130;have h132:=br h126;refine gx tv82 1 ?_;refine sw_osl (t:=17) 5 rfl rfl ?_;refine aN [5,6,7,8,9,10,11] 9 mixd ?_;refine gX tv82 [0,1] 7 ?_;refine vE 2 rfl (ecallw (Ib_ _ _) rfl rfl rfl rfl rfl rfl ?_);generalize hr136:Df_ r13.1 0=r14;intro u134 w135;have e137:=e133.trans (C0_ hr136.symm);have hr136:=hr136.symm;have hA137:=Py_ r13.1 0
        (try rw [← hr136] at hA137)
        refine sv_osl (t:=133) 5 rfl rfl ?_;refine vE 3 rfl (J8_ 5 rfl (Nt_ (eC (Cv_ ((A5.get s.slots ((m.channel).toNat)).chan) _ (hx:=by first | omega | exact N1_ (by assumption) (by omega) (by omega))) rfl ?_)));generalize hr140:Aj_ ((A5.get s.slots ((m.channel).toNat)).chan) r14=r15;intro w139;have e141:=e137.trans (C0_ hr140.symm);refine gX tv82 [4,5,6] 2 ?_;refine vtp 7 rfl (by kernel_rfl) (by kernel_rfl) (sA tv82 ?_);refine gX tv82 [8] 0 ?_;refine vD ?_;refine gx tv82 2 ?_;refine aN [2,5,6,7,8,9,10] 10 mixd ?_;refine gX tv82 [0,1,2,4,5] 5 ?_;refine vE 3 rfl (eC (Ce_ s m r15.1) rfl ?_);generalize hr143:W_ s m r15.1=r16;intro w142;have e144:=e141.trans (C0_ hr143.symm);refine vE 6 rfl (eC (Bb_ m _) rfl ?_);generalize hr146:R_ m r15.2=r17;intro w145;have e147:=e144.trans (C0_ hr146.symm);refine vE 7 rfl (sA tv82 ?_);refine gX tv82 [8,9] 0 ?_;refine vD ?_;refine gx tv82 6 ?_;have e148:=Fg_ q_o e147;subst e148;exact rt3 rfl rfl (Cr_ (F_ (ple rfl) (F_ (ple rfl) (F_ Bi_ A5_))))
      refine gx tv82 8 ?_;refine bcase (!decide (r13.2=0)) (fun h150=>?_) (fun h150=>?_)
      · have h151:=Bo_ h150;have p152:=df h151;have e153:=e149.trans (condT h150);refine so_rt (t:=145) (p':= .bool true) (ple (congrArg PV.bool h150)) rfl ?_;refine so_rt (t:=146) (p':= .bool true) (ple (congrArg PV.bool h150)) rfl ?_;refine ungs rfl rfl rfl ?_;refine ungs rfl rfl rfl ?_;refine ungs rfl rfl rfl ?_;refine gx tv82 5 ?_;refine aN [2,6,7,8,9,10,11] 7 mixd ?_;refine gX tv82 [0,1,2] 4 ?_;refine vE 3 rfl (eC (Bb_ m _) rfl ?_);generalize hr155:R_ m r13.2=r18;intro w154;have e156:=e153.trans (C0_ hr155.symm);refine vE 4 rfl (sA tv82 ?_);refine gX tv82 [5,6] 0 ?_;refine vD ?_;refine gx tv82 6 ?_;have e157:=Fg_ q_o e156;subst e157;exact rt3 rfl rfl (Cr_ (F_ (ple rfl) (F_ (ple rfl) (F_ Bi_ A5_))))
      have h158:=Cp_ h150;have p159:=dt h158;have e160:=e149.trans (condF h150);refine so_rt (t:=145) (p':= .bool false) (ple (congrArg PV.bool h150)) rfl ?_;refine so_rt (t:=146) (p':= .bool false) (ple (congrArg PV.bool h150)) rfl ?_;refine ungd rfl rfl ?_;refine gx tv82 1 ?_;refine ungd rfl rfl ?_;refine so_osl (t:=147) 5 rfl rfl ?_;refine gx tv82 1 ?_;refine ungd rfl rfl ?_;refine gx tv82 4 ?_;refine cD e160 (fun p162 e163=>?_) (fun p168 e169=>?_)
      · refine gx tv82 1 ?_;refine aN [2,6,7,8,9,10,11] 7 mixd ?_;refine gX tv82 [0,1,2] 4 ?_;refine vE 3 rfl (eC (Bb_ m _) rfl ?_);generalize hr165:R_ m r13.2=r19;intro w164;have e166:=e163.trans (C0_ hr165.symm);refine vE 4 rfl (sA tv82 ?_);refine gX tv82 [5,6] 0 ?_;refine vD ?_;refine gx tv82 6 ?_;have e167:=Fg_ q_o e166;subst e167;exact rt3 rfl rfl (Cr_ (F_ (ple rfl) (F_ (ple rfl) (F_ Bi_ A5_))))
      refine gm tv82 11 [] fun _=>?_;refine sw_osl (t:=8) 5 rfl rfl ?_;refine sw_osl (t:=117) 5 rfl rfl ?_;refine sw_osl (t:=17) 5 rfl rfl ?_;refine sw_osl (t:=156) 5 rfl rfl ?_;refine givec 5 rfl ?_;refine gx tv82 4 ?_;have e171:=Fg_ q_o e169;subst e171;exact rt3 rfl rfl (Cr_ (F_ (ple rfl) (F_ Bi_ (F_ (ple rfl) A5_))))
    refine gx tv82 2 ?_;refine nX () ?_ trivial trivial;exact e172
  rintro _ hp173;have e174:=Wj_ q_o hp173;refine gx tv82 5 ?_;refine cV e174 R5_ (Kp_ _ _) rfl fun r20 hr175 e177 w176=>?_;have hA177:=Oc_ ((A5.get s.slots ((m.channel).toNat)).chan) tick
  (try rw [← hr175] at hA177)
  (try have hA178:=cok_ln (c:=((A5.get s.slots ((m.channel).toNat)).chan)) (n:=10000000) (by first | assumption | exact Ro_ (by assumption) (by omega) (by omega));(try rw [← hr175] at hA178))
  refine gx tv82 11 ?_;refine cD e177 (fun p181 e182=>?_) (fun p189 e190=>?_)
  · refine gx tv82 4 ?_;refine cV e182 R16_ (Fn.le (Fy_ _ _ [] _) (F_ (ple rfl) (F_ (ple rfl) (F_ Bi_ (F_ (ple rfl) A5_)))) (ple rfl) rfl) rfl fun r21 hr183 e185 w184=>?_
    (try have hA185:=S5_ (m:=m) (l:=[]) (e:=0) (show SOk s _ by assumption) (Nat.le_succ _) (fun _=>Nat.le_refl _) (by first | assumption | exact O6_ (by simp) (by omega) | simp) (by omega);(try rw [← hr183] at hA185);obtain ⟨hA185_0,hA185_1,hA185_2⟩:=hA185)
    refine gm tv82 19 [5] fun B188=>?_;subst e185;exact rt3 rfl rfl (Cr_ (F_ (ple rfl) (F_ (ple rfl) (F_ Bi_ A5_))))
  refine gm tv82 12 [] fun _=>?_;subst e190;exact rt3 rfl rfl (Cr_ (F_ (ple rfl) (F_ Bi_ (F_ (ple rfl) A5_))))
theorem D0_ (s:C_) (m:Method) (tick:Int) (hs:SOk s 10000000:=by first | assumption | exact Jb_ (by assumption) (by omega)) (hh:m.head.length≤1000000:=by first | omega | (simp;done)):Fn Tryz.prog gb 20 [.agg (C_.pc s), .agg (Method.pc m), .int .u64 tick] (.tup [.agg (C_.pc ((Af_ s m tick).1)), .sl Reply.pc ((Af_ s m tick).2.1), .sl DeedR.pc ((Af_ s m tick).2.2.1), .int .i64 ((Af_ s m tick).2.2.2)]):=by
  refine fC Tryz.func20 tv82 Tryz.ntmps20 fun w N H hG=>?_;have s_place_l:s.place.length≤9223372036854775807:=w.1.1;have s_feed_rest_l:s.feed.rest.length≤9223372036854775807:=w.1.2.1;have s_feed_err_r:-9223372036854775808≤s.feed.err∧s.feed.err≤9223372036854775807:=w.1.2.2.1;have m_channel_r:0≤m.channel∧m.channel≤255:=w.2.1.1;have m_kind_r:0≤m.kind∧m.kind≤255:=w.2.1.2.1;have m_name_l:m.name.length≤9223372036854775807:=w.2.1.2.2.1;have m_other_l:m.other.length≤9223372036854775807:=w.2.1.2.2.2.1;have m_key_l:m.key.length≤9223372036854775807:=w.2.1.2.2.2.2.1;have m_head_l:m.head.length≤140737488355328:=w.2.1.2.2.2.2.2.1.1;have m_body_l:m.body.length≤9223372036854775807:=w.2.1.2.2.2.2.2.2.1;have m_n_r:0≤m.n∧m.n≤18446744073709551615:=w.2.1.2.2.2.2.2.2.2.1;have m_m_r:0≤m.m∧m.m≤18446744073709551615:=w.2.1.2.2.2.2.2.2.2.2.1;have tick_r:0≤tick∧tick≤18446744073709551615:=w.2.2.1;have e0:=Af_.eq_1 s m tick;generalize Af_ s m tick=z at e0 ⊢;refine gm tv82 15 [0,1,2] fun B2=>?_;refine cV e0 R0_ (Gd_ _ _) rfl fun r hr5 e7 w6=>?_;have hA7:=T6_ s m
  (try rw [← hr5] at hA7)
  refine gx tv82 9 ?_;refine cN e7 (fun p11 e12=>?_) (fun p15 e16=>?_)
  · refine gm tv82 12 [] fun _=>?_;subst e12;exact rt4 rfl rfl (Cr_ (F_ (ple rfl) (F_ Bi_ (F_ Bi_ (F_ (ple rfl) A5_)))))
  refine gx tv82 16 ?_;refine cD e16 (fun p18 e19=>?_) (fun p24 e25=>?_)
  · refine gm tv82 7 [] fun _=>?_;refine F3_ (ι:=Value) [6] [0,1] (fun u21=>[(7, .osl 3),(8, .val (.slice none 0 0)),(9, .int .i64 0)]) (fun u21=>[(2, .box (B2 2) 75 (C_.pc (⟨s.place,s.feed,true,s.over,s.slots⟩:C_))),(3, .arr u21 13 137 Reply.pc [(⟨0,0,0,0,false,s.place,(⟨0,[],[],[],[],0,0⟩:Mail)⟩:Reply)])]) (fun u21=>True) ?_ ?_
    · refine aN [2,3,4,5,6,7,8,9,10] 9 mixd ?_;refine gX tv82 [0,1,2,3] 5 ?_;refine veL 4 [5] (by kernel_rfl) ⟨⟨_,rfl,?_⟩,⟨_,rfl,?_⟩,trivial⟩
      · refine ej rfl (bsl 3 Reply.pc [(⟨0,0,0,0,false,s.place,(⟨0,[],[],[],[],0,0⟩:Mail)⟩:Reply)] tv82 rfl rfl rfl rfl rfl (fun _=>rfl) rfl (by decide) (by decide) rfl fun u22=>?_);refine vE 5 rfl (sA tv82 ?_);refine gX tv82 [6,7,8] 0 ?_;refine vD ?_;refine nX (u22) ?_ ⟨rfl,rfl,rfl,trivial⟩ ⟨rfl,rfl,trivial⟩;exact trivial
      refine ej rfl (sA tv82 ?_);refine vE 4 rfl (bsl 3 Reply.pc [(⟨0,0,0,0,false,s.place,(⟨0,[],[],[],[],0,0⟩:Mail)⟩:Reply)] tv82 rfl rfl rfl rfl rfl (fun _=>rfl) rfl (by decide) (by decide) rfl fun u23=>?_);refine gX tv82 [6,7,8] 0 ?_;refine vD ?_;refine nX (u23) ?_ ⟨rfl,rfl,rfl,trivial⟩ ⟨rfl,rfl,trivial⟩;exact trivial
    rintro u21 _;refine gx tv82 1 ?_;refine givec 3 rfl ?_;refine gx tv82 3 ?_;subst e19;exact rt4 rfl rfl (Cr_ (F_ (ple rfl) (F_ (ple rfl) (F_ Bi_ (F_ (ple rfl) A5_)))))
  refine gx tv82 6 ?_;refine cD e25 (fun p27 e28=>?_) (fun p37 e38=>?_)
  · refine gx tv82 1 ?_;refine aN [3,4,5,6,7,8] 7 mixd ?_;refine gX tv82 [0,1,4] 4 ?_;refine vE 2 rfl (eC Jn_ rfl ?_);generalize hr30:Dm_=r1;intro w29;have e31:=e28.trans (C0_ hr30.symm);have hr30:=hr30.symm;have hA31:=Kk_ 0
    (try rw [← hr30] at hA31)
    refine gX tv82 [3] 2 ?_;refine vq 5 (qaia (m.channel).toNat rfl rfl Tryz.underlying73 sz72 (by omega) (by omega)) rfl (by kernel_rfl) rfl fun w33=>?_;refine vtp 6 rfl (by kernel_rfl) (by kernel_rfl) (Gy_ (sz:=8) (len:=5) (fun q=>C_.pc (⟨s.place,s.feed,s.begun,s.over,(A5.set s.slots (⟨r1,true⟩:SlotR) q)⟩:C_)) ((m.channel).toNat) 5 8 0 tv82 rfl rfl rfl rfl rfl rfl rfl rfl rfl (by omega) (bw5 rfl rfl rfl rfl rfl) rfl (bw5 rfl rfl rfl rfl rfl) rfl ?_);refine vD ?_;refine gx tv82 2 ?_;refine aN [2,3,4,5,6,7,8] 7 mixd ?_;refine gX tv82 [0,1] 5 ?_;refine vE 2 rfl (eC (Bb_ m _) rfl ?_);generalize hr35:R_ m 0=r2;intro w34;have e36:=e31.trans (C0_ hr35.symm);refine vE 3 rfl (sA tv82 ?_);refine gX tv82 [4,5,6] 0 ?_;refine vD ?_;refine gx tv82 4 ?_;subst e36;exact rt4 rfl rfl (Cr_ (F_ (ple rfl) (F_ (ple rfl) (F_ Bi_ (F_ (ple rfl) A5_)))))
  refine gx tv82 8 ?_;refine cV e38 R17_ (F9_ _ _ _) rfl fun r3 hr39 e41 w40=>?_;refine gm tv82 21 [] fun _=>?_;subst e41;exact qr4
theorem Bd_ (s:C_) (chunk:Bs) (hf:s.feed.rest.length+chunk.length≤4000000000:=by omega):Fn Tryz.prog gb 25 [.agg (C_.pc s), .str chunk] (.tup [.agg (C_.pc ((E_ s chunk).1)), .sl Method.pc ((E_ s chunk).2.1), .int .i64 ((E_ s chunk).2.2)]):=by
  refine fC Tryz.func25 tv82 Tryz.ntmps25 fun w N H hG=>?_;have e0:=E_.eq_1 s chunk;generalize E_ s chunk=z at e0 ⊢;refine gm tv82 15 [0,1] fun B2=>?_;refine cE e0 (fun h4 e5=>?_) (fun h4 e7=>?_)
  · refine gm tv82 10 [] fun _=>?_;subst e5;exact rt3 rfl rfl (Cr_ (F_ (ple rfl) (F_ Bi_ (F_ (ple rfl) A5_))))
  refine gx tv82 7 ?_;refine ef (ecallo 2 (Kx_ _ _) rfl rfl fun u9 w8=>?_);have hfd9:=My_ s.feed chunk
  (try simp only [List.length_nil,List.length_take,List.length_drop] at hfd9)
  refine gm tv82 24 [3] fun B12=>?_;refine so_osl (t:=26) 2 rfl rfl ?_;refine gx tv82 5 ?_;refine sw_own (t:=9) (k:=10) (e:=64) 4 Method.pc rfl rfl ?_;refine sw_osl (t:=23) 2 rfl rfl ?_;refine sw_osl (t:=8) 2 rfl rfl ?_;refine givec 2 rfl ?_;refine loop (ι:=Nat×(List Method)×Nat×Value) [2,4,7,26,27] [0,1,3] (fun ⟨f,out,v,u_out⟩=>[(9, .osl 4),(28, .int .i64 (v:Int))]) (fun ⟨f,out,v,u_out⟩=>[(4, .arr u_out 10 64 Method.pc out)]) (fun ⟨f,out,v,u_out⟩=>(((P_ s.feed chunk).2).length)-v<f∧z=Be_ s chunk f out v∧out.length≤v) (fun ⟨f,out,v,u_out⟩=>f) ⟨((((P_ s.feed chunk).2).length)-0+1),[],0,(.slice none 0 0)⟩ ⟨rfl,rfl,trivial⟩ ⟨rfl,trivial⟩ ?_ ?_
  · exact ⟨Nat.lt_succ_self _,e7,(by first | omega | (simp;done) | (simp;omega))⟩
  rintro ⟨f,out,v,u_out⟩ ⟨hp13_1,hp13_2,hp13_3⟩;obtain ⟨f1,rfl⟩:∃ q,f=q+1:=⟨f-1,by omega⟩;have e_f1:=hp13_2.trans (Be_.eq_2 _ _ _ _ _);refine gx tv82 6 ?_;refine cD e_f1 (fun p15 e16=>?_) (fun p37 e38=>?_)
  · have hc17:=getG (xs:=(P_ s.feed chunk).2) (k:=v) (by omega);refine gx tv82 6 ?_;refine q1 (qidx tv82 v rfl rfl rfl hc17 rfl rfl rfl rfl) rfl fun w18=>?_;refine gm tv82 8 [2] fun B20=>?_;refine cV e16 R19_ (Ow_ _) rfl fun r hr21 e23 w22=>?_;have hA23:=of_len (gt ((P_ s.feed chunk).2) v)
    (try rw [← hr21] at hA23)
    refine gm tv82 15 [5] fun B26=>?_;refine cN e23 (fun p29 e30=>?_) (fun p33 e34=>?_)
    · refine gm tv82 10 [] fun _=>?_;refine givec 4 rfl ?_;refine gx tv82 7 ?_;subst e30;exact qr3
    refine gx tv82 5 ?_;refine ef (bsl 6 Method.pc [r.1] tv82 rfl rfl rfl rfl rfl (fun _=>rfl) rfl (by decide) (by decide) rfl fun u35=>?_);refine ef (app tv82 [r.1] rfl rfl rfl rfl rfl rfl rfl rfl rfl (src_o rfl rfl) (by first | omega | (simp;omega)) rfl fun u36=>?_);refine gy tv82 8 ?_;refine next ⟨f1,(out++[r.1]),(v+1),(u36)⟩ rfl rfl ⟨rfl,rfl,trivial⟩ ⟨rfl,trivial⟩ ?_ ?_
    · (try simp only []);omega
    exact ⟨by (try simp only []);omega,e34,(by (try simp only [List.length_append,List.length_cons,List.length_nil]);omega)⟩
  refine gx tv82 6 ?_;refine aN [1,2,5,6,7,8,9] 7 mixd ?_;refine gX tv82 [0,1,2] 4 ?_;refine vC 3 rfl (Qh_ _) rfl fun w39=>?_;refine vE 4 rfl (sA tv82 ?_);refine gX tv82 [5,6] 0 ?_;refine vD ?_;refine gx tv82 1 ?_;refine givec 4 rfl ?_;refine gx tv82 1 ?_;subst e38;exact qr3
end Go.SW.V
set_option linter.unusedVariables false
set_option maxRecDepth 100000
set_option maxHeartbeats 4000000
namespace Go.SW.V
open Go.SW Go.Proofs
abbrev ty91:TI:=⟨.slc 101,1,24,[.sl Tu_.pc []]⟩
abbrev ty97:TI:=⟨.agg [(0,1),(1,1),(2,1),(3,1),(4,1),(5,5),(10,35)],45,528,[.str [], .str [], .int .i64 0, .bool false, .bool false, .bool false, .bool false, .bool false, .bool false, .bool false, .int .i64 0, .sl V_.pc [], .sl LentR.pc [], .bool false, .bool false, .int .u64 0, .sl DeedR.pc [], .int .i64 0, .sl V_.pc [], .sl LentR.pc [], .bool false, .bool false, .int .u64 0, .sl DeedR.pc [], .int .i64 0, .sl V_.pc [], .sl LentR.pc [], .bool false, .bool false, .int .u64 0, .sl DeedR.pc [], .int .i64 0, .sl V_.pc [], .sl LentR.pc [], .bool false, .bool false, .int .u64 0, .sl DeedR.pc [], .int .i64 0, .sl V_.pc [], .sl LentR.pc [], .bool false, .bool false, .int .u64 0, .sl DeedR.pc []]⟩
abbrev ty101:TI:=⟨.agg [(0,1),(1,10),(11,1),(12,1),(13,1),(14,9),(23,1)],24,272,[.int .u8 0, .int .u8 0, .int .u8 0, .str [], .str [], .str [], .sl Pair.pc [], .str [], .int .u64 0, .int .u64 0, .bool false, .str [], .int .u64 0, .int .u8 0, .int .u64 0, .str [], .str [], .sl Pair.pc [], .str [], .int .u64 0, .int .u8 0, .bool false, .bool false, .int .u8 0]⟩
abbrev ty105:TI:=⟨.slc 170,1,24,[.sl TakerS.pc []]⟩
abbrev ty170:TI:=⟨.agg [(0,1),(1,1),(2,1)],3,32,[.int .u8 0, .int .u64 0, .str []]⟩
abbrev ty171:TI:=⟨.agg [(0,7),(7,1),(8,1)],9,104,[.int .u64 0, .str [], .str [], .sl Pair.pc [], .str [], .int .u64 0, .int .u8 0, .bool false, .bool false]⟩
def tbv83:Tb:=[(3,ty3),(4,ty4),(5,ty5),(9,ty9),(27,ty27),(40,ty40),(47,ty47),(51,ty51),(56,ty56),(57,ty57),(59,ty59),(64,ty64),(67,ty67),(91,ty91),(97,ty97),(99,ty99),(101,ty101),(105,ty105),(126,ty126),(167,ty167),(170,ty170),(171,ty171),(173,ty173),(180,ty180),(181,ty181),(182,ty182),(184,Wp_),(258,ty258),(269,ty269)]
theorem tv83:tbB Tryz.prog tbv83=true:=by kernel_rfl
theorem Nw_:Fn Tryz.prog gb 62 [] (.bool (Kh_)):=by
  refine fC Tryz.func62 tv83 Tryz.ntmps62 fun w N H hG=>?_;have e0:=Kh_.eq_1;refine gx tv83 7 ?_;refine call Tv_ rfl rfl fun w1=>?_;refine gx tv83 4 ?_;exact rt1 rfl rfl (B1_ (fun r:Bool=> .bool r) e0 (ple rfl))
end Go.SW.V
set_option linter.unusedVariables false
set_option maxRecDepth 100000
set_option maxHeartbeats 4000000
namespace Go.SW.V
open Go.SW Go.Proofs
abbrev ty266:TI:=⟨.slc 269,1,24,[.sl Frame.pc []]⟩
end Go.SW.V
set_option linter.unusedVariables false
set_option maxRecDepth 100000
set_option maxHeartbeats 4000000
namespace Go.SW.V
open Go.SW Go.Proofs
abbrev R24_:(C_×(List Reply)×(List DeedR)×Int)→PV:=fun r=> .tup [.agg (C_.pc r.1), .sl Reply.pc r.2.1, .sl DeedR.pc r.2.2.1, .int .i64 r.2.2.2]
abbrev ty221:TI:=⟨.slc 67,1,24,[.sl Method.pc []]⟩
def tbv85:Tb:=[(3,ty3),(4,ty4),(5,ty5),(9,ty9),(27,ty27),(28,ty28),(64,ty64),(67,ty67),(75,ty75),(77,ty77),(82,ty82),(97,ty97),(99,ty99),(101,ty101),(105,ty105),(137,Se_),(153,ty153),(170,ty170),(221,ty221),(230,ty230),(232,ty232),(266,ty266),(269,ty269)]
theorem tv85:tbB Tryz.prog tbv85=true:=by kernel_rfl
theorem Oo_:Fn Tryz.prog gb 15 [] (.bool (H3_)):=by
  refine fC Tryz.func15 tv85 Tryz.ntmps15 fun w N H hG=>?_;have e0:=H3_.eq_1;refine gx tv85 7 ?_;refine cV e0 R15_ (Ei_ _) rfl fun r hr1 e3 w2=>?_;have hA3:=Pg_ [108,111,119] 0
  (try rw [← hr1] at hA3)
  have hA4:=H7_ [108,111,119]
  (try rw [← hr1] at hA4)
  refine gx tv85 1 ?_;refine cV e3 R24_ (D0_ _ (⟨0,0,[],[],[],[],[],1,0,false⟩:Method) _) rfl fun r1 hr6 e8 w7=>?_
  (try have hA8:=Ti_ (m:=(⟨0,0,[],[],[],[],[],1,0,false⟩:Method)) (t:=0) (show SOk r _ by assumption) (by first | omega | simp);(try rw [← hr6] at hA8);obtain ⟨hA8_0,⟨hA8_1,hA8_2⟩,hA8_3,hA8_4⟩:=hA8)
  refine gm tv85 16 [0] fun B11=>?_;refine cV e8 R24_ (D0_ _ (⟨0,0,[],[],[],[],[],1,0,false⟩:Method) _) rfl fun r2 hr12 e14 w13=>?_
  (try have hA14:=Ti_ (m:=(⟨0,0,[],[],[],[],[],1,0,false⟩:Method)) (t:=0) (show SOk r1.1 _ by assumption) (by first | omega | simp);(try rw [← hr12] at hA14);obtain ⟨hA14_0,⟨hA14_1,hA14_2⟩,hA14_3,hA14_4⟩:=hA14)
  refine gm tv85 14 [1] fun B17=>?_;refine call Ji_ rfl rfl fun w18=>?_;refine gx tv85 1 ?_;refine callg rfl (fun hc=>Nw_) rfl trivial rfl rfl fun _=>?_;refine gy tv85 2 ?_;refine callg rfl (fun hc=>Ov_) rfl trivial rfl rfl fun _=>?_;refine gy tv85 2 ?_;refine callg rfl (fun hc=>Vt_) rfl trivial rfl rfl fun _=>?_;refine gy tv85 12 ?_;refine q1g [45] rfl (fun hc=>qidx tv85 0 rfl rfl rfl (getG (by first | omega | (simp only [gOf,Bool.and_eq_true,Bool.or_eq_true,Bool.not_eq_true',decide_eq_true_eq,decide_eq_false_iff_not,Bool.not_eq_false',Bool.and_true,Bool.true_and,cond_true,cond_false] at *;omega))) rfl rfl rfl rfl) ⟨(fun hc=>hc),trivial⟩ rfl rfl rfl fun _=>?_;refine gy tv85 12 ?_;exact rt1 rfl rfl (B1_ (fun r:Bool=> .bool r) e14 (ple rfl))
end Go.SW.V
set_option linter.unusedVariables false
set_option maxRecDepth 100000
set_option maxHeartbeats 4000000
namespace Go.SW.V
open Go.SW Go.Proofs
abbrev R25_:(C_×(List Method)×Int)→PV:=fun r=> .tup [.agg (C_.pc r.1), .sl Method.pc r.2.1, .int .i64 r.2.2]
end Go.SW.V
set_option linter.unusedVariables false
set_option maxRecDepth 100000
set_option maxHeartbeats 4000000
namespace Go.SW.V
open Go.SW Go.Proofs
end Go.SW.V
set_option linter.unusedVariables false
set_option maxRecDepth 100000
set_option maxHeartbeats 4000000
namespace Go.SW.V
open Go.SW Go.Proofs
abbrev ty85:TI:=⟨.int .u16,1,2,[.int .u16 0]⟩
def tbv88:Tb:=[(3,ty3),(4,ty4),(5,ty5),(9,ty9),(27,ty27),(28,ty28),(64,ty64),(75,ty75),(77,ty77),(82,ty82),(85,ty85),(86,ty86),(91,ty91),(97,ty97),(101,ty101)]
theorem tv88:tbB Tryz.prog tbv88=true:=by kernel_rfl
theorem l28_SessionPieces_ok (text:Bs) (at_:Int):Fn Tryz.prog gb 5 [.str text, .int .u16 at_] (.bool (C7_ text at_)):=by
  refine fC Tryz.func5 tv88 Tryz.ntmps5 fun w N H hG=>?_;have text_l:text.length≤9223372036854775807:=w.1;have at__r:0≤at_∧at_≤65535:=w.2.1;have htk:(text.take ((at_%((text.length:Int)+1))).toNat).length≤text.length:=List.length_take_le' ..;have htd:(text.drop ((at_%((text.length:Int)+1))).toNat).length≤text.length:=by rw [List.length_drop];omega
  have hnw:=H7_ [108,111,119];have e0:=C7_.eq_1 text at_;generalize C7_ text at_=z at e0 ⊢;refine gx tv88 8 ?_;refine call Oo_ rfl rfl fun w1=>?_;refine gx tv88 3 ?_;refine cE e0 (fun h2 e4=>?_) (fun h2 e6=>?_)
  · have h3:=Bo_ h2;refine gx tv88 7 ?_;subst e4;exact qr1
  have h5:=Cp_ h2;refine gx tv88 10 ?_;refine cD e6 (fun p8 e9=>?_) (fun p10 e11=>?_)
  · refine gx tv88 7 ?_;subst e9;exact qr1
  refine gy tv88 15 ?_;refine cV e11 R15_ (Ei_ _) rfl fun r hr12 e14 w13=>?_;have hA14:=Pg_ [108,111,119] 0
  (try rw [← hr12] at hA14)
  have hA15:=H7_ [108,111,119]
  (try rw [← hr12] at hA15)
  refine gx tv88 1 ?_;refine cV e14 R25_ (Bd_ _ _) rfl fun r1 hr17 e19 w18=>?_;have hA19:=Ni_ r text
  (try rw [← hr17] at hA19)
  have hA20:=M8_ r text
  (try rw [← hr17] at hA20)
  (try have hA21:=J9_ (s:=r) (n:=5000000) text (by assumption);(try rw [← hr17] at hA21))
  refine gm tv88 11 [0] fun B24=>?_;refine F3_ (ι:=Nat) [0,4,5,7,8] [0] (fun b25=>[(9, .own 1 b25 0),(10, .sl Method.pc ((E_ (At_ [108,111,119]) (text.take ((at_%((text.length:Int)+1))).toNat)).2.1)),(11, .int .i64 ((E_ (At_ [108,111,119]) (text.take ((at_%((text.length:Int)+1))).toNat)).2.2))]) (fun b25=>[(1, .box b25 75 (C_.pc ((E_ (At_ [108,111,119]) (text.take ((at_%((text.length:Int)+1))).toNat)).1)))]) (fun b25=>PV.wf (.agg (C_.pc (At_ [108,111,119])))∧PV.wf (.tup [.agg (C_.pc ((E_ (At_ [108,111,119]) (text.take ((at_%((text.length:Int)+1))).toNat)).1)), .sl Method.pc ((E_ (At_ [108,111,119]) (text.take ((at_%((text.length:Int)+1))).toNat)).2.1), .int .i64 ((E_ (At_ [108,111,119]) (text.take ((at_%((text.length:Int)+1))).toNat)).2.2)])) ?_ ?_
  · refine aN [1,2,3,4,5,6,7,8] 13 mixd ?_;refine gX tv88 [1,2] 11 ?_;refine vq 3 (sshi tv88 ((at_%((text.length:Int)+1))).toNat rfl rfl rfl rfl (by first | omega | (have hm1:=Int.emod_nonneg at_ (show ((text.length:Int)+1)≠0 by omega);have hm2:=Int.emod_lt_of_pos at_ (show (0:Int)<(text.length:Int)+1 by omega);first | omega | (simp only [List.length_append,List.length_nil] at *;omega))) (by first | omega | (have hm1:=Int.emod_nonneg at_ (show ((text.length:Int)+1)≠0 by omega);have hm2:=Int.emod_lt_of_pos at_ (show (0:Int)<(text.length:Int)+1 by omega);first | omega | (simp only [List.length_append,List.length_nil] at *;omega)))) rfl (by kernel_rfl) rfl fun w26=>?_
    refine veL 0 [9] (by kernel_rfl) ⟨⟨_,rfl,?_⟩,⟨_,rfl,?_⟩,trivial⟩
    · refine ej rfl (eC (Ei_ _) rfl fun w27=>?_);refine veL 4 [9] (by kernel_rfl) ⟨⟨_,rfl,?_⟩,⟨_,rfl,?_⟩,trivial⟩
      · refine ej rfl (eC (Bd_ (At_ [108,111,119]) _) rfl fun w28=>?_);refine gX tv88 [5,6,7,8] 4 ?_;refine vE 9 rfl (aL tv88 1 fun b29=>?_);refine vE 10 rfl (sA tv88 ?_);refine gX tv88 [11,12] 0 ?_;refine vD ?_;refine nX (b29) ?_ ⟨rfl,rfl,rfl,trivial⟩ ⟨rfl,trivial⟩;exact ⟨w27,w28⟩
      refine ej rfl (aL tv88 1 fun b30=>?_);refine vE 4 rfl (eC (Bd_ (At_ [108,111,119]) _) rfl fun w31=>?_);refine gX tv88 [5,6,7,8] 3 ?_;refine vE 10 rfl (sA tv88 ?_);refine gX tv88 [11,12] 0 ?_;refine vD ?_;refine nX (b30) ?_ ⟨rfl,rfl,rfl,trivial⟩ ⟨rfl,trivial⟩;exact ⟨w27,w31⟩
    refine ej rfl (aL tv88 1 fun b32=>?_);refine vE 0 rfl (eC (Ei_ _) rfl fun w33=>?_);refine vE 4 rfl (eC (Bd_ (At_ [108,111,119]) _) rfl fun w34=>?_);refine gX tv88 [5,6,7,8] 3 ?_;refine vE 10 rfl (sA tv88 ?_);refine gX tv88 [11,12] 0 ?_;refine vD ?_;refine nX (b32) ?_ ⟨rfl,rfl,rfl,trivial⟩ ⟨rfl,trivial⟩;exact ⟨w33,w34⟩
  generalize hr35:At_ [108,111,119]=r2;generalize hr36:E_ r2 (text.take ((at_%((text.length:Int)+1))).toNat)=r3;rintro b25 ⟨w37,w38⟩;have e39:=e19.trans (C0_ hr35.symm);have hr35:=hr35.symm;have hA39:=Pg_ [108,111,119] 0
  (try rw [← hr35] at hA39)
  have hA40:=H7_ [108,111,119]
  (try rw [← hr35] at hA40)
  have e42:=e39.trans (C0_ hr36.symm);have hr36:=hr36.symm;have hA42:=Ni_ r2 (text.take ((at_%((text.length:Int)+1))).toNat)
  (try rw [← hr36] at hA42)
  have hA43:=M8_ r2 (text.take ((at_%((text.length:Int)+1))).toNat)
  (try rw [← hr36] at hA43)
  (try have hA44:=J9_ (s:=r2) (n:=5000000) (text.take ((at_%((text.length:Int)+1))).toNat) (by assumption);(try rw [← hr36] at hA44))
  refine gx tv88 8 ?_;refine cN e42 (fun p48 e49=>?_) (fun p51 e52=>?_)
  · refine gy tv88 16 ?_;subst e49;exact qr1
  refine gx tv88 3 ?_;refine F3_ (ι:=Nat) [4,7,8,10] [0,1] (fun b53=>[(13, .sl Method.pc ((E_ (r3.1) (text.drop ((at_%((text.length:Int)+1))).toNat)).2.1)),(14, .int .i64 ((E_ (r3.1) (text.drop ((at_%((text.length:Int)+1))).toNat)).2.2))]) (fun b53=>[(2, .box b53 75 (C_.pc ((E_ (r3.1) (text.drop ((at_%((text.length:Int)+1))).toNat)).1)))]) (fun b53=>PV.wf (.tup [.agg (C_.pc ((E_ (r3.1) (text.drop ((at_%((text.length:Int)+1))).toNat)).1)), .sl Method.pc ((E_ (r3.1) (text.drop ((at_%((text.length:Int)+1))).toNat)).2.1), .int .i64 ((E_ (r3.1) (text.drop ((at_%((text.length:Int)+1))).toNat)).2.2)])) ?_ ?_
  · refine aN [2,3,4,5,6,7,8,9] 13 mixd ?_;refine gX tv88 [0,1,2] 10 ?_;refine vq 3 (sslo tv88 ((at_%((text.length:Int)+1))).toNat rfl rfl rfl rfl (by first | omega | (have hm1:=Int.emod_nonneg at_ (show ((text.length:Int)+1)≠0 by omega);have hm2:=Int.emod_lt_of_pos at_ (show (0:Int)<(text.length:Int)+1 by omega);first | omega | (simp only [List.length_append,List.length_nil] at *;omega))) (by first | omega | (have hm1:=Int.emod_nonneg at_ (show ((text.length:Int)+1)≠0 by omega);have hm2:=Int.emod_lt_of_pos at_ (show (0:Int)<(text.length:Int)+1 by omega);first | omega | (simp only [List.length_append,List.length_nil] at *;omega)))) rfl (by kernel_rfl) rfl fun w54=>?_
    refine veL 4 [9] (by kernel_rfl) ⟨⟨_,rfl,?_⟩,⟨_,rfl,?_⟩,trivial⟩
    · refine ej rfl (eC (Bd_ (r3.1) _) rfl fun w55=>?_);refine gX tv88 [5,6,7,8] 4 ?_;refine vE 9 rfl (aL tv88 2 fun b56=>?_);refine vE 10 rfl (sA tv88 ?_);refine gX tv88 [11,12] 0 ?_;refine vD ?_;refine nX (b56) ?_ ⟨rfl,rfl,trivial⟩ ⟨rfl,trivial⟩;exact w55
    refine ej rfl (aL tv88 2 fun b57=>?_);refine vE 4 rfl (eC (Bd_ (r3.1) _) rfl fun w58=>?_);refine gX tv88 [5,6,7,8] 3 ?_;refine vE 10 rfl (sA tv88 ?_);refine gX tv88 [11,12] 0 ?_;refine vD ?_;refine nX (b57) ?_ ⟨rfl,rfl,trivial⟩ ⟨rfl,trivial⟩;exact w58
  generalize hr59:E_ (r3.1) (text.drop ((at_%((text.length:Int)+1))).toNat)=r4;rintro b53 w60;have e61:=e52.trans (C0_ hr59.symm);have hr59:=hr59.symm;have hA61:=Ni_ (r3.1) (text.drop ((at_%((text.length:Int)+1))).toNat)
  (try rw [← hr59] at hA61)
  have hA62:=M8_ (r3.1) (text.drop ((at_%((text.length:Int)+1))).toNat)
  (try rw [← hr59] at hA62)
  (try have hA63:=J9_ (s:=(r3.1)) (n:=5000000) (text.drop ((at_%((text.length:Int)+1))).toNat) (by assumption);(try rw [← hr59] at hA63))
  refine gy tv88 19 ?_;refine cE e61 (fun h65 e66=>?_) (fun h65 e73=>?_)
  · refine gx tv88 7 ?_;subst e66;exact qr1
  have h67:=orl h65;have h68:=Cp_ h67;have p69:=dt h68;have h70:=orr h65;have h71:=Cp_ h70;have p72:=dt h71;refine gx tv88 5 ?_;refine ef (bsl 3 Method.pc [] tv88 rfl rfl rfl rfl rfl (fun _=>rfl) rfl (by decide) (by decide) rfl fun u74=>?_);refine gx tv88 1 ?_;refine ef (app tv88 r3.2.1 rfl rfl rfl rfl rfl rfl rfl rfl rfl (src_l rfl (fun _=>rfl)) (by first | omega | (simp;omega)) rfl fun u75=>?_);refine gx tv88 1 ?_;refine ef (app tv88 r4.2.1 rfl rfl rfl rfl rfl rfl rfl rfl rfl (src_l rfl (fun _=>rfl)) (by first | omega | (simp;omega)) rfl fun u76=>?_);refine gx tv88 5 ?_;refine givec 3 rfl ?_;refine loop (ι:=Nat×Nat) [7,81,82] [0,1,2] (fun ⟨f,v⟩=>[(83, .int .i64 (v:Int))]) (fun ⟨f,v⟩=>[]) (fun ⟨f,v⟩=>((([]++r3.2.1)++r4.2.1).length)-v<f∧z=Bu_ r1 r3 r4 f v∧True) (fun ⟨f,v⟩=>f) ⟨(((([]++r3.2.1)++r4.2.1).length)-0+1),0⟩ ⟨rfl,trivial⟩ trivial ?_ ?_
  · exact ⟨Nat.lt_succ_self _,e73,trivial⟩
  rintro ⟨f,v⟩ ⟨hp77_1,hp77_2,hp77_3⟩;have hall:(([]++r3.2.1)++r4.2.1).length=r3.2.1.length+r4.2.1.length:=by simp
  obtain ⟨f1,rfl⟩:∃ q,f=q+1:=⟨f-1,by omega⟩;have e_f1:=hp77_2.trans (Bu_.eq_2 _ _ _ _ _);refine gx tv88 6 ?_;refine cD e_f1 (fun p79 e80=>?_) (fun p93 e94=>?_)
  · have hc81:=getG (xs:=(([]++r3.2.1)++r4.2.1)) (k:=v) (by first | omega | (have hm1:=Int.emod_nonneg at_ (show ((text.length:Int)+1)≠0 by omega);have hm2:=Int.emod_lt_of_pos at_ (show (0:Int)<(text.length:Int)+1 by omega);first | omega | (simp only [List.length_append,List.length_nil] at *;omega)))
    refine gx tv88 7 ?_;refine q1 (qidx tv88 v rfl rfl rfl hc81 rfl rfl rfl rfl) rfl fun w82=>?_;refine gm tv88 7 [3] fun B84=>?_;refine aN [4,5,6,7,8,9] 7 mixd ?_;refine gX tv88 [0,1,2] 4 ?_;have hc85:=getG (xs:=r1.2.1) (k:=v) (by first | omega | (have hm1:=Int.emod_nonneg at_ (show ((text.length:Int)+1)≠0 by omega);have hm2:=Int.emod_lt_of_pos at_ (show (0:Int)<(text.length:Int)+1 by omega);first | omega | (simp only [List.length_append,List.length_nil] at *;omega)))
    refine vq 3 (qidx tv88 v rfl rfl rfl hc85 rfl rfl rfl rfl) rfl (by kernel_rfl) rfl fun w86=>?_;refine gX tv88 [4] 2 ?_;refine vC 5 rfl (Ln_ _ _) rfl fun w87=>?_;refine gX tv88 [6] 0 ?_;refine vD ?_;refine gx tv88 1 ?_;refine cE e80 (fun h88 e90=>?_) (fun h88 e92=>?_)
    · have h89:=Bo_ h88;refine gx tv88 11 ?_;subst e90;exact qr1
    have h91:=Cp_ h88;refine gy tv88 7 ?_;refine next ⟨f1,(v+1)⟩ rfl rfl ⟨rfl,trivial⟩ trivial ?_ ?_
    · (try simp only []);omega
    exact ⟨by (try simp only []);omega,e92,trivial⟩
  refine gx tv88 11 ?_;subst e94;exact qr1
end Go.SW.V
namespace Go.SW
open Go.ChangeShapes Go.WideShapes Go.ChangeAt Go.RowKit
variable {P:Program}
theorem Mo_ {Ht:Type} {enc:TypeId×Value→Ht} {w:World} {base:Nat} {sp:Nat→Bool} {held:Bool} {fuel:Nat} {t e:TypeId} {n:Nat} {cs:List Value} {zs:List Bs} {p:List MemPlace}
    (ht:P.underlying t=some (.array n e)) (he:P.underlying e=some .string) (hce:P.cellsOf e=1) (hct:P.cellsOf t=n)
    (h:DataW.trod enc P w base sp held fuel t cs=some (.agg (zs.map fun z=> .lit (.string z)),p)):cs=zs.map str:=by
  cases fuel with
  | zero=>simp [DataW.trod] at h
  | succ fuel=>
    simp only [DataW.trod,ht,hce,hct,Nat.mul_one] at h
    split at h
    · rename_i hl
      obtain ⟨xs,hm,hx⟩:=Option.map_eq_some_iff.1 h
      have hxs:xs.map (·.1)=zs.map fun z=>(DataW.lit (.string z):DataW Ht):=by
        have :=congrArg Prod.fst hx
        simpa using this
      have hxl:xs.length=n:=by simpa using Lib.mapM_length hm
      have hzl:zs.length=n:=by
        have :=congrArg List.length hxs
        simp at this
        omega
      apply List.ext_getElem?
      intro i
      by_cases hi:i<n
      · obtain ⟨b,hb,hf⟩:=Lib.mapM_at hm i i (by simp [hi])
        obtain ⟨z,hc,rfl,_⟩:=DataW.trod_string he hf
        have h1:cs[i]? = some (.string z):=by
          have :=congrArg (·[0]?) hc
          simpa [List.getElem?_take,List.getElem?_drop] using this
        have h2:(xs.map (·.1))[i]? = some (DataW.lit (.string z.data.toList):DataW Ht):=by simp [hb]
        rw [hxs] at h2
        simp only [List.getElem?_map,Option.map_eq_some_iff,DataW.lit.injEq,Lit.string.injEq] at h2
        obtain ⟨z',hz',rfl⟩:=h2
        rw [h1,List.getElem?_map,hz',U5_]
        rfl
      · rw [List.getElem?_eq_none (by omega),List.getElem?_eq_none (by simp;omega)]
    · cases h
theorem X2_ {w:World} {g n:Nat} {name:String} {zs:List Bs} {rest:List (String×DataW Unit)} {t e:TypeId} (hg:P.globalNamed name=some g) (hty:(P.globals[g]?).map (·.type)=some t) (ht:P.underlying t=some (.array n e)) (he:P.underlying e=some .string) (hce:P.cellsOf e=1) (hct:P.cellsOf t=n)
    (h:laidMet P ((name, .agg (zs.map fun z=> .lit (.string z)))::rest) w):GStrs (hp w) g zs:=by
  obtain ⟨ps,⟨g',t',cs,fuel,p,q,hg',ht',hvar,hd,_,_⟩,_⟩:=h
  obtain rfl :=Option.some.inj (hg.symm.trans hg')
  obtain rfl :=Option.some.inj (hty.symm.trans ht')
  have hc:=Mo_ ht he hce hct hd
  obtain rfl :cs=(zs.map str).toArray:=by rw [← hc]
  unfold World.var? at hvar
  rw [hg] at hvar
  simp only [Option.bind_some] at hvar
  split at hvar
  · rename_i cs T fr hh
    cases hvar
    exact ⟨T,fr,hh⟩
  · cases hvar
end Go.SW
set_option maxRecDepth 100000
namespace Go.SW.V
open Go.SW
theorem awake28:H3_=true:=by decide +kernel
end Go.SW.V
set_option maxRecDepth 100000
namespace Go.SW.V
open Go.SW
theorem Im_ {p q:Bs} {i:Nat} (h:i<p.length):(p++q).getD i 0=p.getD i 0:=by
  simp [List.getD_eq_getElem?_getD,List.getElem?_append_left h]
theorem O2_ {p:Bs} (q:Bs) (h:(A7_ p).2.2≠3):A7_ (p++q)=A7_ p:=by
  rw [← Kq_] at h
  rw [← Kq_,← Kq_]
  unfold K9_ at h ⊢
  have hl:(p++q).length=p.length+q.length:=List.length_append
  by_cases h4:p.length<4
  · exfalso;apply h
    rw [show decide ((p.length:Int)<4)=true by simp;omega,cond_true]
  rw [show decide ((p.length:Int)<4)=false by simp;omega,cond_false] at h ⊢
  rw [show decide (((p++q).length:Int)<4)=false by simp;omega,cond_false,Im_ (i:=2) (by omega),Im_ (i:=3) (by omega),Im_ (i:=0) (by omega),Im_ (i:=1) (by omega)]
  obtain ⟨n,hn⟩:∃ n,n=(p.getD 2 0).toNat*256+(p.getD 3 0).toNat:=⟨_,rfl⟩
  have hni:((p.getD 2 0).toNat:Int)*256+((p.getD 3 0).toNat:Int)=(n:Int):=by omega
  simp only [← hn,hni] at h ⊢
  by_cases h5:2048<(n:Int)
  · rw [show decide (2048<(n:Int))=true by simpa using h5,cond_true,cond_true]
  rw [show decide (2048<(n:Int))=false by simpa using h5,cond_false] at h
  rw [show decide (2048<(n:Int))=false by simpa using h5,cond_false,cond_false]
  by_cases h9:p.length<n+9
  · exfalso;apply h
    rw [show decide ((p.length:Int)<(n:Int)+9)=true by simp;omega,cond_true]
  rw [show decide ((p.length:Int)<(n:Int)+9)=false by simp;omega,cond_false]
  rw [show decide (((p++q).length:Int)<(n:Int)+9)=false by simp;omega,cond_false]
  have e1:(p++q).take (n+4)=p.take (n+4):=List.take_append_of_le_length (by omega)
  have e2:∀ k,k+(n+4)≤p.length→((p++q).drop (n+4)).take k=(p.drop (n+4)).take k:=by
    intro k hk
    rw [List.drop_append_of_le_length (by omega),List.take_append_of_le_length (by rw [List.length_drop];omega)]
  have e3:((p++q).drop 4).take (n+4-4)=(p.drop 4).take (n+4-4):=by
    rw [List.drop_append_of_le_length (by omega),List.take_append_of_le_length (by rw [List.length_drop];omega)]
  rw [Im_ (i:=n+8) (by omega),e1,e2 (n+8-(n+4)) (by omega),e3]
theorem Id_:∀ (k j:Nat) (r:Bs) (out:List Frame),r.length<k→r.length<j→Bn_ k r out=Bn_ j r out
  | 0,_,r,out,h,_=>by omega
  | k+1,0,r,out,_,h=>by omega
  | k+1,j+1,r,out,h,h2=>by
    simp only [Bn_]
    by_cases h0:(A7_ r).2.2=0
    · have :=Io_ r h0
      rw [if_pos h0,if_pos h0]
      exact Id_ k j _ _ (by rw [List.length_drop];omega) (by rw [List.length_drop];omega)
    · rw [if_neg h0,if_neg h0]
theorem Qz_ (q:Bs):∀ (k:Nat) (r:Bs) (out:List Frame),r.length<k→((Bn_ k r out).1.err≠0→Bn_ (k+q.length) (r++q) out=Bn_ k r out)∧((Bn_ k r out).1.err=0→Bn_ (k+q.length) (r++q) out=Bn_ (k+q.length) ((Bn_ k r out).1.rest++q) (Bn_ k r out).2∧(Bn_ k r out).1.rest.length≤r.length)
  | 0,r,out,h=>by omega
  | k+1,r,out,h=>by
    have e:k+1+q.length=k+q.length+1:=by omega
    simp only [Bn_]
    by_cases h0:(A7_ r).2.2=0
    · have hp:=Io_ r h0
      have hd:(r.drop (A7_ r).2.1.toNat).length<k:=by rw [List.length_drop];omega
      obtain ⟨i1,i2⟩:=Qz_ q k (r.drop (A7_ r).2.1.toNat) (out++[(A7_ r).1]) hd
      have hpa:=O2_ q (p:=r) (by omega)
      have hdd:(r++q).drop (A7_ r).2.1.toNat=r.drop (A7_ r).2.1.toNat++q:=List.drop_append_of_le_length (by omega)
      rw [if_pos h0,e]
      constructor
      · intro he
        rw [Bn_,hpa,if_pos h0,hdd]
        exact i1 he
      · intro he
        obtain ⟨j1,j2⟩:=i2 he
        refine ⟨?_,by rw [List.length_drop] at j2;omega⟩
        rw [Bn_,hpa,if_pos h0,hdd,j1]
        refine Id_ _ _ _ _ ?_ ?_
        · rw [List.length_append];omega
        · rw [List.length_append];omega
    · rw [if_neg h0]
      by_cases h3:(A7_ r).2.2=3
      · rw [if_pos h3]
        exact ⟨fun he=>absurd rfl he,fun _=>⟨rfl,Nat.le_refl _⟩⟩
      · rw [if_neg h3]
        refine ⟨fun _=>?_,fun he=>absurd he h0⟩
        rw [e,Bn_,O2_ q h3,if_neg h0,if_neg h3]
theorem Jx_:∀ (k:Nat) (r:Bs) (out:List Frame),Bn_ k r out=((Bn_ k r []).1,out++(Bn_ k r []).2)
  | 0,r,out=>by simp [Bn_]
  | k+1,r,out=>by
    simp only [Bn_]
    split
    · rw [Jx_ k _ (out++[_]),Jx_ k _ ([]++[_])];simp
    · split <;> simp
theorem mg_e (e:Int):∀ (l:List Frame) (out:List Method),mg e l out = if (mg 0 l out).2=0 then ((mg 0 l out).1,e) else mg 0 l out
  | [],out=>by simp [mg]
  | f::l,out=>by
    simp only [mg]
    split
    · exact mg_e e l _
    · rename_i h;simp [h]
theorem Ud_ (e:Int):∀ (l1 l2:List Frame) (out:List Method),mg e (l1++l2) out = if (mg 0 l1 out).2=0 then mg e l2 (mg 0 l1 out).1 else mg 0 l1 out
  | [],l2,out=>by simp [mg]
  | f::l1,l2,out=>by
    simp only [List.cons_append,mg]
    split
    · exact Ud_ e l1 l2 _
    · rename_i h;simp [h]
theorem Wg_ (e:Int):∀ (l:List Frame) (out:List Method),mg e l out=(out++(mg e l []).1,(mg e l []).2)
  | [],out=>by simp [mg]
  | f::l,out=>by
    simp only [mg]
    split
    · rw [Wg_ e l (out++[_]),Wg_ e l ([]++[_])];simp
    · simp
theorem msame (m:Method):E0_ m m=true:=by simp [E0_]
theorem Vv_ (r1 r3 r4:C_×List Method×Int) (h:r1.2.1=r3.2.1++r4.2.1):∀ (f v:Nat),(r3.2.1++r4.2.1).length<f+v→v≤(r3.2.1++r4.2.1).length→Bu_ r1 r3 r4 f v=true
  | 0,v,hf,hv=>by omega
  | f+1,v,hf,hv=>by
    simp only [Bu_,List.nil_append,h,msame,Bool.not_true,cond_false]
    refine Dj_ (P:=fun b=>b=true) (fun hc=>?_) fun _=>rfl
    have hc:(v:Int)<((r3.2.1++r4.2.1).length:Int):=by simpa using hc
    exact Vv_ r1 r3 r4 h f (v+1) (by omega) (by omega)
theorem l28_pieces (text:Bs) (at_:Int) (hw:0≤at_∧at_≤65535):C7_ text at_=true:=by
  simp only [C7_,awake28,Bool.not_true,cond_false,lt]
  refine Dj_ (P:=fun b=>b=true) (fun _=>rfl) fun _=>?_
  generalize hN:At_ [108,111,119]=N
  have hNf:N.feed=⟨[],0⟩:=by rw [← hN];rfl
  have hNo:N.over=false:=by rw [← hN];rfl
  obtain ⟨k,hk⟩:∃ k,k=(at_%((text.length:Int)+1)).toNat:=⟨_,rfl⟩
  have hkl:k≤text.length:=by
    have :=Int.emod_lt_of_pos at_ (show (0:Int)<(text.length:Int)+1 by omega)
    omega
  rw [← hk]
  have e1:text.take k++text.drop k=text:=List.take_append_drop k text
  have l1:(text.take k).length=k:=by rw [List.length_take];omega
  have l2:(text.drop k).length=text.length-k:=List.length_drop
  generalize text.take k=p at *
  generalize text.drop k=q at *
  subst e1
  have hF:P_ N.feed (p++q)=Bn_ (p.length+1+q.length) (p++q) []:=by
    rw [hNf];unfold P_
    rw [if_neg (by simp),List.nil_append]
    exact Id_ _ _ _ _ (by omega) (by rw [List.length_append];omega)
  have hF1:P_ N.feed p=Bn_ (p.length+1) p []:=by
    rw [hNf];unfold P_
    rw [if_neg (by simp),List.nil_append]
  obtain ⟨a1,a2⟩:=Qz_ q (p.length+1) p [] (by omega)
  rw [G1_,G1_,G1_]
  simp only [hNo,cond_false,hF,hF1]
  generalize Bn_ (p.length+1) p []=F1 at *
  generalize hG:mg 0 F1.2 []=G at *
  have m1:=mg_e F1.1.err F1.2 []
  rw [hG] at m1
  by_cases hg:G.2=0
  · rw [if_pos hg] at m1
    by_cases he:F1.1.err=0
    · obtain ⟨b1,b2⟩:=a2 he
      have hT:P_ F1.1 q=Bn_ ((F1.1.rest++q).length+1) (F1.1.rest++q) []:=by
        unfold P_
        rw [if_neg (by simp [he])]
      rw [b1,Jx_,Id_ (p.length+1+q.length) ((F1.1.rest++q).length+1) _ _ (by rw [List.length_append];omega) (by omega),← hT]
      have m2:=Ud_ (P_ F1.1 q).1.err F1.2 (P_ F1.1 q).2 []
      rw [hG,if_pos hg,Wg_ _ _ G.1] at m2
      simp only [m1,m2]
      simp only [he,decide_true,Bool.not_true,cond_false]
      simp only [List.length_append,Int.natCast_add,decide_true,Bool.not_true,Bool.or_self,cond_false]
      refine Vv_ _ _ _ ?_ _ 0 ?_ (Nat.zero_le _)
      · rfl
      · simp only [List.length_append,List.length_nil];omega
    · rw [a1 he]
      simp only [m1]
      simp only [he,decide_false,decide_true,Bool.not_false,Bool.and_self,cond_true]
  · rw [if_neg hg] at m1
    have m2:∀ (F:Feed×List Frame),(∃ z,F.2=F1.2++z)→mg F.1.err F.2 []=G:=by
      rintro F ⟨z,hz⟩
      rw [hz,Ud_,hG,if_neg hg]
    have m3:mg (Bn_ (p.length+1+q.length) (p++q) []).1.err (Bn_ (p.length+1+q.length) (p++q) []).2 []=G:=by
      by_cases he:F1.1.err=0
      · apply m2
        rw [(a2 he).1,Jx_]
        exact ⟨_,rfl⟩
      · apply m2
        rw [a1 he]
        exact ⟨[],by simp⟩
    simp only [m1,m3,hg,decide_false,decide_true,Bool.not_false,Bool.and_self,cond_true]
end Go.SW.V
