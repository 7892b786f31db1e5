/-
  A part of the proof of StoreHops: What a deed keeps: policy, place, numbers seen, bytes. Plain laws; each asks what it lists.
-/
import Derived.Test.YtkngbefdgkfjmaaGreatDoorStoreHopsP6
import Derived.Test.YtkngbefdgkfjmaaGreatDoorStoreHopsP4
import Derived.Test.YtkngbefdgkfjmaaGreatDoorStoreHopsP3
set_option linter.unusedVariables false
set_option linter.unusedSimpArgs false
set_option maxRecDepth 100000
set_option maxHeartbeats 4000000
namespace Go.SW.V
open Go.SW
structure Hk (s0 s:B_):Prop where
  po:s.policy=s0.policy
  pl:s.place=s0.place
  se:s.x.seen=s0.x.seen
  k:KOk s0.x.stock.bytes s.x.stock
variable {s0 s:B_}
theorem Hk.stock (h:Hk s0 s) {k:D_} (hk:KOk s0.x.stock.bytes k):Hk s0 ⟨⟨s.x.book,k,s.x.notes,s.x.seen,s.x.spent⟩,s.policy,s.place⟩:=⟨h.po,h.pl,h.se,hk⟩
theorem Hk.note (h:Hk s0 s) (t k:Int) (x:Bs):Hk s0 (A2_ s t k x):=⟨h.po,h.pl,h.se,h.k⟩
theorem Hk.spend (h:Hk s0 s) (to' t:Int):Hk s0 (Bu_ s to' t).1:=by
  unfold Bu_ lt
  let Q:B_×Int->Prop:=fun r=>Hk s0 r.1
  refine bt (P:=Q) (fun _=>h) fun _=>?_
  exact lt1E (P:=Q) (fun _=>True) trivial fun x _=>bt (P:=Q) (fun _=>h) fun _=>⟨h.po,h.pl,h.se,h.k⟩
section
variable {m:Mail} {tick:Int} {r:List Bs×List Bs×Int}
theorem send1_h {gone:List OutR} (hs:Hk s0 s):∀ (t:List Bs) (n:Int) (x:B_),Hk s0 x->Hk s0 (Aj_ s m tick r gone t n x).1
  |[],n,x,hx=>hx
  |q::t,n,x,hx=>by
    unfold Aj_ lt
    let Q:B_×List OutR×Int×Int->Prop:=fun r=>Hk s0 r.1
    refine lp1E (P:=Q) (Hk s0) ?_ fun y hy=>?_
    · refine bt (P:=LoP _ _) (fun _=>?_) fun _=>hx
      exact bt (P:=LoP _ _) (fun _=>hs) fun _=>hx.spend _ _
    · exact bt (P:=Q) (fun _=>hs) fun _=>send1_h hs t _ _ (hy.stock (kraise_k hy.k))
theorem Ry_ (hs:Hk s0 s) (h0:0<=m.hops):∀ (t:List Bs) (gone:List OutR) (n:Int) (x:B_),StOk x->Hk s0 x->Hk s0 (O_ s m tick r t gone n x).1
  |[],gone,n,x,_,hx=>by
    unfold O_
    exact send1_h hs _ _ _ hx
  |q::t,gone,n,x,ho,hx=>by
    unfold O_ lt
    let Q:B_×List OutR×Int×Int->Prop:=fun r=>Hk s0 r.1
    refine bt (P:=Q) (fun _=>Ry_ hs h0 t _ _ x ho hx) fun _=>?_
    generalize Iw_ m.due tick (Ad_ x.x.stock q).1.life=due
    have hp:=(Rf_ (s:=x.x.stock) (n:=q) (m:=⟨0,m.shop,m.key,m.head,m.body,due,m.hops⟩) ho.stk h0).1
    have hk:=kput_k (n:=q) (m:=⟨0,m.shop,m.key,m.head,m.body,due,m.hops⟩) ho.stk hx.k
    refine bt (P:=Q) (fun _=>hs) fun _=>?_
    exact bt (P:=Q) (fun _=>Ry_ hs h0 t _ _ _ (Ay_ ho hp) (hx.stock hk)) fun _=>Ry_ hs h0 t _ _ _ (Ay_ ho hp) (hx.stock hk)
theorem send_h (ho:StOk s) (hs:Hk s0 s) (h0:0<=m.hops):Hk s0 (J_ s m tick).1:=by
  unfold J_ lt
  let Q:B_×List OutR×Int×Int->Prop:=fun r=>Hk s0 r.1
  exact bt (P:=Q) (fun _=>hs) fun _=>Ry_ hs h0 _ _ _ _ ho hs
end
theorem Qh_ (tick:Int):∀ (f:Nat) (gone:List OutR) (lost:Int) (x:B_),Nn_ gone lost x->wtk x.x.stock+wto gone<f->Hk s0 x->Hk s0 (A9_ tick f gone lost x).1
  |0,_,_,_,_,h,_=>by omega
  |f+1,gone,lost,x,hI,hf,hx=>by
    unfold A9_ lt
    let Q:B_×Int->Prop:=fun r=>Hk s0 r.1
    refine bt (P:=Q) (fun e=>?_) fun _=>hx
    have hn:0<gone.length:=by simpa using e
    refine bt (P:=Q) (fun _=>Qh_ tick f _ _ _ (Nq_ hI hn) (Pn_ hn hf) hx) fun _=>?_
    have hm:MlOk (gt gone 0).mail:=hI.2.1 _ (Je_ hn)
    refine bt (P:=Q) (fun _=>?_) fun e4=>?_
    · have h:=Ha_ (s:=x) (t:=tick) (k:=1) (x:=(gt gone 0).queue) hI.1
      exact Qh_ tick f _ _ _ (Nr_ hI h.1 h.2 hn) (Sk_ h.2 hn hf) (hx.note _ _ _)
    · simp only[Bool.or_eq_false_iff,decide_eq_false_iff_not,Bool.not_eq_false',decide_eq_true_eq] at e4
      have hs:=I9_ (s:=x) (m:=⟨(G_ (gt gone 0).mail).id,(Ad_ x.x.stock (gt gone 0).queue).1.dead,(G_ (gt gone 0).mail).key,(G_ (gt gone 0).mail).head,(G_ (gt gone 0).mail).body,0,IntKind.wrap .u8 ((G_ (gt gone 0).mail).hops+1)⟩) (tick:=tick) hI.1 (Jb_ _)
      exact Qh_ tick f _ _ _ (Ns_ hI hs.1 hs.2.1 hn rfl hm e4.1 hs.2.2 rfl e4.2) (Po_ hn hf rfl hm e4.1 hs.2.2 rfl e4.2) (send_h hI.1 hx (Jb_ _))
theorem V3_ {gone:List OutR} {tick:Int} (h:StOk s) (hg:gone.length<=600/\∀ g∈gone,MlOk g.mail) (hs:Hk s0 s):Hk s0 (At_ s gone tick).1:=
  Qh_ tick _ gone 0 s (Yv_ h hg) (Nat.lt_succ_self _) hs
section
variable {d:DeedR}
theorem settle_h (h:StOk s) (hs:Hk s0 s):Hk s0 (Bf_ s d).1:=by
  unfold Bf_ lt
  let Q:B_×Q_×Int->Prop:=fun r=>Hk s0 r.1
  refine bt (P:=Q) (fun _=>hs) fun _=>?_
  refine bt (P:=Q) (fun _=>hs.stock (kback_k hs.k)) fun _=>?_
  have hr:=Hj_ (n:=d.name) (id:=d.id) h.stk
  refine bt (P:=Q) (fun _=>V3_ (Ay_ h hr.1) ⟨by simp,fun g hg=>?_⟩ (hs.stock (Z3_ hs.k))) fun _=>hs.stock (Z3_ hs.k)
  rw[List.mem_singleton.1 hg];exact hr.2
theorem late_h0 {t:Int}:∀ (f:Nat) (gone:List OutR) (x:B_),StOk x->(∀ g∈gone,MlOk g.mail)->gone.length+nik x.x.stock<=512->nik x.x.stock<f->Hk s0 x->Hk s0 (B4_ t f gone x).1
  |0,_,_,_,_,_,h,_=>by omega
  |f+1,gone,x,h,hg,hl,hf,hs=>by
    unfold B4_ lt
    let Q:B_×Q_->Prop:=fun r=>Hk s0 r.1
    refine bt (P:=Q) (fun _=>V3_ h ⟨by omega,hg⟩ hs) fun e=>?_
    have e':(R_ x.x.stock t).2.2=true:=by simpa using e
    have hr:=Hj_ (n:=(R_ x.x.stock t).1) (id:=(R_ x.x.stock t).2.1.id) h.stk
    refine late_h0 f _ _ (Ay_ h hr.1) (fun g q=>?_) (Va_ h.stk rfl e' rfl hl) (Vb_ h.stk rfl e' rfl hf) (hs.stock (Z3_ hs.k))
    rcases List.mem_append.1 q with q|q
    · exact hg g q
    · rw[List.mem_singleton.1 q];exact Rd_ h.stk
theorem late_h {t:Int} (h:StOk s) (hs:Hk s0 s):Hk s0 (Dj_ s t).1:=
  late_h0 _ [] s h (fun _ h=>by cases h) (by have :=nik_r h.stk;simpa using this) (Nat.lt_succ_self _) hs
theorem put_h (h:StOk s) (h0:0<=d.mail.hops) (hs:Hk s0 s):Hk s0 (Ce_ s d).1:=by
  unfold Ce_ lt
  let Q:B_×Q_×Int->Prop:=fun r=>Hk s0 r.1
  have h1:=I9_ (s:=s) (m:=G_ d.mail) (tick:=d.tick) h h0
  have hl:=I8_ (s:=s) (m:=G_ d.mail) (tick:=d.tick) h
  exact bt (P:=Q) (fun _=>hs) fun _=>V3_ h1.1 ⟨by omega,h1.2.1⟩ (send_h h hs h0)
theorem queues_h (hs:Hk s0 s):Hk s0 (B0_ s d).1:=by
  unfold B0_ lt
  let Q:B_×Int->Prop:=fun r=>Hk s0 r.1
  refine bt (P:=Q) (fun _=>hs.stock (kmake_k hs.k)) fun _=>?_
  exact bt (P:=Q) (fun _=>⟨hs.po,hs.pl,hs.se,Z1_ hs.k⟩) fun _=>hs.stock (Z1_ hs.k)
theorem lend_h (hs:Hk s0 s):Hk s0 (Bp_ s d).1:=by
  unfold Bp_ lt
  let Q:B_×Q_×Int->Prop:=fun r=>Hk s0 r.1
  refine bt (P:=Q) (fun _=>hs) fun _=>?_
  exact bt (P:=Q) (fun _=>hs) fun _=>hs.stock (klend_k hs.k)
theorem shops_h (hs:Hk s0 s):Hk s0 (B9_ s d).1:=by
  unfold B9_ lt
  let Q:B_×Int->Prop:=fun r=>Hk s0 r.1
  have hn:∀ e,Q (s,e):=fun e=>hs
  have hb:∀ b e,Q (⟨⟨b,s.x.stock,s.x.notes,s.x.seen,s.x.spent⟩,s.policy,s.place⟩,e):=fun b e=>⟨hs.po,hs.pl,hs.se,hs.k⟩
  refine bt (P:=Q) (fun _=>?_) fun _=>?_
  · refine lp0E (P:=Q) (fun _=>True) ?_ fun _=>hb _ _
    refine bt (P:=LoP _ _) (fun _=>?_) fun _=>trivial
    refine bt (P:=LoP _ _) (fun _=>hn _) fun _=>?_
    exact bt (P:=LoP _ _) (fun _=>hn _) fun _=>trivial
  · refine bt (P:=Q) (fun _=>hb _ _) fun _=>?_
    refine bt (P:=Q) (fun _=>hb _ _) fun _=>?_
    refine lp0E (P:=Q) (fun _=>True) ?_ fun _=>hb _ _
    refine lt1E (P:=LoP _ _) (fun _=>True) trivial fun v _=>?_
    refine bt (P:=LoP _ _) (fun _=>hn _) fun _=>?_
    exact bt (P:=LoP _ _) (fun _=>hn _) fun _=>trivial
end
end Go.SW.V
namespace Go.SW.V
open Go.SW
def Vq_ (s:B_) (d:DeedR):B_:=⟨⟨s.x.book,s.x.stock,s.x.notes,A16.set s.x.seen d.number d.frm.toNat,s.x.spent⟩,s.policy,s.place⟩
def PlA (s:B_) (d:DeedR):Prop:=d.frm<s.policy.places.length/\(Ck_ s.policy d.frm s.place=true\/0<=P_ s.policy d.frm s.place)
def PlP (s:B_) (d:DeedR) (r:B_×Q_×Int):Prop:=(r.2.2≠0/\r.1=s)\/(r.2.2=0/\PlA s d/\A16.get s.x.seen d.frm.toNat<d.number/\Hk (Vq_ s d) r.1)
variable {s:B_} {d:DeedR}
theorem pull_h (h:StOk s) (hk:KOk s.x.stock.bytes s.x.stock):PlP s d (Ap_ s d):=by
  unfold Ap_ lt
  refine bt (P:=PlP s d) (fun _=> .inl ⟨(by decide :(10:Int)≠0),rfl⟩) fun e1=>?_
  refine bt (P:=PlP s d) (fun _=> .inl ⟨(by decide :(11:Int)≠0),rfl⟩) fun e2=>?_
  refine bt (P:=PlP s d) (fun _=> .inl ⟨(by decide :(13:Int)≠0),rfl⟩) fun e3=>?_
  simp only[decide_eq_false_iff_not] at e1 e3
  have hA:PlA s d:=by
    refine⟨by omega,?_⟩
    simp only[Bool.and_eq_false_iff,Bool.not_eq_false',decide_eq_false_iff_not] at e2
    rcases e2 with q|q
    · exact .inl q
    · exact .inr (by omega)
  let Q:B_×Q_×Int->Prop:=fun r=>r.2.2=0/\Hk (Vq_ s d) r.1
  have hQ:∀ r,Q r->PlP s d r:=fun r q=> .inr ⟨q.1,hA,by omega,q.2⟩
  refine hQ _ ?_
  let I:B_->Prop:=fun x=>StOk x/\Hk (Vq_ s d) x
  refine lt1E (P:=Q) I ?_ fun x hx=>?_
  · exact bt (P:=I) (fun _=>⟨(Ha_ (Bt_ h)).1,⟨rfl,rfl,rfl,hk⟩⟩) fun _=>⟨Bt_ h,⟨rfl,rfl,rfl,hk⟩⟩
  · refine bt (P:=Q) (fun _=>⟨rfl,hx.2.note _ _ _⟩) fun _=>?_
    have h1:=I9_ (s:=x) (m:=⟨(G_ d.mail).id,(G_ d.mail).shop,(G_ d.mail).key,(G_ d.mail).head,(G_ d.mail).body,(G_ d.mail).due,IntKind.wrap .u8 ((G_ d.mail).hops+1)⟩) (tick:=d.tick) hx.1 (Jb_ _)
    have hl:=I8_ (s:=x) (m:=⟨(G_ d.mail).id,(G_ d.mail).shop,(G_ d.mail).key,(G_ d.mail).head,(G_ d.mail).body,(G_ d.mail).due,IntKind.wrap .u8 ((G_ d.mail).hops+1)⟩) (tick:=d.tick) hx.1
    exact⟨rfl,V3_ h1.1 ⟨by omega,h1.2.1⟩ (send_h hx.1 hx.2 (Jb_ _))⟩
def DoP (s:B_) (d:DeedR) (e:Int) (x:B_):Prop:=e=0->(d.kind≠10/\Hk s x)\/(d.kind=10/\PlA s d/\A16.get s.x.seen d.frm.toNat<d.number/\Hk (Vq_ s d) x)
theorem do_h (h:StOk s) (h0:0<=d.mail.hops) (hk:KOk s.x.stock.bytes s.x.stock):((K_ s d).2.2≠0->(K_ s d).1=s)/\DoP s d (K_ s d).2.2 (K_ s d).1:=by
  have hs:Hk s s:=⟨rfl,rfl,rfl,hk⟩
  unfold K_ lt
  let Q:B_×Q_×Int->Prop:=fun r=>(r.2.2≠0->r.1=s)/\DoP s d r.2.2 r.1
  refine bt (P:=Q) (fun e=>⟨fun _=>rfl,fun q=>?_⟩) fun _=>?_
  · simp only[Bool.not_eq_true',decide_eq_false_iff_not] at e
    exact (e q).elim
  let I:Int×B_×Q_->Prop:=fun r=>DoP s d r.1 r.2.1
  refine lt3E (P:=Q) I ?_ fun a b c hb=>bt (P:=Q) (fun e=>⟨fun _=>rfl,fun q=>?_⟩) fun e=>⟨fun q=>(q rfl).elim,fun _=>?_⟩
  · have hn:∀ {e:Int} {x:B_} {r:Q_},d.kind≠10->Hk s x->I (e,x,r):=fun h1 h2 _=> .inl ⟨h1,h2⟩
    refine lt1E (P:=I) (fun v:Bool=>v=true->d.kind≠10) ?_ fun v hv=>?_
    · refine bt (P:=fun v:Bool=>v=true->d.kind≠10) (fun e q=>?_) fun e q=>?_
      · simp only[decide_eq_true_eq] at e;omega
      · simp only[decide_eq_true_eq] at q;omega
    refine bt (P:=I) (fun e=>hn (hv e) (queues_h hs)) fun _=>?_
    refine bt (P:=I) (fun e=>hn (by simp only[decide_eq_true_eq] at e;omega) (put_h h h0 hs)) fun _=>?_
    refine bt (P:=I) (fun e=>hn (by simp only[decide_eq_true_eq] at e;omega) (lend_h hs)) fun _=>?_
    refine bt (P:=I) (fun e=>hn (by simp only[decide_eq_true_eq] at e;omega) (settle_h h hs)) fun _=>?_
    refine bt (P:=I) (fun e=>hn (by simp only[decide_eq_true_eq] at e;omega) (late_h h hs)) fun _=>?_
    refine bt (P:=I) (fun e=>?_) fun e10=>?_
    · simp only[decide_eq_true_eq] at e
      have hp:=pull_h (d:=d) h hk
      intro q
      rcases hp with hp|hp
      · exact (hp.1 q).elim
      · exact .inr ⟨e,hp.2⟩
    simp only[decide_eq_false_iff_not] at e10
    refine bt (P:=I) (fun _=>hn e10 ((hs.stock (kwake_k hs.k)).note _ _ _)) fun _=>?_
    refine bt (P:=I) (fun _=>hn e10 ⟨rfl,rfl,rfl,hk⟩) fun _=>?_
    exact hn e10 (shops_h hs)
  · simp only[Bool.not_eq_true',decide_eq_false_iff_not] at e
    exact (e q).elim
  · simp only[Bool.not_eq_false',decide_eq_true_eq] at e
    exact hb e
theorem do_deedE (e:(K_ s d).2.2=0):Ec_ d=0:=by
  by_cases q:Ec_ d=0
  · exact q
  · exfalso
    unfold K_ at e
    rw[decide_eq_false q] at e
    exact q e
theorem X8_ {t:B_} (ha:PlA s d) (hf:0<=d.frm/\d.frm<16) (ht:Hk (Vq_ s d) t):(Ap_ t d).2.2=13:=by
  have hpo:t.policy=s.policy:=ht.po
  have hpl:t.place=s.place:=ht.pl
  have hse:t.x.seen=A16.set s.x.seen d.number d.frm.toNat:=ht.se
  unfold Ap_ lt
  rw[hpo,hpl,hse,A16.get_set _ _ _ _ (by omega) (by omega),if_pos rfl]
  rw[decide_eq_false (show ¬((s.policy.places.length:Int)<=d.frm) by have :=ha.1;omega),cond_false]
  have h2:((!(Ck_ s.policy d.frm s.place))&&(decide ((P_ s.policy d.frm s.place)<0)))=false:=by
    rcases ha.2 with q|q
    · rw[q];rfl
    · rw[decide_eq_false (show ¬(P_ s.policy d.frm s.place<0) by omega),Bool.and_false]
  rw[h2,cond_false,decide_eq_true (Int.le_refl _),cond_true]
theorem do_again {t:B_} (h0:Ec_ d=0) (hk:d.kind=10) (ha:PlA s d) (hf:0<=d.frm/\d.frm<16) (ht:Hk (Vq_ s d) t):(K_ t d).2.2=13:=by
  have hp:=X8_ ha hf ht
  unfold K_ lt lt1
  rw[h0,hk]
  show (lt3 ((Ap_ t d).2.2,(Ap_ t d).1,(Ap_ t d).2.1) (fun (e_1:Int) (x:B_) (x1:Q_)=>bif !decide (e_1=0) then (t,(⟨(⟨(⟨0,[],[],[],[],0,0⟩:Mail),false,false⟩:ItemR),0,0⟩:Q_),e_1) else (x,x1,0))).2.2=13
  rw[hp]
  rfl
end Go.SW.V
namespace Go.SW.V
open Go.SW
theorem Pg_:Jp_=true:=by decide +kernel
theorem Ll_ {α:Type} [Inhabited α] (f:List α->List α->Nat->Bool) (b:List α) (hn:∀ k,f b [] k=true) (hc:∀ x t k,gt b k=x->f b (x::t) k=f b t (k+1)):∀ (t:List α) (k:Nat),b.drop k=t->f b t k=true
  |[],k,_=>hn k
  |x::t,k,h=>by
    have hk:gt b k=x:=by
      have :(b.drop k)[0]? = some x:=by rw[h];rfl
      rw[List.getElem?_drop] at this
      simp only[Nat.add_zero] at this
      simp[gt,this]
    rw[hc x t k hk]
    refine Ll_ f b hn hc t (k+1) ?_
    have :=congrArg (List.drop 1) h
    simpa [List.drop_drop,Nat.add_comm] using this
theorem Ol_ (x:ItemR):Ir_ x x=true:=by simp[Ir_]
theorem Qs_ (l:List ItemR):Ka_ l l=true:=by
  simp only[Ka_,decide_true,Bool.not_true,cond_false]
  exact Ll_ (fun b t k=>Ep_ b t k) l (fun _=>rfl) (fun x t k h=>by simp[Ep_,h,Ol_]) l 0 rfl
theorem Qt_ (l:List Mail):Kb_ l l=true:=by
  simp only[Kb_,decide_true,Bool.not_true,cond_false]
  exact Ll_ (fun b t k=>Eq_ b t k) l (fun _=>rfl) (fun x t k h=>by simp[Eq_,h]) l 0 rfl
theorem Qr_ (l:List BindR):J9_ l l=true:=by
  simp only[J9_,decide_true,Bool.not_true,cond_false]
  exact Ll_ (fun b t k=>Eo_ b t k) l (fun _=>rfl) (fun x t k h=>by simp[Eo_,h]) l 0 rfl
theorem Na_ (x:RowR):H2_ x x=true:=by simp[H2_,Lu_,Qs_]
theorem Ss_ (l:List RowR):Mb_ l l=true:=by
  simp only[Mb_,decide_true,Bool.not_true,cond_false]
  exact Ll_ (fun b t k=>Fb_ b t k) l (fun _=>rfl) (fun x t k h=>by simp[Fb_,h,Na_]) l 0 rfl
theorem Pi_ (x:RiseR):Hz_ x x=true:=by simp[Hz_,Qt_]
theorem Jg_ (s:D_):∀ (f v:Nat),16<v+f->v<=16->Fh_ s s f v=true
  |0,v,h,h2=>by omega
  |f+1,v,h,h2=>by
    unfold Fh_
    rw[Pi_]
    cases e:decide ((v:Int)<16) with
    |true=>
      simp only[decide_eq_true_eq] at e
      simp only[cond_true,Bool.not_true,cond_false]
      exact Jg_ s f (v+1) (by omega) (by omega)
    |false=>rfl
theorem Pa_ (s:D_):Hm_ s s=true:=by
  simp only[Hm_,decide_true,Bool.not_true,Bool.false_or,Ss_,cond_false]
  exact Jg_ s _ 0 (by decide) (by decide)
theorem Pb_ (x:Ar_):Hn_ x x=true:=by
  simp[Hn_,Kj_,Qr_,Pa_,Kh_]
theorem Zs_:∀ l:List ItemR,(∀ x∈l,MlOk x.mail)->B5_ l = .fin ()
  |[],_=>rfl
  |x::t,h=>by
    unfold B5_
    have :=(h x (List.mem_cons_self ..)).2.2.1
    rw[decide_eq_false (show ¬(4<x.mail.hops) by omega),cond_false]
    exact Zs_ t fun y hy=>h y (List.mem_cons_of_mem _ hy)
theorem Yq_:∀ (t out:List ItemR),(∀ x∈t,MlOk x.mail)->(∀ x∈out,MlOk x.mail)->∀ x∈Bm_ t out,MlOk x.mail
  |[],out,_,h=>h
  |y::t,out,ht,h=>by
    unfold Bm_ lt
    refine Yq_ t _ (fun x hx=>ht x (List.mem_cons_of_mem _ hx)) fun x hx=>?_
    rcases List.mem_append.1 hx with q|q
    · exact h x q
    · rw[List.mem_singleton.1 q];exact ht y (List.mem_cons_self ..)
theorem Zr_ {r:Int} {r3:B_×Q_×Int} {r4:Ar_} (h:StkOk r4.stock):∀ l:List QueueR,Bl_ r r3 r4 l = .fin r3.1
  |[]=>rfl
  |q::t=>by
    unfold Bl_ lt
    have hl:=line_ok (n:=q.name) h
    have e:B5_ (Es_ (Di_ r4.stock q.name)) = .fin ():=Zs_ _ (Yq_ _ [] (fun x hx=>hl.2.1 x hx) fun x hx=>by cases hx)
    dsimp only
    rw[e]
    exact Zr_ h t
theorem Zt_ {p:PolicyR} {r b:Int} {x:B_} {d:DeedR} (hx:StOk x) (hk:KOk b x.x.stock) (hb:b<=(gt p.places r.toNat).bytes) (hd:DdOk d) (h0:0<=d.mail.hops) (hf:0<=d.frm) (t:List DeedR):Az_ p r (d::t) x=Az_ p r t (K_ x d).1/\StOk (K_ x d).1/\KOk b (K_ x d).1.x.stock:=by
  have hb':=hk.1
  have hdo:=do_h (s:=x) (d:=d) hx h0 (by rw[hb'];exact hk)
  have hok:=Xq_ hx hd h0
  have h16:=hx.2.1.2.1
  have hag:∀ {t:B_},Ec_ d=0->d.kind=10->PlA x d->Hk (Vq_ x d) t->(K_ t d).2.2=13:=fun h1 h2 h3 h4=>do_again h1 h2 h3 ⟨hf,by have :=h3.1;omega⟩ h4
  have hE:(K_ x d).2.2=0->Ec_ d=0:=do_deedE
  have hK:KOk b (K_ x d).1.x.stock:=by
    by_cases e:(K_ x d).2.2=0
    · rcases hdo.2 e with q|q
      · rw[<- hb'];exact q.2.k
      · rw[<- hb'];exact q.2.2.2.k
    · rw[hdo.1 e];exact hk
  rw[Az_.eq_2]
  unfold lt
  generalize K_ x d=T at *
  refine⟨?_,hok,hK⟩
  have e1:(bif ((decide ((d.kind)=10))&&(decide ((d.frm)<16))) then (bif ((decide (T.2.2=0))&&((decide ((d.number)<=(A16.get (H_ x).seen ((d.frm).toNat))))||(!decide ((A16.get (H_ T.1).seen ((d.frm).toNat))=(d.number))))) then (Lo.ret false:Lo Unit Bool) else (fun r5:B_×Q_×Int=>(bif ((decide (T.2.2=0))&&(!decide (r5.2.2=13))) then (Lo.ret false:Lo Unit Bool) else .fin ())) (K_ T.1 d)) else (bif !decide ((H_ T.1).seen=(H_ x).seen) then .ret false else .fin ())) = .fin ():=by
    by_cases e:T.2.2=0
    · rcases hdo.2 e with q|q
      · rw[decide_eq_false q.1,Bool.false_and,cond_false]
        have hse:(H_ T.1).seen=(H_ x).seen:=q.2.se
        rw[decide_eq_true hse];rfl
      · have hf16:d.frm<16:=by have :=q.2.1.1;omega
        have hse:(H_ T.1).seen=A16.set x.x.seen d.number d.frm.toNat:=q.2.2.2.se
        rw[decide_eq_true q.1,decide_eq_true hf16,Bool.and_true,cond_true,hse,A16.get_set _ _ _ _ (by omega) (by omega),if_pos rfl,decide_eq_true (rfl :d.number=d.number)]
        rw[decide_eq_false (show ¬(d.number<=A16.get (H_ x).seen d.frm.toNat) by have :=q.2.2.1;show ¬(d.number<=A16.get x.x.seen d.frm.toNat);omega)]
        rw[Bool.not_true,Bool.or_false,Bool.and_false,cond_false]
        dsimp only
        rw[hag (hE e) q.1 q.2.1 q.2.2.2,decide_eq_true (rfl :(13:Int)=13),Bool.not_true,Bool.and_false];rfl
    · rw[decide_eq_false e,Bool.false_and,cond_false]
      have ht:T.1=x:=hdo.1 e
      rw[ht]
      dsimp only
      rw[decide_eq_true rfl,Bool.false_and]
      cases (decide (d.kind=10) && decide (d.frm<16))<;>rfl
  have e2:(((!decide (T.2.2=0))&&(!(Hn_ (H_ T.1) (H_ x))))||(decide (((gt p.places ((r).toNat)).bytes)<(Ae_ (H_ T.1).stock))))=false:=by
    have hsz:Ae_ (H_ T.1).stock<=b:=by
      rw[Rg_];exact hK.2
    rw[decide_eq_false (show ¬((gt p.places r.toNat).bytes<Ae_ (H_ T.1).stock) by omega),Bool.or_false]
    by_cases e:T.2.2=0
    · rw[decide_eq_true e];rfl
    · rw[hdo.1 e,Pb_,Bool.not_true,Bool.and_false]
  dsimp only at e1 ⊢
  rw[e1,e2]
  have e3:Bl_ r T (H_ T.1) (Cb_ (H_ T.1).stock) = .fin T.1:=Zr_ (r4:=H_ T.1) hok.stk _
  show lp1 (Bl_ r T (H_ T.1) (Cb_ (H_ T.1).stock)) (fun x1=>Az_ p r t x1) (fun r=>r)=_
  rw[e3];rfl
theorem hops_l0 {p:PolicyR} {r b:Int} (hb:b<=(gt p.places r.toNat).bytes) (l:List DeedR):∀ x:B_,(∀ d∈l,DdOk d/\0<=d.mail.hops/\0<=d.frm)->StOk x->KOk b x.x.stock->Az_ p r l x=true:=by
  induction l with
  |nil=>intro x _ _ _;rfl
  |cons d t ih=>
    intro x hl hx hk
    have hd:=hl d (List.mem_cons_self ..)
    obtain⟨e,h1,h2⟩:=Zt_ hx hk hb hd.1 hd.2.1 hd.2.2 t
    rw[e]
    exact ih _ (fun y hy=>hl y (List.mem_cons_of_mem _ hy)) h1 h2
theorem hops_deeds {l:List DeedR} (h:(PV.sl DeedR.pc l).wf):∀ d∈l,0<=d.mail.hops/\0<=d.frm:=fun d hd=>by
  obtain⟨k,hk⟩:=List.getElem?_of_mem hd
  exact⟨Sq_ h hk,V7_ h hk⟩
theorem law23_hops (p:PolicyR) (place:Int) (l:List DeedR) (hw:∀ d∈l,0<=d.mail.hops/\0<=d.frm):F6_ p place l=true:=by
  unfold F6_
  rw[Pg_,Bool.not_true,cond_false]
  cases hm:Ky_ p with
  |false=>rfl
  |true=>
    cases hL:Hs_ l with
    |false=>rfl
    |true=>
      have hpm:=Z8_ hm
      have hp:=hpm.1
      have hr:=at_r p place hpm.2.1
      have hdd:=l23_ddl hL
      show Az_ p (Jo_ p place) l (Cv_ p (Jo_ p place))=true
      have hpb:=hp.2.2.2.2.2.2 _ (Je_ (xs:=p.places) (k:=(Jo_ p place).toNat) (by omega))
      refine hops_l0 (b:=(gt p.places (Jo_ p place).toNat).bytes) (Int.le_refl _) l _ (fun d hd=>⟨hdd.1.1 d hd,hw d hd⟩) (new_ok hp hr) ⟨?_,?_⟩
      · show max 0 _=_;omega
      · have :rz (Cv_ p (Jo_ p place)).x.stock.rows+uz (Cv_ p (Jo_ p place)).x.stock.rises 16=0:=by rfl
        rw[this];exact hpb.1
end Go.SW.V
