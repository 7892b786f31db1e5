/-
  A part of the proof of StorePlays: What the document's stores send is what the code's do. Plain laws; each asks what it lists.
-/
import Derived.Test.YtkikmaakgdijfaaGreatDoorStorePlaysP4
import Derived.Test.YtkikmaakgdijfaaGreatDoorStorePlaysP3
import Derived.Shelf.LaysM
import Derived.Shelf.Strings.FieldsFuncAny
import Derived.Shelf.Pu.ParseUintPublic10
import Derived.Lib.SmallJoins
import Derived.Test.YtkikmaakgdijfaaGreatDoorProg
import Derived.Shelf.Strings.Split
import Derived.Test.YtkikmaakgdijfaaGreatDoorStorePlaysP2
import Derived.KernelRfl
set_option linter.unusedVariables false
set_option linter.unusedSimpArgs false
set_option maxRecDepth 100000
set_option maxHeartbeats 4000000
open Go.Proofs.Tryz
namespace Go.SW.V
open Go.SW
theorem r05find (p:G_) (n:Bs):I4_ p n=K_ p n:=Qi_ _ (Hf_ n) (λ_=>rfl) (λ_ _ _=>rfl) p.places 0
theorem Sh_ (p:G_) (a b:Int):Et_ p a b=T_ p a b:=Qi_ _ (Fw_ a b) (λ_=>rfl) (λ_ _ _=>rfl) p.grants 0
theorem r06round {p:G_} {t:Int} (ht:U64 t) (hs:0<p.slots.length):N3_ p t=Fn_ p t:=by
 unfold N3_ Fn_;have hn:(0:Int)<p.slots.length:=by omega
 have h1:=Int.emod_nonneg t (show (p.slots.length:Int)≠0 by omega);have h2:=Int.emod_lt_of_pos t hn;have h4:=Int.emod_add_mul_ediv t (p.slots.length:Int);have h6:=Int.mul_nonneg (Int.le_of_lt hn) (Int.ediv_nonneg ht.1 (Int.le_of_lt hn));have h3:t%(p.slots.length:Int)<=t:=by omega
 have hw:IntKind.wrap .u64 (t-t%(p.slots.length:Int))=t-t%(p.slots.length:Int):=Oq_ pB (by have :=ht.2;omega);rw[hw];have h5:t-t%(p.slots.length:Int)=(p.slots.length:Int)*(t/(p.slots.length:Int)):=by omega
 rw[h5,Int.mul_ediv_cancel_left _ pB]
def Iv (s:E_):Prop:=StOk s/\RoB s.x.C_/\KG s.x.C_
theorem Iv.C_ {s:E_} (h:Iv s) {k:I_} (h1:StkOk k) (h2:RoB k) (h3:KG k):Iv ⟨⟨s.x.book,k,s.x.notes,s.x.seen,s.x.spent⟩,s.L_,s.place⟩:=⟨Ca_ h.1 h1,h2,h3⟩
theorem Tp_ {s:E_} (h:s.x.notes.kept.length<=32) (t k:Int) (x:Bs):Fb_ (fS s) t k x=fS (A0_ s t k x):=by
 unfold Fb_ A0_ lt;have :=r19add (n:=s.x.notes) (x:=⟨t,k,x⟩) h;show (⟨s.L_,s.place,s.x.book,fK s.x.C_,(Nr_ s.x.notes ⟨t,k,x⟩).1,s.x.seen,s.x.spent⟩:F_)=_;rw[this];rfl
theorem r23spend {s:E_} (h:Iv s) {to' t:Int} (ht:U64 t):K3_ (fS s) to' t=(fS (Ao_ s to' t).1,decide ((Ao_ s to' t).2=0)):=by
 unfold K3_ Ao_ lt lt1;dsimp only;have e1:Et_ (fS s).p (fS s).at_ to'=T_ s.L_ s.place to':=Sh_ _ _ _;have e2:N3_ (fS s).p t=Fn_ s.L_ t:=r06round ht h.1.2.1.2.2.1;rw[e1,e2];show (bif decide (T_ s.L_ s.place to'<0) then (fS s,false) else bif decide ((gt s.L_.grants (T_ s.L_ s.place to').toNat).budget<=(bif decide ((A8.get s.x.spent (T_ s.L_ s.place to').toNat).round=Fn_ s.L_ t) then (A8.get s.x.spent (T_ s.L_ s.place to').toNat).count else 0)) then (fS s,false) else (Fb_ (fS ⟨⟨s.x.book,s.x.C_,s.x.notes,s.x.seen,A8.set s.x.spent ⟨Fn_ s.L_ t,(bif decide ((A8.get s.x.spent (T_ s.L_ s.place to').toNat).round=Fn_ s.L_ t) then (A8.get s.x.spent (T_ s.L_ s.place to').toNat).count else 0)+1⟩ (T_ s.L_ s.place to').toNat⟩,s.L_,s.place⟩) t 2 (gt s.L_.places to'.toNat).name,true))=_;by_cases c0:T_ s.L_ s.place to'<0;simp only[decide_eq_true c0,cond_true];rfl;simp only[decide_eq_false c0,cond_false];have hn:=λ(y:E_) (hy:y.x.notes=s.x.notes)=>Tp_ (s:=y) (by rw[hy];exact h.1.1.2.2.1) t 2 (gt s.L_.places to'.toNat).name;by_cases q:(A8.get s.x.spent (T_ s.L_ s.place to').toNat).round=Fn_ s.L_ t;simp only[decide_eq_true q,cond_true,Bool.not_true,cond_false];by_cases c:(gt s.L_.grants (T_ s.L_ s.place to').toNat).budget<=(A8.get s.x.spent (T_ s.L_ s.place to').toNat).count;simp only[decide_eq_true c,cond_true];rfl;simp only[decide_eq_false c,cond_false];rw[<- q];exact Prod.ext (hn _ Y) Y;simp only[decide_eq_false q,cond_false,Bool.not_false,cond_true];by_cases c:(gt s.L_.grants (T_ s.L_ s.place to').toNat).budget<=0;simp only[decide_eq_true c,cond_true];rfl;simp only[decide_eq_false c,cond_false];exact Prod.ext (hn _ Y) Y
theorem iv_spend {s:E_} (h:Iv s) (to' t:Int):Iv (Ao_ s to' t).1:=by
 have :=spend_ok (to':=to') (t:=t) h.1;refine⟨this.1,?_,?_⟩;rw[this.2];exact h.2.1;rw[this.2];exact h.2.2
theorem r23due {own tick life:Int} (ho:0<=own) (ht:U64 tick) (hl:U64 life):Mg_ own tick life=Hz_ own tick life:=by
 unfold Mg_ Hz_;obtain⟨t1,t2⟩:=ht;obtain⟨l1,l2⟩:=hl;have hw1:IntKind.wrap .u64 (18446744073709551615-tick)=18446744073709551615-tick:=Oq_ pB pB;rw[hw1];have hc:decide (IntKind.wrap .u64 (tick+life)<tick) = decide (18446744073709551615-tick<life):=by
   by_cases q:18446744073709551615-tick<life
   . have :IntKind.wrap .u64 (tick+life)=tick+life-18446744073709551616:=by rw[IntKind.wrap_u64];omega
     rw[decide_eq_true q,this,decide_eq_true pB]
   . have :IntKind.wrap .u64 (tick+life)=tick+life:=Oq_ pB pB
     rw[decide_eq_false q,this,decide_eq_false pB]
 rw[hc]
 cases (decide (life=0)) || decide (18446744073709551615-tick<life) with
 |true=>rfl
 |false=>
   simp only[cond_false]
   by_cases q:own=0
   . rw[decide_eq_true q,q];rfl
   . rw[decide_eq_false q,decide_eq_true (show 0<own by omega)]
     simp only[Bool.true_and,cond_false]
     by_cases q2:own<IntKind.wrap .u64 (tick+life)
     . rw[decide_eq_true q2,cond_true,Int.min_def,if_pos pB]
     . rw[decide_eq_false q2,cond_false,Int.min_def]
       by_cases q3:own<=IntKind.wrap .u64 (tick+life)
       . rw[if_pos q3];omega
       . rw[if_neg q3]
def TqP (s:E_) (m:Mail) (tick:Int) (r:List Bs×List Bs×Int) (R:F_×List Dv_×Int×Int) (C:E_×List Dv_×Int×Int):Prop:=
 (R.2.2.2≠0/\C=(s,[],0,R.2.2.2))\/(R.2.2.2=0/\∃ y,Iv y/\y.L_=s.L_/\y.place=s.place/\y.x.book=s.x.book/\R.1=fS y/\C=A3_ s m tick r R.2.1 r.2.1 R.2.2.1 y)
theorem toq0 {s:E_} {m:Mail} {tick:Int} {r:List Bs×List Bs×Int} (ht:U64 tick) (hm:Wf m):∀ (t:List Bs) (gone:List Dv_) (n:Int) (x:E_),Iv x->x.L_=s.L_->x.place=s.place->x.x.book=s.x.book->TqP s m tick r (Co_ ⟨0,m.Ak_,m.key,m.head,m.body,m.due,m.hops⟩ tick t gone n (fS x)) (Aw_ s m tick r t gone n x)
 |[],gone,n,x,h,h1,h2,h3=> .inr ⟨rfl,x,h,h1,h2,h3,rfl,rfl⟩
 |q::t,gone,n,x,h,h1,h2,h3=>by
   unfold Co_ Aw_ lt
   dsimp only
   have ef:Ct_ (fS x).C_ q=J_ x.x.C_ q:=Ns_ _ _
   rw[ef]
   unfold Ag_ lt
   dsimp only
   rcases at_c x.x.C_ q with e|⟨i,e,hi⟩
   . simp only[decide_eq_true e,cond_true,Bool.not_false]
     exact toq0 ht hm t gone n x h h1 h2 h3
   . simp only[e,decide_eq_false (show ¬(i:Int)<0 by omega),cond_false,Bool.not_true,Int.toNat_natCast]
     have hl:(gt (fS x).C_.rows i).q.life=(gt x.x.C_.rows i).q.life:=by
       show (gt (fK x.x.C_).rows i).q.life=_
       rw[gt_f hi];rfl
     rw[hl]
     have hlife:U64 (gt x.x.C_.rows i).q.life:=(h.2.2.2.1 _ (Go_ hi)).2.1
     rw[r23due hm.1.2.1.1 ht hlife]
     generalize hdue:Hz_ m.due tick (gt x.x.C_.rows i).q.life=due
     have hm2:Wf ⟨0,m.Ak_,m.key,m.head,m.body,due,m.hops⟩:=by
       have :=cloG.wd (t:=tick) (l:=(gt x.x.C_.rows i).q.life) hm
       rw[hdue] at this;exact this
     have hp:Mc_ (fS x).C_ q ⟨0,m.Ak_,m.key,m.head,m.body,due,m.hops⟩=_:=r21put (k:=x.x.C_) (n:=q) h.1.1.2.1 h.2.1 h.2.2 hm2
     rw[hp]
     have hk:=Vf_ (s:=x.x.C_) (n:=q) (m:=⟨0,m.Ak_,m.key,m.head,m.body,due,m.hops⟩) h.1.1.2.1 hm.1.2.2.1
     have hg:=(cloG.kp (n:=q) (m:=⟨0,m.Ak_,m.key,m.head,m.body,due,m.hops⟩) h.1.1.2.1 hm2 h.2.2).1
     have hr:=cloB.kp (n:=q) (m:=⟨0,m.Ak_,m.key,m.head,m.body,due,m.hops⟩) h.1.1.2.1 h.2.1
     generalize As_ x.x.C_ q ⟨0,m.Ak_,m.key,m.head,m.body,due,m.hops⟩=v at hk hg hr ⊢
     by_cases e4:v.2.2.2=0
     . simp only[e4,decide_true,Bool.not_true,cond_false]
       have hx:=h.C_ hk.1 hr hg
       cases decide (v.2.2.1.Ak_=[]) with
       |true=>exact toq0 ht hm t gone (n+1) _ hx h1 h2 h3
       |false=>exact toq0 ht hm t (gone++[⟨q,v.2.2.1⟩]) (n+1) _ hx h1 h2 h3
     . simp only[decide_eq_false e4,Bool.not_false,cond_true]
       exact .inl ⟨e4,rfl⟩
theorem sendl1 {s:E_} {m:Mail} {tick:Int} {r:List Bs×List Bs×Int} {r1:F_×List Dv_×Int×Int} (ht:U64 tick) (hm:Wf m) {i:Nat} (hi:Fa_ s.x.book m.Ak_=i) (hs:D0_ s.x.book.Ad_ m.Ak_=some (gt s.x.book.Ad_ i)):∀ (t:List Bs) (n:Int) (x:E_),Iv x->x.L_=s.L_->x.place=s.place->x.x.book=s.x.book ->
   Gz_ (fS s) m tick r r1 t n (fS x)=(fS (A3_ s m tick r r1.2.1 t n x).1,(A3_ s m tick r r1.2.1 t n x).2)
 |[],n,x,_,_,_,_=>rfl
 |q::t,n,x,h,h1,h2,h3=>by
   unfold Gz_ A3_ lt
   dsimp only
   have e1:I4_ (fS s).p q=K_ x.L_ q:=by rw[h1];exact r05find _ _
   have e2:(gt (fS s).book.Ad_ (Fa_ (fS s).book m.Ak_).toNat).sort=((D0_ s.x.book.Ad_ m.Ak_).getD Z_.zero).sort:=by
     show (gt s.x.book.Ad_ (Fa_ s.x.book m.Ak_).toNat).sort=_
     rw[hi,hs,Int.toNat_natCast,Option.getD_some]
   rw[e1,e2]
   have key:∀ y:E_,Iv y->y.L_=s.L_->y.place=s.place->y.x.book=s.x.book ->
       (bif !decide ((Hy_ (fS y).C_ (K_ x.L_ q) ⟨0,m.Ak_,m.key,m.head,m.body,m.due,m.hops⟩).2=0) then
         (fS s,([]:List Dv_),(0:Int),(Hy_ (fS y).C_ (K_ x.L_ q) ⟨0,m.Ak_,m.key,m.head,m.body,m.due,m.hops⟩).2)
       else Gz_ (fS s) m tick r r1 t (n+1) ⟨(fS y).p,(fS y).at_,(fS y).book,(Hy_ (fS y).C_ (K_ x.L_ q) ⟨0,m.Ak_,m.key,m.head,m.body,m.due,m.hops⟩).1,(fS y).notes,(fS y).seen,(fS y).spent⟩) =
       (λc:E_×List Dv_×Int×Int=>(fS c.1,c.2)) (bif !decide ((Au_ y.x.C_ (K_ x.L_ q) ⟨0,m.Ak_,m.key,m.head,m.body,m.due,m.hops⟩).2=0) then
         (s,[],0,(Au_ y.x.C_ (K_ x.L_ q) ⟨0,m.Ak_,m.key,m.head,m.body,m.due,m.hops⟩).2)
       else A3_ s m tick r r1.2.1 t (n+1) ⟨⟨y.x.book,(Au_ y.x.C_ (K_ x.L_ q) ⟨0,m.Ak_,m.key,m.head,m.body,m.due,m.hops⟩).1,y.x.notes,y.x.seen,y.x.spent⟩,y.L_,y.place⟩):=by
     intro y hy g1 g2 g3
     have hwm:Wf ⟨0,m.Ak_,m.key,m.head,m.body,m.due,m.hops⟩:=cloG.wr hm
     have hr:Hy_ (fS y).C_ (K_ x.L_ q) ⟨0,m.Ak_,m.key,m.head,m.body,m.due,m.hops⟩=_:=r21raise (k:=y.x.C_) (p:=K_ x.L_ q) hy.1.1.2.1 (kw_of hy.2.2) hwm.2
     rw[hr]
     have hk:=Rq_ (s:=y.x.C_) (p:=K_ x.L_ q) (m:=⟨0,m.Ak_,m.key,m.head,m.body,m.due,m.hops⟩) hy.1.1.2.1
     have hg:=cloG.ks (p:=K_ x.L_ q) hwm hy.2.2
     have hb:=cloB.ks (p:=K_ x.L_ q) (m:=⟨0,m.Ak_,m.key,m.head,m.body,m.due,m.hops⟩) hy.2.1
     generalize Au_ y.x.C_ (K_ x.L_ q) ⟨0,m.Ak_,m.key,m.head,m.body,m.due,m.hops⟩=v at hk hg hb ⊢
     dsimp only
     cases decide (v.2=0) with
     |false=>rfl
     |true=>exact sendl1 ht hm hi hs t (n+1) _ (hy.C_ hk.1 hb hg) g1 g2 g3
   by_cases c:((D0_ s.x.book.Ad_ m.Ak_).getD Z_.zero).sort=4
   . rw[decide_eq_true c]
     simp only[cond_true]
     rw[r23spend h ht]
     have hsp:=iv_spend h (K_ x.L_ q) tick
     have hks:(Ao_ x (K_ x.L_ q) tick).1.L_=x.L_/\(Ao_ x (K_ x.L_ q) tick).1.place=x.place/\(Ao_ x (K_ x.L_ q) tick).1.x.book=x.x.book:=by
       unfold Ao_ lt
       let Q:E_×Int->Prop:=λr=>r.1.L_=x.L_/\r.1.place=x.place/\r.1.x.book=x.x.book
       refine bt (P:=Q) (λ_=>⟨rfl,rfl,rfl⟩) λ_=>?_
       exact lt1E (P:=Q) (λ_=>True) Z λ_ _=>bt (P:=Q) (λ_=>⟨rfl,rfl,rfl⟩) λ_=>⟨rfl,rfl,rfl⟩
     have herr:(Ao_ x (K_ x.L_ q) tick).2≠0->(Ao_ x (K_ x.L_ q) tick).2=19:=by
       unfold Ao_ lt
       let Q:E_×Int->Prop:=λr=>r.2≠0->r.2=19
       refine bt (P:=Q) (λ_ _=>rfl) λ_=>?_
       exact lt1E (P:=Q) (λ_=>True) Z λ_ _=>bt (P:=Q) (λ_ _=>rfl) λ_ h=>(h Y).elim
     generalize Ao_ x (K_ x.L_ q) tick=v at hsp hks herr ⊢
     by_cases e:v.2=0
     . simp only[e,decide_true,Bool.not_true,cond_false]
       exact key v.1 hsp (hks.1.trans h1) (hks.2.1.trans h2) (hks.2.2.trans h3)
     . have :=herr e
       simp only[this]
       rfl
   . rw[decide_eq_false c]
     simp only[cond_false]
     exact key x h h1 h2 h3
theorem r23send {s:E_} {m:Mail} {tick:Int} (ht:U64 tick) (h:Iv s) (hb:BkB s.x.book) (hm:Wf m) (he:Du_ m.head=0):J4_ (fS s) m tick=(fS (P_ s m tick).1,(P_ s m tick).2):=by
 unfold J4_ P_ lt;dsimp only;have hl:G4_ (fS s).book m.Ak_ m.key m.head=A8_ s.x.book m.Ak_ m.key m.head:=r14leads he hb;rw[hl];generalize hr:A8_ s.x.book m.Ak_ m.key m.head=r;by_cases e:r.2.2=0
 . simp only[e,decide_true,Bool.not_true,cond_false]
   rcases shop_c s.x.book m.Ak_ with ⟨c1,c2⟩|⟨i,c1,hl2,c2⟩
   . exfalso
     unfold A8_ at hr
     rw[c2] at hr
     rw[<- hr] at e
     cases e
   . unfold Gs_
     have hq:=toq0 (s:=s) (m:=m) (r:=r) ht hm r.1 [] 0 s h Y Y Y
     generalize Co_ ⟨0,m.Ak_,m.key,m.head,m.body,m.due,m.hops⟩ tick r.1 [] 0 (fS s)=R at hq ⊢
     rcases hq with ⟨g1,g2⟩|⟨g1,y,g2,g3,g4,g5,g6,g7⟩
     rw[decide_eq_false g1,g2];rfl
     rw[decide_eq_true g1,g6,g7]
     simp only[Bool.not_true,cond_false]
     exact sendl1 (r1:=R) ht hm c1 c2 r.2.1 R.2.2.1 y g2 g3 g4 g5
 simp only[decide_eq_false e,Bool.not_false,cond_true]
theorem Zi_ {a:C5_} (h:0<=a.Q0_/\a.Q0_<=4294967295) {i:Nat} (hi:i<32):Lc_ a (i:Int)=(BitVec.ofInt 32 a.Q0_).getLsbD i:=by
 unfold Lc_;have h1:min ((i:Int)).toNat (IntKind.bits .u32)=i:=by
   show min ((i:Int)).toNat 32=i
   omega
 rw[h1];obtain⟨n,hn⟩:∃ n:Nat,a.Q0_=n:=⟨a.Q0_.toNat,by omega⟩;rw[hn] at h ⊢;have h2:(BitVec.ofInt 32 (n:Int)).toNat=n:=by
   rw[BitVec.toNat_ofInt]
   omega
 rw[BitVec.getLsbD,h2,Nat.testBit_eq_decide_div_mod_eq];have h3:Int.fdiv (n:Int) (2 ^ i)=((n/2 ^ i:Nat):Int):=by
   rw[Int.fdiv_eq_ediv_of_nonneg _ (by exact Int.le_of_lt (Int.pow_pos pC))]
   rw[Int.natCast_ediv,Int.natCast_pow]
   rfl
 rw[h3];by_cases q:n/2 ^ i%2=1;exact tY;exact tW
theorem under0 (a b:C5_):∀ (f i:Nat),32-i<f->i<=32->(Ia_ a b f i=true↔∀ j,i<=j->j<32->(Lc_ a (j:Int)&&!Lc_ b (j:Int))=false)
 |0,i,h,_=>by omega
 |f+1,i,h,hi=>by
   unfold Ia_
   by_cases q:i<32
   . rw[decide_eq_true (show (i:Int)<32 by omega),cond_true]
     cases e:(Lc_ a (i:Int)&&!Lc_ b (i:Int)) with
     |true=>
       rw[cond_true]
       constructor
       . intro h;cases h
       . intro h;rw[h i (Nat.le_refl i) q] at e;cases e
     |false=>
       rw[cond_false,under0 a b f (i+1) pB pB]
       constructor
       . intro h j h1 h2
         by_cases q2:j=i
         . subst q2;exact e
         . exact h j pB h2
       . intro h j h1 h2;exact h j pB h2
   . rw[decide_eq_false (show ¬(i:Int)<32 by omega),cond_false]
     constructor
     . intro _ j h1 h2;omega
     . intro _;rfl
def LbOk (a:C5_):Prop:=(0<=a.Q0_/\a.Q0_<=4294967295)/\0<=a.level/\a.level<=255
theorem r03under {a b:C5_} (ha:LbOk a) (hb:LbOk b):L9_ a b=Ft_ a b:=by
 unfold L9_ Ft_;by_cases q:a.level<=b.level;rw[decide_eq_true q,decide_eq_false (show ¬b.level<a.level by omega),cond_false,Bool.true_and];have hu:=under0 a b (32-0+1) 0 pB pB;have hx:∀ X:BitVec 32,IntKind.wrap .u32 (X.toNat:Int)=(X.toNat:Int):=λX=>by
   have :=X.isLt
   rw[IntKind.wrap_u32]
   omega
 show _ = decide (IntKind.wrap .u32 ((BitVec.ofInt 32 a.Q0_ &&& ~~~ BitVec.ofInt 32 b.Q0_).toNat:Int)=0);rw[hx];have hz:((BitVec.ofInt 32 a.Q0_ &&& ~~~ BitVec.ofInt 32 b.Q0_).toNat:Int)=0↔∀ j:Nat,0<=j->j<32->(Lc_ a (j:Int)&&!Lc_ b (j:Int))=false:=by
   constructor
   . intro h j _ hj
     have h0:(BitVec.ofInt 32 a.Q0_ &&& ~~~ BitVec.ofInt 32 b.Q0_)=0#32:=by
       apply BitVec.eq_of_toNat_eq
       simp only[BitVec.toNat_ofNat]
       omega
     have :=congrArg (λX:BitVec 32=>X.getLsbD j) h0
     simp only[BitVec.getLsbD_and,BitVec.getLsbD_not,BitVec.getLsbD_zero] at this
     rw[Zi_ ha.1 hj,Zi_ hb.1 hj]
     simpa [hj] using this
   . intro h
     have h0:(BitVec.ofInt 32 a.Q0_ &&& ~~~ BitVec.ofInt 32 b.Q0_)=0#32:=by
       apply BitVec.eq_of_getLsbD_eq
       intro j hj
       have :=h j (Nat.zero_le j) hj
       rw[Zi_ ha.1 hj,Zi_ hb.1 hj] at this
       simp only[BitVec.getLsbD_and,BitVec.getLsbD_not,BitVec.getLsbD_zero]
       simpa [hj] using this
     rw[h0];rfl
 by_cases q2:((BitVec.ofInt 32 a.Q0_ &&& ~~~ BitVec.ofInt 32 b.Q0_).toNat:Int)=0;rw[decide_eq_true q2];exact hu.2 (hz.1 q2)
 . rw[decide_eq_false q2]
   cases e:Ia_ a b (32-0+1) 0 with
   |false=>rfl
   |true=>exact (q2 (hz.2 (hu.1 e))).elim
 rw[decide_eq_false q,decide_eq_true (show b.level<a.level by omega)];rfl
theorem r05flows {p:G_} (hL:∀ y∈p.places,LbOk y.label) (a b:Int):J2_ p a b=Bj_ p a b:=by
 unfold J2_ Bj_ Bt_ C8_;by_cases ha:0<=a/\a<p.places.length;by_cases hb:0<=b/\b<p.places.length;rw[r03under (hL _ (Go_ pB)) (hL _ (Go_ pB))];rw[decide_eq_true ha.1,decide_eq_true ha.2,decide_eq_true hb.1,decide_eq_true hb.2,decide_eq_true (show a<=(p.places.length:Int)-1 by omega),decide_eq_true (show b<=(p.places.length:Int)-1 by omega)];simp;by_cases q:0<=b;rw[decide_eq_false (show ¬b<(p.places.length:Int) by omega),decide_eq_false (show ¬b<=(p.places.length:Int)-1 by omega)];simp;rw[decide_eq_false q];simp;by_cases q:0<=a;rw[decide_eq_false (show ¬a<(p.places.length:Int) by omega),decide_eq_false (show ¬a<=(p.places.length:Int)-1 by omega)];simp;rw[decide_eq_false q];simp
def Wh (m:Mail):Prop:=Wf m/\Du_ m.head=0
theorem he_0:Du_ ([]:List Pair)=0:=by decide +kernel
theorem he_it {n:Int} {x:D_} (h:ItF n x):Du_ x.O_.head=0:=(Ii_ h.1.2.2).2.2.1
theorem he_gt {n m:Int} {l:List D_} (h:LG n m l) (k:Nat):Du_ (gt l k).O_.head=0:=by
 by_cases q:k<l.length;exact he_it (lg_gt h q);have :gt l k=default:=by unfold gt;rw[List.getD_eq_getElem?_getD,List.getElem?_eq_none pB];rfl
 rw[this];exact he_0
theorem he_told {n m:Int} {l:Aq_} (h:LG n m l.items) (k:Int):Du_ (Cf_ l k).1.head=0:=by
 unfold Cf_ lt;let Q:Mail×Bool->Prop:=λr=>Du_ r.1.head=0;exact bt (P:=Q) (λ_=>he_0) λ_=>he_gt h _
theorem he_late0 (t:Int):∀ (l:List Eu_) (n:Int),(∀ r∈l,RG n r)->Du_ (Az_ t l).2.1.head=0
 |[],_,_=>he_0
 |y::l,n,h=>by
   unfold Az_ lt
   let Q:Bs×Mail×Bool->Prop:=λr=>Du_ r.2.1.head=0
   refine bt (P:=Q) (λ_=>?_) λ_=>he_late0 t l n λr hr=>h r (by simp[hr])
   unfold Dh_ lt
   exact he_told (h y pF).2.2 _
theorem he_rem {k:I_} {n:Bs} {i:Int} (h:KG k):Du_ (U_ k n i).2.1.O_.head=0:=by
 have ha:=at_b k n;unfold U_ lt;let Q:I_×D_×Int->Prop:=λr=>Du_ r.2.1.O_.head=0;refine bt (P:=Q) (λ_=>he_0) λe=>?_;simp only[decide_eq_false_iff_not] at e;have hl:=(Tx_ h (i:=(J_ k n).toNat) pB).2.2;unfold Af_ lt;let Q2:Aq_×D_×Int->Prop:=λr=>Du_ r.2.1.O_.head=0;exact bt (P:=Q2) (λ_=>he_0) λ_=>he_gt hl _
theorem he_put {k:I_} {n:Bs} {m:Mail} (h:KG k):Du_ (As_ k n m).2.2.1.head=0:=by
 have ha:=at_b k n;unfold As_ lt;let Q:I_×Int×Mail×Int->Prop:=λr=>Du_ r.2.2.1.head=0;refine bt (P:=Q) (λ_=>he_0) λe1=>bt (P:=Q) (λ_=>he_0) λe2=>bt (P:=Q) (λ_=>he_0) λe3=>?_;simp only[decide_eq_false_iff_not] at e1;have hl:=(Tx_ h (i:=(J_ k n).toNat) pB).2.2;refine lp2E (P:=Q) (λq=>Du_ q.2.head=0) ?_ λx x1 hx=>?_;refine bt (P:=LoP _ _) (λc=>bt (P:=LoP _ _) (λ_=>he_0) λc2=>?_) λc=>he_0;show Du_ (Ar_ _).1.head=0;unfold Ar_ lt;exact he_told hl _;exact bt (P:=Q) (λ_=>he_0) λ_=>bt (P:=Q) (λ_=>he_0) λ_=>hx
def KH (k:I_):Prop:=RoB k/\KG k
theorem cloH:Clw U64 Wh KH (λ_=>True) where
 kp:=λhs hm h=>⟨⟨cloB.kp hs h.1,(cloG.kp hs hm.1 h.2).1⟩,(cloG.kp hs hm.1 h.2).2,he_put h.2⟩
 kl:=λh=>⟨cloB.kl h.1,cloG.kl h.2⟩
 kr:=λh=>⟨⟨cloB.kr h.1,(cloG.kr h.2).1⟩,(cloG.kr h.2).2,he_rem h.2⟩
 kb:=λh=>⟨cloB.kb h.1,cloG.kb h.2⟩
 ks:=λhm h=>⟨cloB.ks h.1,cloG.ks hm.1 h.2⟩
 kw:=λhs h=>⟨cloB.kw hs h.1,cloG.kw hs h.2⟩
 kt:=λh=>⟨cloG.kt h.2,he_late0 _ _ _ h.2.2.1⟩
 na:=λ_ _ _=>trivial
 wd:=λh=>⟨cloG.wd h.1,h.2⟩
 wr:=λh=>⟨cloG.wr h.1,h.2⟩
 wb:=λh=>⟨cloG.wb h.1,h.2⟩
 wp:=λh=>⟨cloG.wp h.1,h.2⟩
theorem kw_self {s:E_} (h:KH s.x.C_):Kw U64 KH (λ_=>True) s s:=⟨rfl,rfl,rfl,h,trivial,rfl,λ_=>id⟩
theorem Iv.k {s:E_} (h:Iv s):KH s.x.C_:=h.2
theorem queue_c (k:I_) (n:Bs):(J_ k n<0/\(Ag_ k n)=(⟨[],0,0,[]⟩,false))\/∃ i:Nat,J_ k n=i/\i<k.rows.length/\Ag_ k n=((gt k.rows i).q,true):=by
 rcases at_c k n with e|⟨i,e,hi⟩
 refine .inl ⟨e,?_⟩;unfold Ag_ lt;dsimp only;exact tX;refine .inr ⟨i,e,hi,?_⟩;unfold Ag_ lt;dsimp only;rw[e,decide_eq_false pB];rfl
theorem gt_drop {α:Type} [Inhabited α] {l t:List α} {i:Nat} (h:l.drop i=t):gt l i=gt t 0:=by
 subst h;simp[gt,List.getD_eq_getElem?_getD]
theorem bury0 {tick:Int} (ht:U64 tick):∀ (f:Nat) (gone g:List Dv_) (i:Nat) (lost:Int) (x:E_),g.drop i=gone->T5_ gone lost x->(∀ y∈gone,Wh y.O_)->Iv x->BkB x.x.book->wtk x.x.C_+wto gone<f->Hq_ tick f g lost (i:Int) (fS x)=(fS (Bk_ tick f gone lost x).1,(Bk_ tick f gone lost x).2)
 |0,_,_,_,_,_,_,_,_,_,_,h=>by omega
 |f+1,gone,g,i,lost,x,hd,hI,hw,hx,hb,hf=>by
   unfold Hq_ Bk_ lt
   dsimp only
   have hlen:g.length-i=gone.length:=by rw[<- hd,List.length_drop]
   by_cases c:0<gone.length
   . rw[decide_eq_true (show (i:Int)<(g.length:Int) by omega),decide_eq_true (show (0:Int)<(gone.length:Int) by omega)]
     simp only[cond_true,Int.toNat_natCast]
     have hg:gt g i=gt gone 0:=gt_drop hd
     have hd1:g.drop (i+1)=gone.drop 1:=by rw[<- hd,List.drop_drop]
     have e1:Ct_ (fS x).C_ (gt gone 0).queue=J_ x.x.C_ (gt gone 0).queue:=Ns_ _ _
     have hw0:Wh (gt gone 0).O_:=hw _ (Go_ c)
     have hwd:∀ y∈gone.drop 1,Wh y.O_:=λy q=>hw y (List.mem_of_mem_drop q)
     have ia:(i:Int)+1=((i+1:Nat):Int):=by omega
     simp only[hg,e1,ia]
     rcases queue_c x.x.C_ (gt gone 0).queue with ⟨q1,q2⟩|⟨j,q1,hj,q2⟩
     . rw[decide_eq_true q1,q2]
       simp only[Bool.true_or,decide_true,cond_true]
       exact bury0 ht f _ g (i+1) lost x hd1 (Qm_ hI c) hwd hx hb (Ts_ c hf)
     . have e2:(gt (fS x).C_.rows j).q=(gt x.x.C_.rows j).q:=by
         show (gt (fK x.x.C_).rows j).q=_
         rw[gt_f hj];rfl
       rw[q1,q2,decide_eq_false (show ¬(j:Int)<0 by omega),Bool.false_or,Int.toNat_natCast,e2]
       cases cd:decide ((gt x.x.C_.rows j).q.dead=[]) with
       |true=>
         simp only[cond_true]
         exact bury0 ht f _ g (i+1) lost x hd1 (Qm_ hI c) hwd hx hb (Ts_ c hf)
       |false=>
         simp only[cond_false]
         have hm:MlOk (gt gone 0).O_:=hI.2.1 _ (Go_ c)
         have hno:=Jy_ (s:=x) (t:=tick) (k:=1) (x:=(gt gone 0).queue) hI.1
         have key:Hq_ tick f g (lost+1) ((i+1:Nat):Int) (Fb_ (fS x) tick 1 (gt gone 0).queue)=(fS (Bk_ tick f (gone.drop 1) (lost+1) (A0_ x tick 1 (gt gone 0).queue)).1,(Bk_ tick f (gone.drop 1) (lost+1) (A0_ x tick 1 (gt gone 0).queue)).2):=by
           rw[Tp_ hI.1.1.2.2.1]
           exact bury0 ht f _ g (i+1) (lost+1) _ hd1 (S4_ hI hno.1 hno.2 c) hwd ⟨hno.1,hx.2⟩ hb (Xo_ hno.2 c hf)
         unfold H_
         by_cases h4:(gt gone 0).O_.hops<4
         . have hwr:IntKind.wrap .u8 ((gt gone 0).O_.hops+1)=(gt gone 0).O_.hops+1:=by
             have :=hm.2.1
             exact tU
           have h4':¬4<IntKind.wrap .u8 ((gt gone 0).O_.hops+1):=by rw[hwr];omega
           rw[decide_eq_true h4,decide_eq_false h4']
           simp only[cond_true,Bool.false_or,lt4]
           have hwm:Wh ⟨(gt gone 0).O_.id,(gt x.x.C_.rows j).q.dead,(gt gone 0).O_.key,(gt gone 0).O_.head,(gt gone 0).O_.body,0,IntKind.wrap .u8 ((gt gone 0).O_.hops+1)⟩:=cloH.wb (m:=(gt gone 0).O_) hw0
           rw[r23send ht hx hb hwm.1 hwm.2]
           have hs:=Km_ (s:=x) (m:=⟨(gt gone 0).O_.id,(gt x.x.C_.rows j).q.dead,(gt gone 0).O_.key,(gt gone 0).O_.head,(gt gone 0).O_.body,0,IntKind.wrap .u8 ((gt gone 0).O_.hops+1)⟩) (tick:=tick) hI.1 (Mo_ _)
           have hsw:=Yk_ cloH (tick:=tick) ht hI.1 (kw_self hx.k) hwm (Mo_ _)
           generalize hv:P_ x ⟨(gt gone 0).O_.id,(gt x.x.C_.rows j).q.dead,(gt gone 0).O_.key,(gt gone 0).O_.head,(gt gone 0).O_.body,0,IntKind.wrap .u8 ((gt gone 0).O_.hops+1)⟩ tick=v at hs hsw ⊢
           dsimp only
           by_cases ev:v.2.2.2=0
           . rw[decide_eq_true ev]
             simp only[Bool.not_true,cond_false]
             refine bury0 ht f _ (g++v.2.1) (i+1) lost v.1 ?_ (S5_ hI hs.1 hs.2.1 c Y hm h4' hs.2.2 Y ev) (λy q=>?_) ⟨hs.1,hsw.1.k⟩ (by rw[hsw.1.bo];exact hb) (Uv_ c hf Y hm h4' hs.2.2 Y ev)
             . rw[List.drop_append_of_le_length pB,hd1,List.drop_append_of_le_length pB]
             . rcases List.mem_append.1 (List.mem_of_mem_drop q) with q|q
               . exact hw y q
               . exact hsw.2 y q
           . rw[decide_eq_false ev]
             simp only[Bool.not_false,cond_true]
             exact key
         . have h5:4<IntKind.wrap .u8 ((gt gone 0).O_.hops+1):=by
             have :=hm.2.1
             have :=hm.2.2.1
             exact tU
           rw[decide_eq_false h4,decide_eq_true h5]
           simp only[cond_false,Bool.true_or,cond_true,lt4]
           exact key
   . rw[decide_eq_false (show ¬(i:Int)<(g.length:Int) by omega),decide_eq_false (show ¬(0:Int)<(gone.length:Int) by omega)]
     rfl
theorem r23bury {x:E_} {gone:List Dv_} {tick:Int} (ht:U64 tick) (hx:Iv x) (hb:BkB x.x.book) (hg:gone.length<=600/\∀ g∈gone,MlOk g.O_) (hw:∀ y∈gone,Wh y.O_):Lr_ (fS x) gone tick=(fS (A9_ x gone tick).1,(A9_ x gone tick).2):=by
 unfold Lr_ A9_;have e:toK (fS x).C_=x.x.C_:=Xl_ _;rw[e];exact bury0 ht _ gone gone 0 0 x Y (buryI0 hx.1 hg) hw hx hb (Nat.lt_succ_self _)
def DdF (d:Aa_):Prop:=U64 d.tick/\(0<=d.code/\d.code<=255)/\0<=d.O_.hops/\0<=d.Ak_.sort/\(∀ p∈d.bind.want,p.wf)/\Wf d.O_/\U64 d.queue.most/\U64 d.queue.life/\U64 d.number/\0<=d.frm
theorem deed_f1 {d:Aa_} (h:PV.wfs (Aa_.pc d)):DdF d:=by
 have hw:=Aa_.pwf h;obtain⟨h1,h2,h3,h4,h5,h6,h7,h8,h9,h10,h11,h12,h13⟩:=hw;have ha:∀ p∈d.bind.want,p.wf:=λp hp=>Pair.pwf (h.2.2.2.2.2.2.2.2.2.2.2.2.2.1.2 p hp);have hb:∀ p∈d.O_.head,p.wf:=λp hp=>Pair.pwf (h.2.2.2.2.2.2.2.2.2.2.2.2.2.2.2.2.2.2.2.2.2.2.2.2.1.2 p hp);simp only[Mail.wf,Ae_.wf,Z_.wf] at h12 h4 h3;exact⟨h2,h10,by omega,by omega,ha,⟨⟨⟨by omega,by omega⟩,⟨by omega,by omega⟩,by omega,by omega⟩,hb⟩,⟨by omega,by omega⟩,⟨by omega,by omega⟩,h11,by omega⟩
theorem deed_f {l:List Aa_} {k:Nat} {d:Aa_} (h:(PV.sl Aa_.pc l).wf) (hd:l[k]? = some d):DdF d:=deed_f1 (h.2 d (List.mem_of_getElem? hd))
structure Rt (p:G_) (k:Int) (s:E_):Prop where
 ok:StOk s
 b:StB s
 g:KG s.x.C_
 n:NtF s.x.notes
 bk:SbG s
 rk:Rk p k (max 0 (gt p.places k.toNat).bytes) s
theorem Rt.po {p:G_} {k:Int} {s:E_} (h:Rt p k s):s.L_=p:=h.rk.po
theorem Rt.pl {p:G_} {k:Int} {s:E_} (h:Rt p k s):s.place=k:=h.rk.pl
theorem a16_zero:∀ i,i<16->A16.get (⟨0,0,0,0,0,0,0,0,0,0,0,0,0,0,0,0⟩:A16_u64) i=0:=bw16 Y Y Y Y Y Y Y Y Y Y Y Y Y Y Y Y
theorem a8_zero:∀ i,i<8->A8.get (⟨(⟨0,0⟩:Ba_),(⟨0,0⟩:Ba_),(⟨0,0⟩:Ba_),(⟨0,0⟩:Ba_),(⟨0,0⟩:Ba_),(⟨0,0⟩:Ba_),(⟨0,0⟩:Ba_),(⟨0,0⟩:Ba_)⟩:A8_SpentR) i=⟨0,0⟩:=by
 intro i hi
 match i,hi with
 |0,_=>rfl
 |1,_=>rfl
 |2,_=>rfl
 |3,_=>rfl
 |4,_=>rfl
 |5,_=>rfl
 |6,_=>rfl
 |7,_=>rfl
theorem kok_new (p:G_) (k:Int):KOk (max 0 (gt p.places k.toNat).bytes) (Cd_ p k).x.C_:=by
 refine⟨rfl,?_⟩;show rz []+uz _ 16<=max 0 (gt p.places k.toNat).bytes;have h2:uz (Cd_ p k).x.C_.rises 16=0:=by
   unfold Cd_ lt D4_ E3_
   rfl
 rw[h2];show (0:Int)+0<=_;omega
theorem rt_new {p:G_} {k:Int} (hp:PoOk p) (hk:0<=k/\k<p.places.length) (hb:∀ y∈p.places,U64 y.base):Rt p k (Cd_ p k):=by
 have hn:U64 (Cd_ p k).x.C_.next :=hb _ (Go_ (xs:=p.places) (k:=k.toNat) pB);obtain⟨h1,h2⟩:=newG hn
 exact ⟨new_ok hp hk,newB p k,h1,h2,bkg_nil _ _ _,⟨rfl,rfl,kok_new p k,λi hi=>by
   rw[show (Cd_ p k).x.seen=⟨0,0,0,0,0,0,0,0,0,0,0,0,0,0,0,0⟩ from rfl,a16_zero i hi]
   exact u64_0,λi hi=>by
   have :=a8_zero i hi
   rw[show (Cd_ p k).x.spent=⟨⟨0,0⟩,⟨0,0⟩,⟨0,0⟩,⟨0,0⟩,⟨0,0⟩,⟨0,0⟩,⟨0,0⟩,⟨0,0⟩⟩ from rfl,this]
   exact u64_0⟩⟩
theorem rt_do {p:G_} {k:Int} {s:E_} {d:Aa_} (h:Rt p k s) (hd:DdOk d) (hf:DdF d):Rt p k (Ap_ s d).1:=by
 obtain⟨f1,f2,f3,f4,f5,f6,f7,f8,f9,f10⟩:=hf;have hg:=doG f1 f2 h.ok f3 f6 f7 f8 h.g h.n;exact⟨do_ok h.ok hd f3,doB f2 h.ok f3 f4 f5 h.b,hg.1,hg.2,doBk f1 f2 h.ok f3 h.bk,doK f1 f2 f9 h.ok f3 h.rk⟩
theorem rt_with {p:G_} {k:Int} {s:E_} (h:Rt p k s):D4_ p k (Al_ s)=s:=by
 unfold D4_ Al_;rw[<- h.po,<- h.pl]
theorem bury_len {s:E_} {m:Mail} {tick:Int} (hx:Iv s) (hm:Wh m):(P_ s m tick).2.1.length<=600/\∀ g∈(P_ s m tick).2.1,MlOk g.O_:=by
 have h1:=Km_ (s:=s) (m:=m) (tick:=tick) hx.1 hm.1.1.2.2.1;have h2:=Ls_ (s:=s) (m:=m) (tick:=tick) hx.1;exact⟨by omega,h1.2.1⟩
theorem r23put {s:E_} {m:Mail} {tick:Int} (ht:U64 tick) (hx:Iv s) (hb:BkB s.x.book) (hm:Wh m):Ld_ (fS s) m tick = bif !decide ((P_ s m tick).2.2.2=0) then (fS s,⟨⟨⟨0,[],[],[],[],0,0⟩,false,false⟩,0,0⟩,(P_ s m tick).2.2.2) else (fS (A9_ (P_ s m tick).1 (P_ s m tick).2.1 tick).1,⟨⟨⟨0,[],[],[],[],0,0⟩,false,false⟩,(P_ s m tick).2.2.1,(A9_ (P_ s m tick).1 (P_ s m tick).2.1 tick).2⟩,0):=by
 unfold Ld_ lt;rw[r23send ht hx hb hm.1 hm.2];dsimp only;have h1:=Km_ (s:=s) (m:=m) (tick:=tick) hx.1 hm.1.1.2.2.1;have h2:=bury_len (tick:=tick) hx hm;have hw:=Yk_ cloH (tick:=tick) ht hx.1 (kw_self hx.k) hm hm.1.1.2.2.1;generalize P_ s m tick=v at h1 h2 hw ⊢;rw[r23bury ht ⟨h1.1,hw.1.k⟩ (by rw[hw.1.bo];exact hb) h2 hw.2]
theorem r23settle {s:E_} {d:Aa_} (ht:U64 d.tick) (hx:Iv s) (hb:BkB s.x.book):Jo_ (fS s) d=(fS (Bh_ s d).1,(Bh_ s d).2):=by
 unfold Jo_ Bh_ lt;dsimp only;have e1:Nc_ (fS s).C_ d.name d.id=(fK (Bb_ s.x.C_ d.name d.id).1,(Bb_ s.x.C_ d.name d.id).2):=r21back _ _ _;have e2:Em_ (fS s).C_ d.name d.id=(fK (U_ s.x.C_ d.name d.id).1,(U_ s.x.C_ d.name d.id).2):=Sn_ _ _ _;rw[e1,e2];dsimp only;have hr:=H0_ (n:=d.name) (id:=d.id) hx.1.stk;have hk:=cloH.kr (n:=d.name) (i:=d.id) hx.k;generalize Bb_ s.x.C_ d.name d.id=v;generalize U_ s.x.C_ d.name d.id=w at hr hk ⊢
 cases decide (v.2=0) with
 |false=>rfl
 |true=>
   simp only[Bool.not_true,cond_false]
   cases decide (d.how=2) with
   |true=>rfl
   |false=>
     simp only[cond_false]
     cases decide (d.how=1) with
     |false=>rfl
     |true=>
       simp only[cond_true]
       have :=r23bury (x:=⟨⟨s.x.book,w.1,s.x.notes,s.x.seen,s.x.spent⟩,s.L_,s.place⟩) (gone:=[⟨d.name,w.2.1.O_⟩]) (tick:=d.tick) ht ⟨Ca_ hx.1 hr.1,hk.1⟩ hb ⟨by simp,λg hg=>by rw[List.mem_singleton.1 hg];exact hr.2⟩ (λg hg=>by rw[List.mem_singleton.1 hg];exact hk.2)
       have e:(⟨(fS s).p,(fS s).at_,(fS s).book,fK w.1,(fS s).notes,(fS s).seen,(fS s).spent⟩:F_)=fS ⟨⟨s.x.book,w.1,s.x.notes,s.x.seen,s.x.spent⟩,s.L_,s.place⟩:=rfl
       rw[e,this]
theorem late0 {t:Int} (ht:U64 t):∀ (f:Nat) (gone:List Dv_) (x:E_),Iv x->BkB x.x.book->(∀ g∈gone,MlOk g.O_)->(∀ g∈gone,Wh g.O_)->gone.length+nik x.x.C_<=512->nik x.x.C_<f->Kk_ t f gone (Ah_ x.x.C_ t).1 (Ah_ x.x.C_ t).2.2 (fS x) (Ah_ x.x.C_ t).2.1=(fS (Cq_ t f gone x).1,(Cq_ t f gone x).2)
 |0,_,_,_,_,_,_,_,h=>by omega
 |f+1,gone,x,hx,hb,hg,hw,hl,hf=>by
   unfold Kk_ Cq_ lt
   dsimp only
   obtain⟨r,hr⟩:∃ r,Ah_ x.x.C_ t=r:=⟨_,rfl⟩
   rw[hr]
   cases e:r.2.2 with
   |false=>
     simp only[cond_false,Bool.not_false,cond_true]
     rw[r23bury ht hx hb ⟨by omega,hg⟩ hw]
   |true=>
     simp only[cond_true,Bool.not_true,cond_false]
     have e2:Em_ (fS x).C_ r.1 r.2.1.id=(fK (U_ x.x.C_ r.1 r.2.1.id).1,(U_ x.x.C_ r.1 r.2.1.id).2):=Sn_ _ _ _
     rw[e2]
     have hrm:=H0_ (n:=r.1) (id:=r.2.1.id) hx.1.stk
     have hk:=cloH.kr (n:=r.1) (i:=r.2.1.id) hx.k
     have h1:=Vv_ (gone:=gone) (g:=⟨r.1,r.2.1⟩) hx.1.stk hr e Y hl
     have h2:=Vw_ hx.1.stk hr e Y hf
     have hm1:MlOk r.2.1:=by rw[<- hr];exact Rp_ hx.1.stk
     have hm2:Wh r.2.1:=by rw[<- hr];exact cloH.kt hx.k
     generalize U_ x.x.C_ r.1 r.2.1.id=w at hrm hk h1 h2 ⊢
     have :=late0 ht f (gone++[⟨r.1,r.2.1⟩]) ⟨⟨x.x.book,w.1,x.x.notes,x.x.seen,x.x.spent⟩,x.L_,x.place⟩ ⟨Ca_ hx.1 hrm.1,hk.1⟩ hb (λg q=>by
       rcases List.mem_append.1 q with q|q
       . exact hg g q
       . rw[List.mem_singleton.1 q];exact hm1) (λg q=>by
       rcases List.mem_append.1 q with q|q
       . exact hw g q
       . rw[List.mem_singleton.1 q];exact hm2) h1 h2
     dsimp only
     rw[r21late hk.1.2]
     exact this
theorem r23late {s:E_} {t:Int} (ht:U64 t) (hx:Iv s) (hb:BkB s.x.book):Om_ (fS s) t=(fS (Dz_ s t).1,(Dz_ s t).2):=by
 unfold Om_ Dz_ lt;have e:toK (fS s).C_=s.x.C_:=Xl_ _;have e1:I6_ (fS s).C_ t=Ah_ s.x.C_ t:=r21late hx.2.2 _;rw[e,e1];exact late0 ht _ [] s hx hb (λ_ h=>by cases h) (λ_ h=>by cases h) (by have :=nik_r hx.1.stk;simpa using this) (Nat.lt_succ_self _)
theorem r23pull {s:E_} {d:Aa_} (ht:U64 d.tick) (hx:Iv s) (hb:BkB s.x.book) (hm:Wh d.O_) (h4:d.O_.hops<=4) (hL:∀ y∈s.L_.places,LbOk y.label):Nf_ (fS s) d=(fS (Bp_ s d).1,(Bp_ s d).2):=by
 unfold Nf_ Bp_ lt;dsimp only;have e1:J2_ (fS s).p d.frm (fS s).at_=Bj_ s.L_ d.frm s.place:=r05flows hL _ _;have e2:Et_ (fS s).p d.frm (fS s).at_=T_ s.L_ d.frm s.place:=Sh_ _ _ _;rw[e1,e2];have e3:((fS s).p.places.length:Int)=(s.L_.places.length:Int):=rfl;rw[e3]
 cases decide ((s.L_.places.length:Int)<=d.frm) with
 |true=>rfl
 |false=>
   simp only[cond_false]
   cases (!Bj_ s.L_ d.frm s.place) && decide (T_ s.L_ d.frm s.place<0) with
   |true=>rfl
   |false=>
     simp only[cond_false]
     have e4:(fS s).seen=s.x.seen:=rfl
     rw[e4]
     cases decide (d.number<=A16.get s.x.seen d.frm.toNat) with
     |true=>rfl
     |false=>
       simp only[cond_false]
       have key:∀ x:E_,Iv x->BkB x.x.book ->
           (lp1 ((bif decide (d.O_.hops<4) then
 bif decide ((Ld_ (fS x) ⟨d.O_.id,d.O_.Ak_,d.O_.key,d.O_.head,d.O_.body,d.O_.due,IntKind.wrap .u8 (d.O_.hops+1)⟩ d.tick).2.2=0) then
 Lo.ret ((Ld_ (fS x) ⟨d.O_.id,d.O_.Ak_,d.O_.key,d.O_.head,d.O_.body,d.O_.due,IntKind.wrap .u8 (d.O_.hops+1)⟩ d.tick).1,(Ld_ (fS x) ⟨d.O_.id,d.O_.Ak_,d.O_.key,d.O_.head,d.O_.body,d.O_.due,IntKind.wrap .u8 (d.O_.hops+1)⟩ d.tick).2.1,(0:Int))
 else .fin (⟨d.O_.id,d.O_.Ak_,d.O_.key,d.O_.head,d.O_.body,d.O_.due,IntKind.wrap .u8 (d.O_.hops+1)⟩:Mail)
 else .fin d.O_)) (λx1=>
 (Fb_ (fS x) d.tick 1 x1.Ak_,(⟨⟨⟨0,[],[],[],[],0,0⟩,false,false⟩,0,1⟩:X_),(0:Int))) (λr=>r)) =
           (λc:E_×X_×Int=>(fS c.1,c.2)) (bif ((decide (4<IntKind.wrap .u8 ((H_ d.O_).hops+1)))||(!decide ((P_ x ⟨(H_ d.O_).id,(H_ d.O_).Ak_,(H_ d.O_).key,(H_ d.O_).head,(H_ d.O_).body,(H_ d.O_).due,IntKind.wrap .u8 ((H_ d.O_).hops+1)⟩ d.tick).2.2.2=0))) then
 (A0_ x d.tick 1 (H_ d.O_).Ak_,⟨⟨⟨0,[],[],[],[],0,0⟩,false,false⟩,0,1⟩,0)
 else ((A9_ (P_ x ⟨(H_ d.O_).id,(H_ d.O_).Ak_,(H_ d.O_).key,(H_ d.O_).head,(H_ d.O_).body,(H_ d.O_).due,IntKind.wrap .u8 ((H_ d.O_).hops+1)⟩ d.tick).1 (P_ x ⟨(H_ d.O_).id,(H_ d.O_).Ak_,(H_ d.O_).key,(H_ d.O_).head,(H_ d.O_).body,(H_ d.O_).due,IntKind.wrap .u8 ((H_ d.O_).hops+1)⟩ d.tick).2.1 d.tick).1,⟨⟨⟨0,[],[],[],[],0,0⟩,false,false⟩,(P_ x ⟨(H_ d.O_).id,(H_ d.O_).Ak_,(H_ d.O_).key,(H_ d.O_).head,(H_ d.O_).body,(H_ d.O_).due,IntKind.wrap .u8 ((H_ d.O_).hops+1)⟩ d.tick).2.2.1,(A9_ (P_ x ⟨(H_ d.O_).id,(H_ d.O_).Ak_,(H_ d.O_).key,(H_ d.O_).head,(H_ d.O_).body,(H_ d.O_).due,IntKind.wrap .u8 ((H_ d.O_).hops+1)⟩ d.tick).1 (P_ x ⟨(H_ d.O_).id,(H_ d.O_).Ak_,(H_ d.O_).key,(H_ d.O_).head,(H_ d.O_).body,(H_ d.O_).due,IntKind.wrap .u8 ((H_ d.O_).hops+1)⟩ d.tick).2.1 d.tick).2⟩,0)):=by
         intro x hx hb
         have hn:∀ n,Fb_ (fS x) d.tick 1 n=fS (A0_ x d.tick 1 n):=λn=>Tp_ hx.1.1.2.2.1 _ _ _
         unfold H_
         by_cases c:d.O_.hops<4
         . have hwr:IntKind.wrap .u8 (d.O_.hops+1)=d.O_.hops+1:=by
             have :=hm.1.1.2.2.1
             exact tU
           rw[decide_eq_true c,decide_eq_false (show ¬4<IntKind.wrap .u8 (d.O_.hops+1) by rw[hwr];omega)]
           simp only[cond_true,Bool.false_or]
           rw[r23put ht hx hb (cloH.wp hm)]
           generalize P_ x ⟨d.O_.id,d.O_.Ak_,d.O_.key,d.O_.head,d.O_.body,d.O_.due,IntKind.wrap .u8 (d.O_.hops+1)⟩ d.tick=v
           by_cases q:v.2.2.2=0
           . exact tZ
           . rw[decide_eq_false q]
             simp only[Bool.not_false,cond_true]
             rw[decide_eq_false q]
             simp only[cond_false,lp1]
             rw[hn]
         . have h5:4<IntKind.wrap .u8 (d.O_.hops+1):=by
             have :=hm.1.1.2.2.1
             exact tU
           rw[decide_eq_false c,decide_eq_true h5]
           simp only[cond_false,Bool.true_or,cond_true,lp1]
           rw[hn]
       have hs0:Iv ⟨⟨s.x.book,s.x.C_,s.x.notes,A16.set s.x.seen d.number d.frm.toNat,s.x.spent⟩,s.L_,s.place⟩:=⟨Dk_ hx.1,hx.2⟩
       cases Bj_ s.L_ d.frm s.place with
       |true=>
         simp only[Bool.not_true,cond_false,lt1]
         have e5:(⟨(fS s).p,(fS s).at_,(fS s).book,(fS s).C_,(fS s).notes,A16.set s.x.seen d.number d.frm.toNat,(fS s).spent⟩:F_)=fS ⟨⟨s.x.book,s.x.C_,s.x.notes,A16.set s.x.seen d.number d.frm.toNat,s.x.spent⟩,s.L_,s.place⟩:=rfl
         rw[e5]
         exact key _ hs0 hb
       |false=>
         simp only[Bool.not_false,cond_true,lt1]
         have hn:Fb_ ⟨(fS s).p,(fS s).at_,(fS s).book,(fS s).C_,(fS s).notes,A16.set s.x.seen d.number d.frm.toNat,(fS s).spent⟩ d.tick 2 (gt (fS s).p.places d.frm.toNat).name=fS (A0_ ⟨⟨s.x.book,s.x.C_,s.x.notes,A16.set s.x.seen d.number d.frm.toNat,s.x.spent⟩,s.L_,s.place⟩ d.tick 2 (gt s.L_.places d.frm.toNat).name):=Tp_ (s:=⟨⟨s.x.book,s.x.C_,s.x.notes,A16.set s.x.seen d.number d.frm.toNat,s.x.spent⟩,s.L_,s.place⟩) hx.1.1.2.2.1 _ _ _
         rw[hn]
         have hy:Iv (A0_ ⟨⟨s.x.book,s.x.C_,s.x.notes,A16.set s.x.seen d.number d.frm.toNat,s.x.spent⟩,s.L_,s.place⟩ d.tick 2 (gt s.L_.places d.frm.toNat).name):=⟨(Jy_ hs0.1).1,hx.2⟩
         have hyb:BkB (A0_ ⟨⟨s.x.book,s.x.C_,s.x.notes,A16.set s.x.seen d.number d.frm.toNat,s.x.spent⟩,s.L_,s.place⟩ d.tick 2 (gt s.L_.places d.frm.toNat).name).x.book:=hb
         generalize A0_ ⟨⟨s.x.book,s.x.C_,s.x.notes,A16.set s.x.seen d.number d.frm.toNat,s.x.spent⟩,s.L_,s.place⟩ d.tick 2 (gt s.L_.places d.frm.toNat).name=y at hy hyb ⊢
         exact key y hy hyb
theorem sbg_nd {s:E_} (h:SbG s):(s.x.book.Ad_.map (·.name)).Nodup/\s.x.book.binds.Nodup:=⟨h.1,h.2.1⟩
theorem queue_b (k:I_) (n:Bs):(Ag_ k n).2=!decide (Ct_ (fK k) n<0):=by
 rw[Ns_]
 rcases queue_c k n with ⟨q1,q2⟩|⟨j,q1,hj,q2⟩
 rw[q2,decide_eq_true q1];rfl;rw[q2,q1,decide_eq_false pB];rfl
theorem r23shops {s:E_} {d:Aa_} (hb:BkB s.x.book) (hn:SbG s) (hL:∀ y∈s.L_.places,LbOk y.label) (hk:d.kind=0\/d.kind=1\/d.kind=4\/d.kind=5):K2_ (fS s) d=(fS (Ay_ s d).1,(Ay_ s d).2):=by
 unfold K2_ Ay_ lt;dsimp only;have f1:∀ n,I4_ (fS s).p n=K_ s.L_ n:=λn=>r05find _ _;have f2:∀ r,Et_ (fS s).p (fS s).at_ r=T_ s.L_ s.place r:=λr=>Sh_ _ _ _;have f3:∀ r,J2_ (fS s).p (fS s).at_ r=Bj_ s.L_ s.place r:=λr=>r05flows hL _ _;have f4:M4_ (fS s).book d.Ak_=Bu_ s.x.book d.Ak_:=r14make _ _;have f5:M3_ (fS s).book d.name=Cp_ s.x.book d.name:=r14drop (sbg_nd hn).1 _;have f6:G9_ (fS s).book d.bind=A7_ s.x.book d.bind:=r14bind hb _;have f7:Jm_ (fS s).book d.bind=B4_ s.x.book d.bind:=r14unbind (sbg_nd hn).2 _;have f8:∀ n,(Ag_ s.x.C_ n).2=!decide (Ct_ (fS s).C_ n<0):=λn=>queue_b _ _;simp only[f1,f2,f3,f4,f5,f6,f7,f8]
 rcases hk with e|e|e|e
 simp only[e,decide_true,cond_true];by_cases c:d.Ak_.sort=4
 . simp only[decide_eq_true c,Bool.true_and,cond_true]
   cases decide (K_ s.L_ d.Ak_.to'<0) with
   |true=>rfl
   |false=>
     simp only[cond_false]
     cases decide (T_ s.L_ s.place (K_ s.L_ d.Ak_.to')<0) with
     |true=>rfl
     |false=>rfl
 simp only[decide_eq_false c,Bool.false_and,cond_false];rfl;simp only[e,show ¬(1:Int)=0 by decide,decide_false,decide_true,cond_true,cond_false];rfl
 . simp only[e,show ¬(4:Int)=0 by decide,show ¬(4:Int)=1 by decide,show ¬(4:Int)=5 by decide,decide_false,decide_true,cond_true,cond_false,lt1]
   generalize decide (K_ s.L_ d.bind.to'<0)=a
   generalize decide (Ct_ (fS s).C_ d.bind.to'<0)=b
   cases d.bind.up with
   |true=>
     cases a with
     |true=>simp[lp0]
     |false=>
       simp only[Bool.true_and,Bool.not_true,Bool.false_and,Bool.or_false,cond_false]
       cases Bj_ s.L_ s.place (K_ s.L_ d.bind.to') with
       |true=>rfl
       |false=>rfl
   |false=>
     cases b with
     |true=>simp[lp0]
     |false=>simp[lp0];rfl
 simp only[e,show ¬(5:Int)=0 by decide,show ¬(5:Int)=1 by decide,show ¬(5:Int)=4 by decide,decide_false,decide_true,cond_true,cond_false];rfl
theorem kinds {d:Aa_} (hk:0<=d.kind) (he:De_ d=0):d.kind<=12/\((d.kind=6\/d.kind=10)->Eg_ d.O_=0):=by
 unfold De_ at he;by_cases c:12<d.kind
 . rw[if_pos c] at he;cases he
 rw[if_neg c] at he;refine⟨by omega,λh=>?_⟩;by_cases c1:d≠G8_ d
 . rw[if_pos c1] at he;cases he
 rw[if_neg c1,if_neg pB,if_neg pB,if_neg pB,if_pos h] at he;exact he
theorem err_put (s:E_) (d:Aa_):(Cr_ s d).2.2=0\/Cr_ s d=(s,⟨⟨⟨0,[],[],[],[],0,0⟩,false,false⟩,0,0⟩,(Cr_ s d).2.2):=by
 unfold Cr_ lt;let Q:E_×X_×Int->Prop:=λr=>r.2.2=0\/r=(s,⟨⟨⟨0,[],[],[],[],0,0⟩,false,false⟩,0,0⟩,r.2.2);exact bt (P:=Q) (λ_=> .inr Y) λ_=> .inl Y
theorem err_lend (s:E_) (d:Aa_):(B6_ s d).2.2=0\/B6_ s d=(s,⟨⟨⟨0,[],[],[],[],0,0⟩,false,false⟩,0,0⟩,(B6_ s d).2.2):=by
 unfold B6_ lt;let Q:E_×X_×Int->Prop:=λr=>r.2.2=0\/r=(s,⟨⟨⟨0,[],[],[],[],0,0⟩,false,false⟩,0,0⟩,r.2.2);exact bt (P:=Q) (λ_=> .inr Y) λ_=>bt (P:=Q) (λ_=> .inr Y) λ_=> .inl Y
theorem err_settle (s:E_) (d:Aa_):(Bh_ s d).2.2=0\/Bh_ s d=(s,⟨⟨⟨0,[],[],[],[],0,0⟩,false,false⟩,0,0⟩,(Bh_ s d).2.2):=by
 unfold Bh_ lt;let Q:E_×X_×Int->Prop:=λr=>r.2.2=0\/r=(s,⟨⟨⟨0,[],[],[],[],0,0⟩,false,false⟩,0,0⟩,r.2.2);exact bt (P:=Q) (λ_=> .inr Y) λ_=>bt (P:=Q) (λ_=> .inl Y) λ_=>bt (P:=Q) (λ_=> .inl Y) λ_=> .inl Y
theorem err_pull (s:E_) (d:Aa_):(Bp_ s d).2.2=0\/Bp_ s d=(s,⟨⟨⟨0,[],[],[],[],0,0⟩,false,false⟩,0,0⟩,(Bp_ s d).2.2):=by
 unfold Bp_ lt;let Q:E_×X_×Int->Prop:=λr=>r.2.2=0\/r=(s,⟨⟨⟨0,[],[],[],[],0,0⟩,false,false⟩,0,0⟩,r.2.2);refine bt (P:=Q) (λ_=> .inr Y) λ_=>bt (P:=Q) (λ_=> .inr Y) λ_=>bt (P:=Q) (λ_=> .inr Y) λ_=>?_;exact lt1E (P:=Q) (λ_=>True) Z λ_ _=>bt (P:=Q) (λ_=> .inl Y) λ_=> .inl Y
theorem done_f {s:E_} {v:E_×X_×Int} (h:v.2.2=0\/v=(s,⟨⟨⟨0,[],[],[],[],0,0⟩,false,false⟩,0,0⟩,v.2.2)):(bif !decide (v.2.2=0) then (s,(⟨⟨⟨0,[],[],[],[],0,0⟩,false,false⟩,0,0⟩:X_),v.2.2) else (v.1,v.2.1,0))=v:=by
 by_cases e:v.2.2=0;rw[decide_eq_true e];simp only[Bool.not_true,cond_false];rw[<- e]
 . rw[decide_eq_false e]
   simp only[Bool.not_false,cond_true]
   rcases h with h|h
   exact (e h).elim
   exact h.symm
theorem do_wake (s:E_):(fS ⟨⟨s.x.book,Cs_ s.x.C_,s.x.notes,s.x.seen,s.x.spent⟩,s.L_,s.place⟩)=⟨(fS s).p,(fS s).at_,(fS s).book,Ol_ (fS s).C_,(fS s).notes,(fS s).seen,(fS s).spent⟩:=by
 have :Ol_ (fS s).C_=fK (Cs_ s.x.C_):=r21wake _;rw[this];rfl
theorem r23do {p:G_} {k:Int} {s:E_} {d:Aa_} (h:Rt p k s) (hf:DdF d) (hk:0<=d.kind) (hL:∀ y∈s.L_.places,LbOk y.label):Lf_ (fS s) d=(fS (Ap_ s d).1,(Ap_ s d).2):=by
 have ht:=hf.1;have hx:Iv s:=⟨h.ok,h.b.2.1,h.g⟩;have hb:BkB s.x.book:=h.b.1;unfold Lf_ Ap_ lt lt1 lt3;dsimp only;by_cases he:De_ d=0
 . rw[decide_eq_true he]
   simp only[Bool.not_true,cond_false]
   obtain⟨hk2,hml⟩:=kinds hk he
   have hwm:(d.kind=6\/d.kind=10)->Wh d.O_/\d.O_.hops<=4:=λq=>by
     obtain⟨g1,g2,g3,g4,g5⟩:=Ii_ (hml q)
     exact⟨⟨hf.2.2.2.2.2.1,g3⟩,g5⟩
   obtain⟨n,hn⟩:∃ n:Nat,d.kind=n:=⟨d.kind.toNat,by omega⟩
   have hn2:n<=12:=by omega
   have hsh:(n=0\/n=1\/n=4\/n=5)->K2_ (fS s) d=(fS (Ay_ s d).1,(Ay_ s d).2):=λq=>r23shops hb h.bk hL pB
   have hz:∀ a:E_×Int,(bif !decide (a.2=0) then (fS s,(⟨⟨⟨0,[],[],[],[],0,0⟩,false,false⟩,0,0⟩:X_),a.2) else (fS a.1,⟨⟨⟨0,[],[],[],[],0,0⟩,false,false⟩,0,0⟩,0))=(fS (bif !decide (a.2=0) then (s,(⟨⟨⟨0,[],[],[],[],0,0⟩,false,false⟩,0,0⟩:X_),a.2) else (a.1,(⟨⟨⟨0,[],[],[],[],0,0⟩,false,false⟩,0,0⟩:X_),(0:Int))).1,(bif !decide (a.2=0) then (s,(⟨⟨⟨0,[],[],[],[],0,0⟩,false,false⟩,0,0⟩:X_),a.2) else (a.1,(⟨⟨⟨0,[],[],[],[],0,0⟩,false,false⟩,0,0⟩:X_),(0:Int))).2):=λa=>by
     cases decide (a.2=0)<;>rfl
   match n,hn2,hn,hsh with
   |0,_,hn,hsh=>
     have hn:d.kind=0:=hn
     simp only[hn,show ¬(0:Int)=2 by decide,show ¬(0:Int)=3 by decide,show ¬(0:Int)=6 by decide,show ¬(0:Int)=7 by decide,show ¬(0:Int)=8 by decide,show ¬(0:Int)=9 by decide,show ¬(0:Int)=10 by decide,show ¬(0:Int)=11 by decide,show ¬(0:Int)=12 by decide,decide_false,cond_false]
     rw[hsh pC]
     exact hz (Ay_ s d)
   |1,_,hn,hsh=>
     have hn:d.kind=1:=hn
     simp only[hn,show ¬(1:Int)=2 by decide,show ¬(1:Int)=3 by decide,show ¬(1:Int)=6 by decide,show ¬(1:Int)=7 by decide,show ¬(1:Int)=8 by decide,show ¬(1:Int)=9 by decide,show ¬(1:Int)=10 by decide,show ¬(1:Int)=11 by decide,show ¬(1:Int)=12 by decide,decide_false,cond_false]
     rw[hsh pC]
     exact hz (Ay_ s d)
   |4,_,hn,hsh=>
     have hn:d.kind=4:=hn
     simp only[hn,show ¬(4:Int)=2 by decide,show ¬(4:Int)=3 by decide,show ¬(4:Int)=6 by decide,show ¬(4:Int)=7 by decide,show ¬(4:Int)=8 by decide,show ¬(4:Int)=9 by decide,show ¬(4:Int)=10 by decide,show ¬(4:Int)=11 by decide,show ¬(4:Int)=12 by decide,decide_false,cond_false]
     rw[hsh pC]
     exact hz (Ay_ s d)
   |5,_,hn,hsh=>
     have hn:d.kind=5:=hn
     simp only[hn,show ¬(5:Int)=2 by decide,show ¬(5:Int)=3 by decide,show ¬(5:Int)=6 by decide,show ¬(5:Int)=7 by decide,show ¬(5:Int)=8 by decide,show ¬(5:Int)=9 by decide,show ¬(5:Int)=10 by decide,show ¬(5:Int)=11 by decide,show ¬(5:Int)=12 by decide,decide_false,cond_false]
     rw[hsh pC]
     exact hz (Ay_ s d)
   |2,_,hn,_=>
     have hn:d.kind=2:=hn
     have e1:Ne_ (fS s).C_ d.queue=_:=r21make _ _
     simp only[hn,show (2:Int)=2 by decide,decide_true,cond_true,e1,Bv_,lt]
     exact hz (⟨⟨s.x.book,(A4_ s.x.C_ d.queue).1,s.x.notes,s.x.seen,s.x.spent⟩,s.L_,s.place⟩,(A4_ s.x.C_ d.queue).2)
   |3,_,hn,_=>
     have hn:d.kind=3:=hn
     have e1:Nd_ (fS s).C_ d.name=_:=r21drop h.ok.stk _
     have e2:Ki_ (fS s).book d.name=Cm_ s.x.book d.name:=r14forget _ _
     simp only[hn,show ¬(3:Int)=2 by decide,show (3:Int)=3 by decide,decide_true,decide_false,cond_true,cond_false,e1,e2,Bv_,lt]
     generalize Ax_ s.x.C_ d.name=w
     by_cases c:w.2=0
     . simp only[decide_eq_true c,cond_true,lp2,Bool.not_true,cond_false]
       rfl
     . simp only[decide_eq_false c,cond_false,lp2,Bool.not_false,cond_true]
   |6,_,hn,_=>
     have hn:d.kind=6:=hn
     obtain⟨w1,w2⟩:=hwm (.inl hn)
     simp only[hn,show ¬(6:Int)=2 by decide,show ¬(6:Int)=3 by decide,show (6:Int)=6 by decide,decide_true,decide_false,cond_true,cond_false]
     rw[r23put ht hx hb w1,done_f (err_put s d)]
     unfold Cr_ lt H_
     dsimp only
     cases decide ((P_ s d.O_ d.tick).2.2.2=0)<;>rfl
   |7,_,hn,_=>
     have hn:d.kind=7:=hn
     have e1:Ct_ (fS s).C_ d.name=J_ s.x.C_ d.name:=Ns_ _ _
     have e2:Lq_ (fS s).C_ d.name=_:=r21lend _ _
     simp only[hn,show ¬(7:Int)=2 by decide,show ¬(7:Int)=3 by decide,show ¬(7:Int)=6 by decide,show (7:Int)=7 by decide,decide_true,decide_false,cond_true,cond_false]
     rw[done_f (err_lend s d),e1,e2]
     unfold B6_ lt
     dsimp only
     rcases queue_c s.x.C_ d.name with ⟨q1,q2⟩|⟨j,q1,hj,q2⟩
     . rw[q2,decide_eq_true q1];rfl
     . rw[q2,q1,decide_eq_false pB]
       simp only[Bool.not_true,cond_false]
       cases (Bc_ s.x.C_ d.name).2.2<;>rfl
   |8,_,hn,_=>
     have hn:d.kind=8:=hn
     simp only[hn,show ¬(8:Int)=2 by decide,show ¬(8:Int)=3 by decide,show ¬(8:Int)=6 by decide,show ¬(8:Int)=7 by decide,show (8:Int)=8 by decide,decide_true,decide_false,cond_true,cond_false]
     rw[r23settle ht hx hb,done_f (err_settle s d)]
     rfl
   |9,_,hn,_=>
     have hn:d.kind=9:=hn
     simp only[hn,show ¬(9:Int)=2 by decide,show ¬(9:Int)=3 by decide,show ¬(9:Int)=6 by decide,show ¬(9:Int)=7 by decide,show ¬(9:Int)=8 by decide,show (9:Int)=9 by decide,decide_true,decide_false,cond_true,cond_false,Bool.not_true]
     rw[r23late ht hx hb]
     rfl
   |10,_,hn,_=>
     have hn:d.kind=10:=hn
     obtain⟨w1,w2⟩:=hwm (.inr hn)
     simp only[hn,show ¬(10:Int)=2 by decide,show ¬(10:Int)=3 by decide,show ¬(10:Int)=6 by decide,show ¬(10:Int)=7 by decide,show ¬(10:Int)=8 by decide,show ¬(10:Int)=9 by decide,show (10:Int)=10 by decide,decide_true,decide_false,cond_true,cond_false]
     rw[r23pull ht hx hb w1 w2 hL,done_f (err_pull s d)]
     rfl
   |11,_,hn,_=>
     have hn:d.kind=11:=hn
     simp only[hn,show ¬(11:Int)=2 by decide,show ¬(11:Int)=3 by decide,show ¬(11:Int)=6 by decide,show ¬(11:Int)=7 by decide,show ¬(11:Int)=8 by decide,show ¬(11:Int)=9 by decide,show ¬(11:Int)=10 by decide,show (11:Int)=11 by decide,decide_true,decide_false,cond_true,cond_false,he,Bool.not_true,lp2]
     rw[<- do_wake,Tp_ (s:=⟨⟨s.x.book,Cs_ s.x.C_,s.x.notes,s.x.seen,s.x.spent⟩,s.L_,s.place⟩) h.ok.1.2.2.1]
   |12,_,hn,_=>
     have hn:d.kind=12:=hn
     simp only[hn,show ¬(12:Int)=2 by decide,show ¬(12:Int)=3 by decide,show ¬(12:Int)=6 by decide,show ¬(12:Int)=7 by decide,show ¬(12:Int)=8 by decide,show ¬(12:Int)=9 by decide,show ¬(12:Int)=10 by decide,show ¬(12:Int)=11 by decide,show (12:Int)=12 by decide,decide_true,decide_false,cond_true,cond_false]
     have e1:Nr_ (fS s).notes ⟨d.tick,d.code,d.text⟩=Br_ s.x.notes ⟨d.tick,d.code,d.text⟩:=r19add h.ok.1.2.2.1
     rw[e1]
     exact hz (⟨⟨s.x.book,s.x.C_,(Br_ s.x.notes ⟨d.tick,d.code,d.text⟩).1,s.x.seen,s.x.spent⟩,s.L_,s.place⟩,(Br_ s.x.notes ⟨d.tick,d.code,d.text⟩).2)
   |n+13,q,_,_=>omega
 rw[decide_eq_false he];rfl
def RsOk (q:F_):Prop:=Iv (toS q)/\BkB q.book
def SgOk (k:Q_):Prop:=StkOk (toK k)/\KH (toK k)
theorem rs_g {q:F_} (h:RsOk q):SgOk q.C_:=⟨h.1.1.1.2.1,h.1.2⟩
theorem W3_ {q:F_} (h:RsOk q) {k:Q_} (hk:SgOk k):RsOk ⟨q.p,q.at_,q.book,k,q.notes,q.seen,q.spent⟩:=⟨⟨Ca_ h.1.1 hk.1,hk.2⟩,h.2⟩
theorem sg_rk {k:Q_} (h:SgOk k):RkOk k:=by
 obtain⟨⟨h1,h2,_⟩,h3,_⟩:=h;refine⟨by have :=h1.1;simpa [toK] using this,λr hr=>?_,λi hi=>(h2 i hi).1⟩;have hm:(⟨r.q,⟨r.l⟩⟩:Eu_)∈(toK k).rows:=List.mem_map_of_mem (f:=λr:El_=>(⟨r.q,⟨r.l⟩⟩:Eu_)) hr;have hq:=qcheck_f (h3 _ hm);exact⟨(h1.2.1 _ hm).1,hq.1,hq.2.1⟩
theorem rs_rk {q:F_} (h:RsOk q):RkOk q.C_:=sg_rk (rs_g h)
theorem rs_bk {q:F_} (h:RsOk q):BkOk q.book:=h.1.1.1.1
theorem rs_bb {q:F_} (h:RsOk q):BkB q.book:=h.2
theorem Ou_ {q:F_} (h:RsOk q):q.notes.kept.length<=1000:=Nat.le_trans h.1.1.1.2.2.1 pC
theorem Xi_ {q:F_} (h:RsOk q):PoOk q.p/\0<=q.at_/\q.at_<q.p.places.length:=h.1.1.2
theorem rs_sp {q:F_} (h:RsOk q):∀ i,i<8->0<=(q.spent.get i).count/\(q.spent.get i).count<=16:=h.1.1.1.2.2.2
theorem rs_seen {q:F_} (h:RsOk q) {a:A16_u64}:RsOk ⟨q.p,q.at_,q.book,q.C_,q.notes,a,q.spent⟩:=h
theorem rs_note {q:F_} (h:RsOk q) (t k:Int) (x:Bs):RsOk (Fb_ q t k x)/\(Fb_ q t k x).C_=q.C_:=by
 refine⟨?_,rfl⟩;have :=Tp_ (s:=toS q) h.1.1.1.2.2.1 t k x;rw[fS_to] at this;rw[this];unfold RsOk;rw[toS_f];exact⟨⟨(Jy_ h.1.1).1,h.1.2⟩,h.2⟩
theorem spend_bk (s:E_) (to' t:Int):(Ao_ s to' t).1.x.book=s.x.book:=by
 unfold Ao_ lt;let Q:E_×Int->Prop:=λr=>r.1.x.book=s.x.book;refine bt (P:=Q) (λ_=>rfl) λ_=>?_;exact lt1E (P:=Q) (λ_=>True) Z λ_ _=>bt (P:=Q) (λ_=>rfl) λ_=>rfl
theorem rs_spend {q:F_} (h:RsOk q) {t:Int} (ht:U64 t) (to':Int):RsOk (K3_ q to' t).1:=by
 have :=r23spend (s:=toS q) h.1 (to':=to') ht;rw[fS_to] at this;rw[this];unfold RsOk;rw[toS_f];exact⟨iv_spend h.1 to' t,by show BkB (Ao_ (toS q) to' t).1.x.book;rw[spend_bk];exact h.2⟩
theorem rgrant_in {p:G_} (h:PoOk p) (a b:Int):0<=Et_ p a b->0<=b/\b<p.places.length/\0<=(gt p.grants (Et_ p a b).toNat).budget/\(gt p.grants (Et_ p a b).toNat).budget<=16:=by
 rw[Sh_];exact Zg_ h a b
theorem sg_put {k:Q_} {n:Bs} {m:Mail} (h:SgOk k) (hm:Wf m):SgOk (Mc_ k n m).1:=by
 have :=r21put (k:=toK k) (n:=n) h.1 h.2.1 h.2.2 hm;rw[fK_to] at this;rw[this];unfold SgOk;rw[Xl_];exact⟨(Vf_ h.1 hm.1.2.2.1).1,cloB.kp h.1 h.2.1,(cloG.kp h.1 hm h.2.2).1⟩
theorem sg_raise {k:Q_} {p:Int} {m:Mail} (h:SgOk k) (hm:Wf m):SgOk (Hy_ k p m).1:=by
 have :=r21raise (k:=toK k) (p:=p) h.1 (kw_of h.2.2) hm.2;rw[fK_to] at this;rw[this];unfold SgOk;rw[Xl_];exact⟨(Rq_ h.1).1,cloB.ks h.2.1,cloG.ks hm h.2.2⟩
theorem sg_rem {k:Q_} {n:Bs} {i:Int} (h:SgOk k):SgOk (Em_ k n i).1/\MlOk (Em_ k n i).2.1.O_/\Wh (Em_ k n i).2.1.O_:=by
 have :=Sn_ (toK k) n i;rw[fK_to] at this;rw[this];unfold SgOk;dsimp only;rw[Xl_];exact⟨⟨(H0_ h.1).1,(cloH.kr h.2).1⟩,(H0_ h.1).2,(cloH.kr h.2).2⟩
theorem wh_0 {m:Mail} (h:Wh m):Wh ⟨0,m.Ak_,m.key,m.head,m.body,m.due,m.hops⟩:=cloH.wr h
theorem wh_len {m:Mail} (h:Wh m):m.head.length<=8:=O4_ h.2
theorem rdue_u {d t l:Int} (h:U64 d):U64 (Mg_ d t l):=by
 unfold Mg_;have hw:=H7_ (t+l);exact bt (P:=U64) (λ_=>h) λ_=>bt (P:=U64) (λ_=>h) λ_=>hw
theorem wf_due {m:Mail} (h:Wh m) (t l:Int):Wf ⟨m.id,m.Ak_,m.key,m.head,m.body,Mg_ m.due t l,m.hops⟩:=⟨⟨h.1.1.1,rdue_u h.1.1.2.1,h.1.1.2.2⟩,h.1.2⟩
def TqQ (n:Nat) (v:F_×List Dv_×Int×Int):Prop:=RsOk v.1/\v.2.1.length<=n/\0<=v.2.2.1/\v.2.2.1<=n
theorem toq_f0 {m:Mail} {tick:Int} (hm:Wh m) {n:Nat}:∀ (t:List Bs) (gone:List Dv_) (c:Int) (x:F_),RsOk x->gone.length+t.length<=n->0<=c->c+t.length<=n->TqQ n (Co_ m tick t gone c x)
 |[],gone,c,x,hx,h1,h2,h3=>by
   unfold Co_
   exact⟨hx,by simpa using h1,h2,by simpa using h3⟩
 |q::t,gone,c,x,hx,h1,h2,h3=>by
   simp only[List.length_cons] at h1 h3
   unfold Co_ lt
   refine bt (P:=TqQ n) (λ_=>toq_f0 hm t gone c x hx pB h2 pB) λ_=>?_
   refine bt (P:=TqQ n) (λ_=>⟨hx,Nat.zero_le _,Int.le_refl _,by show (0:Int)<=n;omega⟩) λ_=>?_
   have hs:=W3_ hx (sg_put (n:=q) (rs_g hx) (wf_due hm tick (gt x.C_.rows (Ct_ x.C_ q).toNat).q.life))
   exact bt (P:=TqQ n) (λ_=>toq_f0 hm t _ _ _ hs pO pB pB) λ_=>toq_f0 hm t _ _ _ hs pB pB pB
theorem toq_f {s:F_} {queues:List Bs} {m:Mail} {tick:Int} (hs:RsOk s) (hm:Wh m):TqQ queues.length (Gs_ s queues m tick):=toq_f0 hm queues [] 0 s hs pF (Int.le_refl _) pB
theorem rleads_f {b:Ac_} (Ak_ key:Bs) {h:List Pair} (hb:BkOk b) (hB:BkB b) (he:Du_ h=0):(G4_ b Ak_ key h).1.length<=32/\(G4_ b Ak_ key h).2.1.length<=33/\((G4_ b Ak_ key h).2.2=0->0<=Fa_ b Ak_):=by
 have e:G4_ b Ak_ key h=A8_ b Ak_ key h:=r14leads he hB;have hl:=Rw_ Ak_ key h hb;rw[e];refine⟨hl.1,hl.2,λh0=>?_⟩
 rcases shop_c b Ak_ with ⟨c1,c2⟩|⟨i,c1,_,_⟩
 . exfalso
   unfold A8_ at h0
   rw[c2] at h0
   cases h0
 omega
def SndP (s:F_) (m:Mail) (v:F_×List Dv_×Int×Int):Prop:=RsOk v.1/\(v.2.1.length<=600/\∀ g∈v.2.1,MlOk g.O_)/\(∀ g∈v.2.1,Wh g.O_)/\v.2.1.length<=32/\(v.2.2.2=0->wtk (toK v.1.C_)+wto v.2.1<=wtk (toK s.C_)+32*wtm m)
theorem rsend_f {s:F_} {m:Mail} {tick:Int} (ht:U64 tick) (hs:RsOk s) (hm:Wh m):SndP s m (J4_ s m tick):=by
 have :=r23send (s:=toS s) (m:=m) ht hs.1 hs.2 hm.1 hm.2;rw[fS_to] at this;rw[this];have h1:=Km_ (s:=toS s) (m:=m) (tick:=tick) hs.1.1 hm.1.1.2.2.1;have h2:=Ls_ (s:=toS s) (m:=m) (tick:=tick) hs.1.1;have hw:=Yk_ cloH (tick:=tick) ht hs.1.1 (kw_self hs.1.k) hm hm.1.1.2.2.1;generalize P_ (toS s) m tick=v at h1 h2 hw ⊢;have e:toK (fS v.1).C_=v.1.x.C_:=Xl_ _;unfold SndP;dsimp only;rw[e];refine⟨?_,⟨by omega,h1.2.1⟩,hw.2,h2,h1.2.2⟩;unfold RsOk;rw[toS_f];exact⟨⟨h1.1,hw.1.k⟩,by show BkB v.1.x.book;rw[hw.1.bo];exact hs.2⟩
def SnP (x:F_) (h:Int) (more:List Dv_) (e:Int) (y:F_):Prop:=e=0->h<4/\RsOk y/\(∀ g∈more,MlOk g.O_)/\(∀ g∈more,Wh g.O_)/\more.length<=32/\wtk (toK y.C_)+wto more<=wtk (toK x.C_)+32*33 ^ (5-(h+1).toNat)
theorem snP_1 {x:F_} {h:Int} {m:Mail} {v:F_×List Dv_×Int×Int} (hv:SndP x m v) (h4:h<4) (h0:0<=h) (hm:m.hops=IntKind.wrap .u8 (h+1)):SnP x h v.2.1 v.2.2.2 v.1:=λe=>by
 obtain⟨h1,h2,h3,h5,h6⟩:=hv
 refine⟨h4,h1,h2.2,h3,h5,?_⟩
 have h7:=h6 e
 unfold wtm at h7
 have hw:IntKind.wrap .u8 (h+1)=h+1:=by rw[IntKind.wrap_u8];omega
 rw[hm,hw] at h7
 exact h7
theorem snP_7 {x y:F_} {h:Int} {more:List Dv_}:SnP x h more 7 y:=λe=>by cases e
theorem snP_len {x y:F_} {h e:Int} {more:List Dv_} (hs:SnP x h more e y) (he:e=0):more.length<=32:=(hs he).2.2.2.2.1
def RbI (gone:List Dv_) (lost i:Int) (x:F_):Prop:=RsOk x/\0<=i/\0<=lost/\i+lost+2*((wtk (toK x.C_)+wto (gone.drop i.toNat):Nat):Int)<=150000000000/\gone.length<=i.toNat+(gone.drop i.toNat).length/\(∀ g∈gone.drop i.toNat,MlOk g.O_)/\∀ g∈gone.drop i.toNat,Wh g.O_
theorem rbI0 {gone:List Dv_} {x:F_} (h:RsOk x) (hg:gone.length<=600/\∀ g∈gone,MlOk g.O_) (hw:∀ g∈gone,Wh g.O_):RbI gone 0 0 x:=by
 have h1:=wtk_r (rs_g h).1;have h2:=(wto_r gone).2;refine⟨h,Int.le_refl _,Int.le_refl _,?_,by simp,hg.2,hw⟩;show (0:Int)+0+2*((wtk (toK x.C_)+wto gone:Nat):Int)<=_;have :=hg.1;omega
section
variable {gone more:List Dv_} {lost i e:Int} {x y:F_} {f:Nat}
theorem rbI_rs (h:RbI gone lost i x):RsOk x:=h.1
theorem rbI_0 (h:RbI gone lost i x):0<=i/\0<=lost/\i+lost<=150000000000/\gone.length<=150000000000:=by
 obtain⟨_,h1,h2,h3,h4,_⟩:=h;have :=(wto_r (gone.drop i.toNat)).1;omega
theorem Tq_ (hn:i<gone.length) (h0:0<=i):gone.drop i.toNat=gt gone i.toNat::gone.drop (i+1).toNat:=by
 have :(i+1).toNat=i.toNat+1:=by omega
 rw[this];exact Cz_ pB
theorem Us_ (a:Dv_) (l:List Dv_):wto (a::l)=wtm a.O_+wto l:=by simp[wto]
theorem rbI_at (h:RbI gone lost i x) (hn:i<gone.length):MlOk (gt gone i.toNat).O_/\Wh (gt gone i.toNat).O_:=by
 obtain⟨_,h1,h2,h3,h4,h5,h6⟩:=h;rw[Tq_ hn h1] at h5 h6;exact⟨h5 _ pF,h6 _ pF⟩
theorem rbmu_a (h:RbI gone lost i x) (hn:i<gone.length) (hf:wtk (toK x.C_)+wto (gone.drop i.toNat)<f+1):wtk (toK x.C_)+wto (gone.drop (i+1).toNat)<f:=by
 rw[Tq_ hn h.2.1,Us_] at hf;have :=(wtm_r (gt gone i.toNat).O_).1;omega
theorem rbI_a (h:RbI gone lost i x) (hn:i<gone.length):RbI gone lost (i+1) x:=by
 obtain⟨h0,h1,h2,h3,h4,h5,h6⟩:=h;rw[Tq_ hn h1] at h3 h4 h5 h6;rw[Us_] at h3;have :=(wtm_r (gt gone i.toNat).O_).1;simp only[List.length_cons] at h4;exact⟨h0,by omega,h2,by omega,by omega,λg q=>h5 g pV,λg q=>h6 g pV⟩
theorem rbmu_b {t k:Int} {n:Bs} (h:RbI gone lost i x) (hn:i<gone.length) (hr:y=Fb_ x t k n) (hf:wtk (toK x.C_)+wto (gone.drop i.toNat)<f+1):wtk (toK y.C_)+wto (gone.drop (i+1).toNat)<f:=by
 have :y.C_=x.C_:=by rw[hr];rfl
 rw[this];exact rbmu_a h hn hf
theorem rbI_b {t k:Int} {n:Bs} (h:RbI gone lost i x) (hn:i<gone.length) (hr:y=Fb_ x t k n):RbI gone (lost+1) (i+1) y:=by
 have hs:y.C_=x.C_:=by rw[hr];rfl
 have hy:RsOk y:=by rw[hr];exact (rs_note h.1 _ _ _).1
 obtain⟨h0,h1,h2,h3,h4,h5,h6⟩:=h;rw[Tq_ hn h1] at h3 h4 h5 h6;rw[Us_] at h3;have :=(wtm_r (gt gone i.toNat).O_).1;simp only[List.length_cons] at h4;exact⟨hy,by omega,by omega,by rw[hs];omega,by omega,λg q=>h5 g pV,λg q=>h6 g pV⟩
theorem rb_w {h:Int} {m:Mail} (hm:m.hops=h) (h0:0<=h) (h4:h<4):33*33 ^ (5-(h+1).toNat)=wtm m:=by
 unfold wtm;rw[hm];have :5-h.toNat=(5-(h+1).toNat)+1:=by omega
 rw[this,Nat.pow_succ,Nat.mul_comm]
theorem rbmu_c (h:RbI gone lost i x) (hn:i<gone.length) (hs:SnP x (gt gone i.toNat).O_.hops more e y) (he:e=0) (hf:wtk (toK x.C_)+wto (gone.drop i.toNat)<f+1):wtk (toK y.C_)+wto ((gone++more).drop (i+1).toNat)<f:=by
 obtain⟨k1,k2,k3,k4,k5,k6⟩:=hs he;have hm:=(rbI_at h hn).1;have hw:=rb_w Y hm.2.1 k1;have h1:=h.2.1;rw[Tq_ hn h1,Us_] at hf;rw[List.drop_append_of_le_length pB,wto_app];have h6:1<=33 ^ (5-((gt gone i.toNat).O_.hops+1).toNat):=Nat.one_le_pow _ _ pC;omega
theorem rbI_c (h:RbI gone lost i x) (hn:i<gone.length) (hs:SnP x (gt gone i.toNat).O_.hops more e y) (he:e=0):RbI (gone++more) lost (i+1) y:=by
 have hmu:=rbmu_c (f:=wtk (toK x.C_)+wto (gone.drop i.toNat)) h hn hs he (Nat.lt_succ_self _);obtain⟨k1,k2,k3,k4,k5,k6⟩:=hs he;obtain⟨h0,h1,h2,h3,h4,h5,h6⟩:=h;have hd:(gone++more).drop (i+1).toNat=gone.drop (i+1).toNat++more:=List.drop_append_of_le_length pB;rw[Tq_ hn h1] at h5 h6;refine⟨k2,by omega,h2,by omega,?_,λg q=>?_,λg q=>?_⟩;rw[List.length_drop];omega
 . rw[hd] at q
   rcases List.mem_append.1 q with q|q
   exact h5 g pV
   exact k3 g q
 . rw[hd] at q
   rcases List.mem_append.1 q with q|q
   exact h6 g pV
   exact k4 g q
end
def RlI (tick:Int) (gone:List Dv_) (name:Bs) (ok:Bool) (x:F_) (m:Mail):Prop:=RsOk x/\Ah_ (toK x.C_) tick=(name,m,ok)/\(∀ g∈gone,MlOk g.O_)/\(∀ g∈gone,Wh g.O_)/\gone.length+nik (toK x.C_)<=512
theorem rlate_eq {x:F_} (h:RsOk x) (t:Int):I6_ x.C_ t=Ah_ (toK x.C_) t:=by
 have :=r21late (k:=toK x.C_) h.1.2.2 t;rw[fK_to] at this;exact this
theorem rlI0 {s:F_} {t:Int} {r:Bs×Mail×Bool} (h:RsOk s) (hr:r=I6_ s.C_ t):RlI t [] r.1 r.2.2 s r.2.1:=by
 refine⟨h,?_,(λ_ q=>by cases q),(λ_ q=>by cases q),?_⟩
 rw[hr,rlate_eq h];have :=nik_r (rs_g h).1;exact rC
section
variable {t:Int} {gone:List Dv_} {name:Bs} {ok:Bool} {x:F_} {m:Mail} {f:Nat} {r1:Q_×D_×Int} {r2:Bs×Mail×Bool}
theorem rl_rem (h:RsOk x) (hr:r1=Em_ x.C_ name m.id):toK r1.1=(U_ (toK x.C_) name m.id).1/\r1.2=(U_ (toK x.C_) name m.id).2:=by
 have :=Sn_ (toK x.C_) name m.id;rw[fK_to] at this;rw[hr,this];exact⟨Xl_ _,rfl⟩
theorem rlmu (h:RlI t gone name ok x m) (hk:ok=true) (hr:r1=Em_ x.C_ name m.id) (hf:nik (toK x.C_)<f+1):nik (toK r1.1)<f:=by
 rw[(rl_rem h.1 hr).1];exact Vw_ (rs_g h.1).1 h.2.1 hk Y hf
theorem rlI_s (h:RlI t gone name ok x m) (hk:ok=true) (hr:r1=Em_ x.C_ name m.id) (h2:r2=I6_ r1.1 t):RlI t (gone++[(⟨name,m⟩:Dv_)]) r2.1 r2.2.2 ⟨x.p,x.at_,x.book,r1.1,x.notes,x.seen,x.spent⟩ r2.2.1:=by
 have e1:=(rl_rem h.1 hr).1;have hl:=Vv_ (gone:=gone) (g:=⟨name,m⟩) (rs_g h.1).1 h.2.1 hk Y h.2.2.2.2;have hg:SgOk r1.1:=by rw[hr];exact (sg_rem (rs_g h.1)).1
 have hx:=W3_ h.1 hg;have hm1:MlOk m:=by
   have :=Rp_ (t:=t) (rs_g h.1).1
   rw[h.2.1] at this;exact this
 have hm2:Wh m:=by
   have :=cloH.kt (t:=t) (rs_g h.1).2
   rw[h.2.1] at this;exact this
 refine⟨hx,?_,λg q=>?_,λg q=>?_,?_⟩;have :=rlate_eq hx t;rw[h2];exact this.symm
 . rcases List.mem_append.1 q with q|q
   exact h.2.2.1 g q
   rw[List.mem_singleton.1 q];exact hm1
 . rcases List.mem_append.1 q with q|q
   exact h.2.2.2.1 g q
   rw[List.mem_singleton.1 q];exact hm2
 show (gone++[(⟨name,m⟩:Dv_)]).length+nik (toK r1.1)<=512;rw[e1];exact hl
end
def DgG (d:Aa_):Prop:=DdF d/\0<=d.kind
theorem dd_m {d:Aa_} (h:DgG d) (he:De_ d=0) (hk:d.kind=6\/d.kind=10):Wh d.O_/\d.O_.key.length<=1000:=by
 obtain⟨g1,g2,g3,g4,g5⟩:=Ii_ ((kinds h.2 he).2 hk);exact⟨⟨h.1.2.2.2.2.2.1,g3⟩,by omega⟩
theorem Z1_ {p:G_} (h:(PV.agg (G_.pc p)).wf):∀ y∈p.places,U64 y.base:=λy hy=>by
 have :=h.2.2.1.2 y hy
 exact this.2.2.2.2.1
theorem lb_of {p:G_} (h:(PV.agg (G_.pc p)).wf):∀ y∈p.places,LbOk y.label:=λy hy=>by
 have :=h.2.2.1.2 y hy
 exact⟨this.2.2.1,this.2.1⟩
theorem deed_g {l:List Aa_} {k:Nat} {d:Aa_} (h:(PV.sl Aa_.pc l).wf) (hd:l[k]? = some d):DgG d:=by
 refine⟨deed_f h hd,?_⟩;exact (Aa_.pwf (h.2 d (List.mem_of_getElem? hd))).1.1
theorem plays_new {p q:G_} {k:Int} {s:E_} {z:F_} (h1:s=Cd_ p k) (h2:q=Fh_ p) (h3:z=Pj_ q k):z=fS s:=by
 subst h1;subst h2;subst h3;rw[to_eq];unfold Pj_ Wx_ Cd_ lt D4_ E3_ fS fK;dsimp only;rw[Int.max_comm];rfl
theorem Jx_ {p q:G_} {k:Int} (h:0<=k/\k<p.places.length) (e:q=Fh_ p):0<=k/\k<q.places.length:=by
 subst e;rw[to_eq];exact h
theorem plays_do {p:G_} {k:Int} {s:E_} {q:F_} {d:Aa_} {t:E_×X_×Int} {u:F_×X_×Int} (h:Rt p k s) (hq:q=fS s) (hd:DgG d) (hL:∀ y∈p.places,LbOk y.label) (e1:t=Ap_ s d) (e2:u=Lf_ q d):u=(fS t.1,t.2):=by
 subst e1;subst e2;subst hq;exact r23do h hd.1 hd.2 (by rw[h.po];exact hL)
theorem W2_ {p:G_} {k:Int} {s:E_} {q:F_} (h:Rt p k s) (hq:q=fS s):RsOk q:=by
 subst hq;unfold RsOk;rw[toS_f];exact⟨⟨h.ok,h.b.2.1,h.g⟩,h.b.1⟩
theorem rt_pr {p:G_} {k:Int} {s:E_} {x:Cb_} (h:Rt p k s) (e:x=Al_ s):PrOk x/\BkB x.book:=by
 subst e;exact⟨h.ok.1,h.b.1⟩
def Dg_ (p:G_) (r:Int):List Aa_->E_->F_->Bool
 |[],x,x1=>lt (Al_ x) λr8=>
 lt (D4_ p r r8) λr9=>
 lt (Al_ r9) λr10=>
 lt (Al_ x) λr11=>
 (H1_ r10 r11)
 |x2::t,x,x1=>lt (Ap_ x x2) λr4=>
 lt (Lf_ x1 x2) λr5=>
 (bif ((((!decide (r4.2.2=r5.2.2))||(!(I1_ (Lv_ r4.2.1) (r5.2.1))))||(!(Kr_ (Jh_ (Al_ r4.1) x1.p r) (r5.1))))||(!(Kr_ (Jh_ (Al_ x) x1.p r) x1))) then
 false
 else lt (Al_ x) λr6=>
 lt (Al_ r4.1) λr7=>
 (bif !((H1_ r6 r7)==(Kr_ x1 (r5.1))) then
 false
 else Dg_ p r t r4.1 (r5.1)))
def Iz_ (p:G_) (place:Int) (l:List Aa_):Bool:=
 (bif !(O6_) then
 false
 else (bif ((!(Nl_ p))||(!(L3_ l))) then
 true
 else lt (Xz_ p place) λr=>
 lt (Cd_ p r) λr1=>
 lt (Fh_ p) λr2=>
 lt (Pj_ r2 r) λr3=>
 Dg_ p r l r1 r3))
inductive EqL {α:Type _} (F G:Nat->α):List Nat->Prop
 |nil:EqL F G []
 |cons {k:Nat} {l:List Nat}:F k=G k->EqL F G l->EqL F G (k::l)
theorem EqL.map {α:Type _} {F G:Nat->α}:∀ {l:List Nat},EqL F G l->l.map F=l.map G
 |[],_=>rfl
 |k::l, .cons h hl=>by rw[List.map_cons,List.map_cons,h,hl.map]
variable {P:Program} {n:Nat} {N:Rest} {H0:Env} {fF:Nat->PV} {fL:Nat->Blk}
theorem nZ {ι:Type _} {keep kL:List Nat} {G:Nat->PV} {GL:Nat->Blk} {lv:ι->List (Nat×PV)} {lL:ι->List (Nat×Blk)} {Φ:ι->Prop} {μ:ι->Nat} {m:Nat} {ks:List Kt} {Q:Qs} (x':ι) (hΦ:Φ x') (h3:AllF fF (lv x')) (h4:AllL fL (lL x'))
   (h1:EqL fF G keep:=by ((repeat' (first|exact EqL.nil|refine EqL.cons ?_ ?_))<;>(conv=>lhs;whnf)<;>(conv=>rhs;whnf)<;>exact Y))
   (h2:EqL fL GL kL:=by ((repeat' (first|exact EqL.nil|refine EqL.cons ?_ ?_))<;>(conv=>lhs;whnf)<;>(conv=>rhs;whnf)<;>exact Y))
   (hm:μ x'<m:=by decide):Hd P n N H0 Q (.ex .normal) (.lp (LJ (λx=>⟨mkF (lv x) keep G,mkL (lL x) kL GL⟩) Φ μ m)::ks) ⟨fF,fL⟩:=next x' h1.map h2.map h3 h4 hm hΦ
theorem nY {ι:Type _} {keep kL:List Nat} {G:Nat->PV} {GL:Nat->Blk} {lv:ι->List (Nat×PV)} {lL:ι->List (Nat×Blk)} {Φ:ι->Prop} {μ:ι->Nat} {m:Nat} {ks:List Kt} {Q:Qs} (x':ι) (h3:AllF fF (lv x')) (h4:AllL fL (lL x')) (hm:μ x'<m) (hΦ:Φ x')
   (h1:EqL fF G keep:=by ((repeat' (first|exact EqL.nil|refine EqL.cons ?_ ?_))<;>(conv=>lhs;whnf)<;>(conv=>rhs;whnf)<;>exact Y))
   (h2:EqL fL GL kL:=by ((repeat' (first|exact EqL.nil|refine EqL.cons ?_ ?_))<;>(conv=>lhs;whnf)<;>(conv=>rhs;whnf)<;>exact Y)):Hd P n N H0 Q (.ex .normal) (.lp (LJ (λx=>⟨mkF (lv x) keep G,mkL (lL x) kL GL⟩) Φ μ m)::ks) ⟨fF,fL⟩:=next x' h1.map h2.map h3 h4 hm hΦ
end Go.SW.V
namespace Go.SW.V
open Go.SW
theorem Sj_ (b:Ac_) (n:Bs):-1<=Fa_ b n/\Fa_ b n<b.Ad_.length:=by
 have :Fa_ b n=idxP (λs:Z_=>decide (s.name=n)) b.Ad_:=Qi_ _ (Hg_ n) (λ_=>rfl) (λ_ _ _=>rfl) b.Ad_ 0;rw[this];exact Io_ _ _
theorem Wr_ (l:List Bs) (s:Bs):∀ (f v:Nat),l.length-v<f->v<=l.length->(Jn_ l s f v).length<=l.length+1
 |0,v,h,_=>by omega
 |f+1,v,h,hv=>by
   unfold Jn_
   let Q:List Bs->Prop:=λr=>r.length<=l.length+1
   refine bt (P:=Q) (λe=>?_) λ_=>?_
   . simp only[decide_eq_true_eq] at e
     exact bt (P:=Q) (λ_=>Nat.le_succ _) λ_=>Wr_ l s f (v+1) pB pB
   . show (l++[s]).length<=l.length+1
     simp
theorem Yd_ (l:List Bs) (s:Bs):(Nq_ l s).length<=l.length+1:=Wr_ l s _ 0 pB pB
theorem Mf_ (s:Q_) (n:Bs):-1<=Ct_ s n/\Ct_ s n<s.rows.length:=by
 have :Ct_ s n=idxP (λx:El_=>decide (x.q.name=n)) s.rows:=Qi_ _ (Hm_ n) (λ_=>rfl) (λ_ _ _=>rfl) s.rows 0;rw[this];exact Io_ _ _
theorem rkwith0 (s:Q_) (k:Int) (l:List D_) (hl:l.length<=64):∀ (t:List El_) (i:Nat) (out:List El_),(∀ r∈t,r.l.length<=64/\r.q.name.length<=16/\r.q.dead.length<=16)->(∀ r∈out,r.l.length<=64/\r.q.name.length<=16/\r.q.dead.length<=16) ->
   (D6_ s k l t i out).rises=s.rises/\(D6_ s k l t i out).rows.length=out.length+t.length/\∀ r∈(D6_ s k l t i out).rows,r.l.length<=64/\r.q.name.length<=16/\r.q.dead.length<=16
 |[],i,out,_,ho=>by rw[D6_];exact⟨rfl,by simp,ho⟩
 |x::t,i,out,ht,ho=>by
   rw[D6_]
   let Q:Q_->Prop:=λz=>z.rises=s.rises/\z.rows.length=out.length+(x::t).length/\∀ r∈z.rows,r.l.length<=64/\r.q.name.length<=16/\r.q.dead.length<=16
   have hx:=ht x pF
   refine bt (P:=Q) (λ_=>?_) λ_=>?_
   . obtain ⟨h1,h2,h3⟩:=rkwith0 s k l hl t (i+1) (out++[⟨x.q,l⟩]) (λr hr=>ht r (by simp [hr])) (λr hr=>by
       rcases List.mem_append.1 hr with q|q
       . exact ho r q
       . rw[List.mem_singleton.1 q];exact⟨hl,hx.2⟩)
     exact⟨h1,by rw[h2];simp;omega,h3⟩
   . obtain ⟨h1,h2,h3⟩:=rkwith0 s k l hl t (i+1) (out++[x]) (λr hr=>ht r (by simp [hr])) (λr hr=>by
       rcases List.mem_append.1 hr with q|q
       . exact ho r q
       . rw[List.mem_singleton.1 q];exact hx)
     exact⟨h1,by rw[h2];simp;omega,h3⟩
theorem rkwith {s:Q_} {k:Int} {l:List D_} (h:RkOk s) (hl:l.length<=64):RkOk (D2_ s k l):=by
 obtain⟨h1,h2,h3⟩:=rkwith0 s k l hl s.rows 0 [] h.2.1 (λ_ h=>by cases h)
 refine⟨?_,h3,λi hi=>?_⟩;have :(D2_ s k l).rows.length=0+s.rows.length:=h2;have :=h.1;omega;have :(D2_ s k l).rises=s.rises:=h1;rw[this];exact h.2.2 i hi
theorem rkwith_len (s:Q_) (k:Int) (l:List D_) (h:RkOk s) (hl:l.length<=64):(D2_ s k l).rows.length=s.rows.length:=by
 have :=(rkwith0 s k l hl s.rows 0 [] h.2.1 (λ_ h=>by cases h)).2.1
 have h2:(D2_ s k l).rows.length=0+s.rows.length:=this;omega
theorem r20put_len {x:Aj_} {m:Mail} (h:x.kept.length<=16):(Ir_ x m).1.kept.length<=16:=by
 unfold Ir_ lt1;let Q:Aj_×Int->Prop:=λr=>r.1.kept.length<=16;refine bt (P:=Q) (λ_=>h) λ_=>bt (P:=Q) (λ_=>?_) λe=>?_;show ((x.kept++[m]).drop 1).length<=16;simp;exact h;simp only[decide_eq_false_iff_not] at e;show (x.kept++[m]).length<=16;omega
theorem rkrises {s:Q_} (h:RkOk s) {x:Aj_} (hx:x.kept.length<=16) {i:Nat} (hi:i<16):RkOk ⟨s.next,s.most,s.rows,A16.set s.rises x i⟩:=by
 refine⟨h.1,h.2.1,λj hj=>?_⟩;show (A16.get (A16.set s.rises x i) j).kept.length<=16;rw[A16.get_set _ _ _ _ hi hj];by_cases q:j=i;rw[if_pos q];exact hx;rw[if_neg q];exact h.2.2 j hj
end Go.SW.V
namespace Go.Proofs
open Go.Shelf
def Tryz.lays229_ren:Go.Shelf.Ren:=⟨λ|229=>352|n=>n,λ|9=>9|40=>464|31=>350|152=>488|3=>3|0=>0|4=>4|21=>21|154=>490|n=>n,λ|n=>n⟩
theorem Tryz.lays229:Go.Proofs.Lays.n229 prog Tryz.lays229_ren:={
 mixed:=by kernel_rfl
 f229:=func352.trans (congrArg some pD)
 t0:=underlying0
 a0:=isAgg0
 z0:=sizeOf0
 v0:=zeroValue0
 t3:=underlying3
 a3:=isAgg3
 z3:=sizeOf3
 v3:=zeroValue3
 t4:=underlying4
 a4:=isAgg4
 z4:=sizeOf4
 v4:=zeroValue4
 t9:=underlying9
 a9:=isAgg9
 z9:=sizeOf9
 v9:=zeroValue9
 t21:=underlying21
 a21:=isAgg21
 z21:=sizeOf21
 v21:=zeroValue21
 t31:=underlying350
 a31:=isAgg350
 z31:=sizeOf350
 v31:=zeroValue350
 t40:=underlying464
 a40:=isAgg464
 z40:=sizeOf464
 v40:=zeroValue464
 t152:=underlying488
 a152:=isAgg488
 z152:=sizeOf488
 v152:=zeroValue488
 t154:=underlying490
 a154:=isAgg490
 z154:=sizeOf490
 v154:=zeroValue490}
open Go.RowKit Go.Lib in
theorem Tryz.strings_FieldsFunc (g:Nat) (lb:Array Value) (eg:∀ args w,(callFunc g args).run prog w = .ok (.enter g args) w) (p:Nat->Bool) (s:ByteArray) (w:World) (hs:s.size<=4294967296) (hp:PredAt prog g lb encR p w) :
   Calls prog 352 #[.string s, .func (.func g) #[] lb] w λe w'=>∃ A,e = .returned (.slice (some ⟨A,0,none⟩) (Lib.goFieldsP p s).length (Lib.goFieldsP p s).length)/\w.heap.size<=A /\
     w'.ownsRow w.heap.size 9 1 (.slice (some ⟨A,0,none⟩) (Lib.goFieldsP p s).length (Lib.goFieldsP p s).length) (Lib.goFieldsP p s).length ((Lib.goFieldsP p s).map Value.string)/\Below w.heap.size w w':=Any.strings_FieldsFunc Tryz.lays229 g lb eg p s w hs hp pD pD
def Tryz.laysPu14_ren:Go.Shelf.Ren:=⟨λ|14=>402|16=>413|17=>414|19=>417|20=>418|21=>419|22=>420|23=>421|24=>422|25=>423|27=>425|26=>424|28=>426|29=>427|30=>428|31=>429|32=>430|33=>431|35=>433|34=>432|36=>434|37=>435|38=>436|39=>437|40=>438|n=>n,λ|9=>9|3=>3|22=>36|24=>317|25=>506|4=>4|34=>519|5=>5|36=>329|37=>313|0=>0|39=>521|21=>21|44=>525|47=>411|50=>529|48=>527|2=>2|52=>531|55=>533|59=>536|60=>126|20=>20|61=>537|65=>540|66=>541|67=>189|n=>n,λ|0=>3|1=>4|2=>5|3=>6|4=>7|n=>n⟩
theorem Tryz.laysPu14:Go.Proofs.LaysPu.n14 prog Tryz.laysPu14_ren:={
 mixed:=by kernel_rfl
 f14:=func402.trans (congrArg some pD)
 f16:=func413.trans (congrArg some pD)
 f17:=func414.trans (congrArg some pD)
 f19:=func417.trans (congrArg some pD)
 f20:=func418.trans (congrArg some pD)
 f21:=func419.trans (congrArg some pD)
 f22:=func420.trans (congrArg some pD)
 f23:=func421.trans (congrArg some pD)
 f24:=func422.trans (congrArg some pD)
 f25:=func423.trans (congrArg some pD)
 f26:=func424.trans (congrArg some pD)
 f27:=func425.trans (congrArg some pD)
 f28:=func426.trans (congrArg some pD)
 f29:=func427.trans (congrArg some pD)
 f30:=func428.trans (congrArg some pD)
 f31:=func429.trans (congrArg some pD)
 f32:=func430.trans (congrArg some pD)
 f33:=func431.trans (congrArg some pD)
 f34:=func432.trans (congrArg some pD)
 f35:=func433.trans (congrArg some pD)
 f36:=func434.trans (congrArg some pD)
 f37:=func435.trans (congrArg some pD)
 f38:=func436.trans (congrArg some pD)
 f39:=func437.trans (congrArg some pD)
 f40:=func438.trans (congrArg some pD)
 t0:=underlying0
 a0:=isAgg0
 z0:=sizeOf0
 v0:=zeroValue0
 i0:=by kernel_rfl
 t2:=underlying2
 a2:=isAgg2
 z2:=sizeOf2
 v2:=zeroValue2
 i2:=by kernel_rfl
 t3:=underlying3
 a3:=isAgg3
 z3:=sizeOf3
 v3:=zeroValue3
 i3:=by kernel_rfl
 t4:=underlying4
 a4:=isAgg4
 z4:=sizeOf4
 v4:=zeroValue4
 i4:=by kernel_rfl
 t5:=underlying5
 a5:=isAgg5
 z5:=sizeOf5
 v5:=zeroValue5
 i5:=by kernel_rfl
 t9:=underlying9
 a9:=isAgg9
 z9:=sizeOf9
 v9:=zeroValue9
 i9:=by kernel_rfl
 t20:=underlying20
 a20:=isAgg20
 z20:=sizeOf20
 v20:=zeroValue20
 i20:=by kernel_rfl
 t21:=underlying21
 a21:=isAgg21
 z21:=sizeOf21
 v21:=zeroValue21
 i21:=by kernel_rfl
 t22:=underlying36
 a22:=isAgg36
 z22:=sizeOf36
 v22:=zeroValue36
 i22:=by kernel_rfl
 t24:=underlying317
 a24:=isAgg317
 z24:=sizeOf317
 v24:=zeroValue317
 i24:=by kernel_rfl
 t25:=underlying506
 a25:=isAgg506
 z25:=sizeOf506
 v25:=zeroValue506
 i25:=by kernel_rfl
 t34:=underlying519
 a34:=isAgg519
 z34:=sizeOf519
 v34:=zeroValue519
 i34:=by kernel_rfl
 c34:=by kernel_rfl
 t36:=underlying329
 a36:=isAgg329
 z36:=sizeOf329
 v36:=zeroValue329
 i36:=by kernel_rfl
 t37:=underlying313
 a37:=isAgg313
 z37:=sizeOf313
 v37:=zeroValue313
 i37:=by kernel_rfl
 t39:=underlying521
 a39:=isAgg521
 z39:=sizeOf521
 v39:=zeroValue521
 i39:=by kernel_rfl
 t44:=underlying525
 a44:=isAgg525
 z44:=sizeOf525
 v44:=zeroValue525
 i44:=by kernel_rfl
 t47:=underlying411
 a47:=isAgg411
 z47:=sizeOf411
 v47:=zeroValue411
 i47:=by kernel_rfl
 t48:=underlying527
 a48:=isAgg527
 z48:=sizeOf527
 v48:=zeroValue527
 i48:=by kernel_rfl
 t50:=underlying529
 a50:=isAgg529
 z50:=sizeOf529
 v50:=zeroValue529
 i50:=by kernel_rfl
 t52:=underlying531
 a52:=isAgg531
 z52:=sizeOf531
 v52:=zeroValue531
 i52:=by kernel_rfl
 t55:=underlying533
 a55:=isAgg533
 z55:=sizeOf533
 v55:=zeroValue533
 i55:=by kernel_rfl
 t59:=underlying536
 a59:=isAgg536
 z59:=sizeOf536
 v59:=zeroValue536
 i59:=by kernel_rfl
 t60:=underlying126
 a60:=isAgg126
 z60:=sizeOf126
 v60:=zeroValue126
 i60:=by kernel_rfl
 t61:=underlying537
 a61:=isAgg537
 z61:=sizeOf537
 t65:=underlying540
 a65:=isAgg540
 z65:=sizeOf540
 v65:=zeroValue540
 i65:=by kernel_rfl
 t66:=underlying541
 a66:=isAgg541
 z66:=sizeOf541
 v66:=zeroValue541
 i66:=by kernel_rfl
 t67:=underlying189
 a67:=isAgg189
 z67:=sizeOf189
 v67:=zeroValue189
 i67:=by kernel_rfl
 g0:=by kernel_rfl
 m0:=by kernel_rfl
 g1:=by kernel_rfl
 m1:=by kernel_rfl
 g2:=by kernel_rfl
 m2:=by kernel_rfl
 g3:=by kernel_rfl
 m3:=by kernel_rfl
 g4:=by kernel_rfl
 m4:=by kernel_rfl}
open Go.RowKit Go.Lib in
theorem Tryz.strconv_ParseUint_10_at64_ok (s:ByteArray) (hmax:s.size<=9223372036854775806) (u:Nat) (h:Lib.parseUintB 64 s.data.toList = .ok u) (w:World) :
   Calls prog 402 #[.string s, .int .i64 10, .int .i64 64] w λe w'=>e = .returned (.tuple #[.int .u64 u, .nilIface])/\(w'=w\/w'=Lib.bytesWorld w 5 s):=Any.strconv_ParseUint_10_at64_ok Tryz.laysPu14 s hmax u h w
open Go.RowKit Go.Lib in
theorem Tryz.isBlank (w:World):PredAt prog 353 #[] encR (λr=>decide ((r:Int)=32)) w:=λW r _=>by
 unfold FnGives
 go_enter func353,ntmps353
 go_wp2
 go_ret
 exact⟨rfl,0,rfl⟩
end Go.Proofs
namespace Go.SW
open Go.Proofs Go.RowKit
theorem strings_Flds (H:Hp) (s:Bs) (hs:s.length<=65536):Ph prog 352 #[str s, .func (.func 353) #[] #[]] H (λv H'=>∃ (a:Option Addr) (c:Nat),v = .slice a (flds s).length c/\SlH strE 1 H' (.slice a (flds s).length c) (flds s)):=by
 refine ph_rowB (T:=9) (flds_str s) (λw hw=>by have :=flds_piece s w hw;omega) λN L w hm=>?_;have :=Tryz.strings_FieldsFunc 353 #[] (enters_of func353 pD Y) _ ⟨s.toArray⟩ w (by simp[ByteArray.size];omega) (Tryz.isBlank w);refine this.mono λe w' ⟨A,h1,h2,h3,h4⟩=>⟨A,?_,h2,?_,h4⟩;rw[h1,List.length_map];rw[List.length_map];exact h3
theorem strconv_PU (s:Bs) (hl:s.length<=19) (h0:0<s.length) (hd:H8_ s=true) (w:World):Calls prog 402 #[str s, .int .i64 10, .int .i64 64] w λe w'=>e = .returned (.tuple #[.int .u64 (dec s:Int), .nilIface])/\Below w.heap.size w w':=by
 refine (Tryz.strconv_ParseUint_10_at64_ok ⟨s.toArray⟩ (by simp[ByteArray.size];omega) (dec s) (dec_ok hl h0 hd).1 w).mono λe w' ⟨he,hw⟩=>⟨he,?_⟩
 rcases hw with rfl|rfl
 exact Below.refl _ _;exact Go.Joins.below_bytesWorld _ _ _ _ (Nat.le_refl _)
end Go.SW
namespace Go.Proofs
open Go.Shelf
def Tryz.lays146_ren:Go.Shelf.Ren:=⟨λ|146=>297|221=>351|268=>385|138=>386|143=>387|195=>398|197=>399|218=>400|219=>401|260=>408|217=>409|225=>410|224=>411|267=>412|266=>415|314=>416|n=>n,λ|9=>9|31=>350|3=>3|4=>4|0=>0|105=>503|21=>21|5=>5|46=>329|119=>513|139=>516|138=>515|146=>517|51=>126|n=>n,λ|1=>0|3=>1|4=>2|n=>n⟩
theorem Tryz.lays146:Go.Proofs.Lays.n146 prog Tryz.lays146_ren:={
 mixed:=by kernel_rfl
 f138:=func386.trans (congrArg some pD)
 f143:=func387.trans (congrArg some pD)
 f146:=func297.trans (congrArg some pD)
 f195:=func398.trans (congrArg some pD)
 f197:=func399.trans (congrArg some pD)
 f217:=func409.trans (congrArg some pD)
 f218:=func400.trans (congrArg some pD)
 f219:=func401.trans (congrArg some pD)
 f221:=func351.trans (congrArg some pD)
 f224:=func411.trans (congrArg some pD)
 f225:=func410.trans (congrArg some pD)
 f260:=func408.trans (congrArg some pD)
 f266:=func415.trans (congrArg some pD)
 f267:=func412.trans (congrArg some pD)
 f268:=func385.trans (congrArg some pD)
 f314:=func416.trans (congrArg some pD)
 t0:=underlying0
 a0:=isAgg0
 z0:=sizeOf0
 v0:=zeroValue0
 t3:=underlying3
 a3:=isAgg3
 z3:=sizeOf3
 v3:=zeroValue3
 t4:=underlying4
 a4:=isAgg4
 z4:=sizeOf4
 v4:=zeroValue4
 t5:=underlying5
 a5:=isAgg5
 z5:=sizeOf5
 v5:=zeroValue5
 t9:=underlying9
 a9:=isAgg9
 z9:=sizeOf9
 v9:=zeroValue9
 t21:=underlying21
 a21:=isAgg21
 z21:=sizeOf21
 v21:=zeroValue21
 t31:=underlying350
 a31:=isAgg350
 z31:=sizeOf350
 v31:=zeroValue350
 t46:=underlying329
 a46:=isAgg329
 z46:=sizeOf329
 v46:=zeroValue329
 t51:=underlying126
 a51:=isAgg126
 z51:=sizeOf126
 v51:=zeroValue126
 t105:=underlying503
 a105:=isAgg503
 z105:=sizeOf503
 v105:=zeroValue503
 t119:=underlying513
 a119:=isAgg513
 z119:=sizeOf513
 t138:=underlying515
 a138:=isAgg515
 z138:=sizeOf515
 v138:=zeroValue515
 t139:=underlying516
 a139:=isAgg516
 z139:=sizeOf516
 v139:=zeroValue516
 t146:=underlying517
 a146:=isAgg517
 z146:=sizeOf517
 v146:=zeroValue517
 g1:=by kernel_rfl
 g3:=by kernel_rfl
 g4:=by kernel_rfl}
open Go.RowKit Go.Lib in
theorem Tryz.strings_Split (s sep:ByteArray) (m:Int) (w:World) (hs:s.size<4294967281) (hm:w.cell? ⟨0,0,none⟩=some (.int .i64 m)) (h1:1<=sep.size) :
   Calls prog 297 #[.string s, .string sep] w λe w'=>
     e = .returned (.slice (some ⟨w.heap.size,0,none⟩) (Lib.countB s sep+1) (Lib.countB s sep+1))/\w'=w.alloc (.cells ((Lib.splitB sep 0 (Lib.countB s sep) s).map Value.string).toArray 9):=Any.strings_Split Tryz.lays146 pD s sep m w hs hm h1
end Go.Proofs
namespace Go.SW
open Go.Proofs
theorem strings_Split (H:Hp) (s p:Bs) (hp:p=[46]) (hML:GInt H 0) (hs:s.length<4294967281):Ph prog 297 #[str s,str p] H (λv H'=>∃ (a:Option Addr) (c:Nat),v = .slice a (dots s).length c/\SlH strE 1 H' (.slice a (dots s).length c) (dots s)):=by
 subst hp;refine ph_strs (T:=9) (λw hw=>by have :=S9_ s w hw;omega) λN L w hm=>?_;obtain⟨m,hc⟩:=hML.cell hm;refine (Tryz.strings_Split ⟨s.toArray⟩ ⟨#[46]⟩ m w (by simpa [K6_] using hs) hc pC).mono λe w' ⟨he,hw⟩=>⟨?_,?_⟩;rw[he,Yn_];rw[hw,W7_]
theorem strings_SplitL (H:Hp) (s p:Bs) (hp:p=[10]) (hML:GInt H 0) (hs:s.length<4294967281):Ph prog 297 #[str s,str p] H (λv H'=>∃ (a:Option Addr) (c:Nat),v = .slice a (cuts 10 s).length c/\SlH strE 1 H' (.slice a (cuts 10 s).length c) (cuts 10 s)):=by
 subst hp;refine ph_strs (T:=9) (λw hw=>by have :=S7_ 10 s w hw;omega) λN L w hm=>?_;obtain⟨m,hc⟩:=hML.cell hm;refine (Tryz.strings_Split ⟨s.toArray⟩ ⟨#[10]⟩ m w (by simpa [K6_] using hs) hc pC).mono λe w' ⟨he,hw⟩=>⟨?_,?_⟩;rw[he,splitB_clen];rw[hw,W6_]
theorem ag312:Ag prog 312 false:=λw=>by kernel_rfl
theorem ag9:Ag prog 9 false:=λw=>by kernel_rfl
theorem cb288:Bo_ prog 288:=Bi_ func288 pD pD
theorem fl315_0:Fld prog 315 0 0:=λb o w=>by kernel_rfl
theorem la315_315:liesAt prog prog.depth 315 (2/prog.cellsOf 315) 0 315 1=true:=by kernel_rfl
theorem ne346:NoEsc prog 346:=noEsc_of func346 pD pD pD pD
theorem sz312:Sz prog 312 1:=λw=>by kernel_rfl
theorem sz9:Sz prog 9 1:=λw=>by kernel_rfl
theorem ti315:∃ j,prog.info? 315=some j:=Option.isSome_iff_exists.1 pD
theorem tz315:∃ j,prog.info? 315=some j/\j.size≠0:=exInfo pD
set_option maxRecDepth 100000 in
theorem copyCheck {n:Nat} {N:Rest} {F:Fr} {H:Hp} {L:Ls} {ops:List Oper} {ty d:Nat} {pos:String} {af:Array Edge} {K:Fr->Hp->Ls->Prop} {x:Operand} {ats:Array TypeId} {b:Nat} {p v:Value} (i:Nat) (hx:ev F x = .pointer (some ⟨b,0,none⟩)) (hi:L i=some (b,bx 315 [p,v]))
   (hp:p = .pointer none\/p = .pointer (some ⟨b,0,none⟩)) (hd:Nat.blt d n=true) (k:K (upd F d (.tuple #[])) H (lupd L i (some (b,bx 315 [.pointer (some ⟨b,0,none⟩),v])))):Op1 prog n N ops ⟨some d, .call ⟨.value (.func 288),#[x],ats⟩,ty,pos,af,none⟩ K F H L:=by
 refine op1_in (en_f (vs:=[.pointer (some ⟨b,0,none⟩)]) cb288 (by simp[evs,hx])) func288 rfl ntmps288 rfl hd (Ka_ (Fp_ (ol rfl (Kf_ (v:= .pointer (some ⟨_,_,none⟩)) rfl) (ol rfl (Gu_ rfl) (ol rfl (Ex_ rfl fl315_0) ?_)))));refine ol Y (Lk_ (i:=i) (v:=p) Y ag312 hi Y) ?_
 rcases hp with rfl|rfl
 refine ol Y (lo_pnil Y Y underlying312) (Ky_ (Kc_ (cw_cond_t Y Y (Fp_ (ol Y (Kf_ (v:= .pointer (some ⟨_,_,none⟩)) Y) ?_)))));refine ol Y (Kf_ (v:= .pointer (some ⟨_,_,none⟩)) Y) (ol Y (lo_toUnsafe (i:=i) Y hi Y underlying312 underlying456 (tz315).choose_spec.1 (tz315).choose_spec.2) (ol Y (lo_noEsc (v:= .pointer (some ⟨_,_,none⟩)) ne346 Y) (ol Y (Zt_ (i:=i) Y hi underlying456 underlying312 (ti315).choose_spec la315_315) (ol Y (Gu_ Y) (ol Y (Ex_ Y fl315_0) ?_)))));refine ow1 (Ly_ (i:=i) (v:= .pointer (some ⟨_,_,none⟩)) Y Y Y sz312 hi Y ?_);refine Ky_ ?_;exact fnK_n (res0 Y) (.refl _) k
 . refine ol Y (X4_ Y Y underlying312) (Ky_ (Kc_ (cw_cond_f Y Y (Ka_ (Fp_ ?_)))))
   refine ol Y (Kf_ (v:= .pointer (some ⟨_,_,none⟩)) Y) (ol Y (Gu_ Y) (ol Y (Ex_ Y fl315_0) (ol Y (Lk_ (i:=i) (v:= .pointer (some ⟨b,0,none⟩)) Y ag312 hi Y) (ol Y (Kf_ (v:= .pointer (some ⟨_,_,none⟩)) Y) (ol Y (lo_pne_self Y Y underlying312 (ti315).choose_spec) ?_)))))
   refine Ky_ (Kc_ (cw_cond_f Y Y (cw_skip (fnK_n (res0 Y) (.refl _) ?_))))
   rwa [lupd_eta hi] at k
theorem sz5:Sz prog 5 1:=λw=>by kernel_rfl
theorem ag183:Ag prog 183 true:=λw=>by kernel_rfl
theorem ag313:Ag prog 313 false:=λw=>by kernel_rfl
theorem by5:By prog 5 1:=by_of pD
theorem cb191:Bo_ prog 191:=Bi_ func191 pD pD
theorem cb192:Bo_ prog 192:=Bi_ func192 pD pD
theorem co5:prog.cellsOf 5=1:=by kernel_rfl
theorem fl183_0:Fld prog 183 0 0:=λb o w=>by kernel_rfl
theorem Zb_:Fld prog 315 1 1:=λb o w=>by kernel_rfl
theorem mixd:prog.follows .mixedOrders=true:=by kernel_rfl
theorem sz183:Sz prog 183 2:=λw=>by kernel_rfl
theorem sz313:Sz prog 313 1:=λw=>by kernel_rfl
theorem zr183:Zr prog 183 [str [], .int .i64 0]:=λw=>⟨.agg #[str [], .int .i64 0],by kernel_rfl,rfl⟩
theorem zr315:Zr prog 315 [.pointer none, .slice none 0 0]:=λw=>⟨.agg #[.pointer none, .slice none 0 0],by kernel_rfl,rfl⟩
theorem zr5:Zr prog 5 [.int .u8 0]:=λw=>⟨.int .u8 0,by kernel_rfl,rfl⟩
theorem zx5:∃ z,∀ w,(zeroValue 5).run prog w = .ok z w:=⟨.int .u8 0,λw=>by kernel_rfl⟩
theorem out_Num (H:Hp) (o:Out) (n:Int) (n_r:0<=n/\n<=18446744073709551615) (bytes:Int) (bytes_r:-9223372036854775808<=bytes/\bytes<=9223372036854775807) (hlen:o.s.length<=4611686018427387904):Pr prog 81 #[.agg (Out.cells o).toArray, .int .u64 n, .int .i64 bytes] H (.agg (Out.cells (M_ o n bytes)).toArray):=by
 refine pr_cw func81 Y ntmps81 Y (λN=>?_);refine Ka_ (Fp_ (ow1 (op1_box (cs:=[_,_]) 0 Y Y (λb1=>?_))));refine ow1 (We_ 1 Y zr183 (λb2=>?_));refine Ky_ (Kc_ (Ka_ (Fp_ (ow1 (We_ 2 Y zr315 (λb3=>?_))))));refine Ky_ (Kc_ (Ka_ (Ka_ (Fp_ (omi Y Y ?_)))));refine ol Y (lo_max Y Y) (ol Y (lo_min Y Y) (ol Y (lo_sub Y Y (rg_i64 pB)) (oai Y Y (Ky_ (Kc_ ?_)))));refine Yx_ ?_;refine cw_loop5 [8,13,14,15,16,17,18,19,20,21,22] [2,3,4] (λ(j:Nat) (bs:Bs) (p:Value) (v:Value) (en:Option (Nat×Obj)) G=>upd (G) 8 (.int .i64 ((j:Int)-1))) (λ(j:Nat) (bs:Bs) (p:Value) (v:Value) (en:Option (Nat×Obj)) G=>lupd (lupd (G) 2 (some (b3,bx 315 [p,v]))) 3 (en)) (λ(j:Nat) (bs:Bs) (p:Value) (v:Value) (en:Option (Nat×Obj)) H'=>bs++numB j n.toNat=numB (numK bytes) n.toNat/\bs.length+j=numK bytes/\OwnV 1 5 v en bs.length (bs.map u8v)/\(bs.length=0->v = .slice none 0 0)/\(p = .pointer none\/p = .pointer (some ⟨b3,0,none⟩))) (λ(j:Nat) (bs:Bs) (p:Value) (v:Value) (en:Option (Nat×Obj))=>j) (numK bytes) [] (.pointer none) (.slice none 0 0) none (upd_intro (X5_ nL) (congrArg (Value.int .i64) (show min (max bytes 0) 8-1=((numK bytes:Nat):Int)-1 by unfold numK;omega))) (Pz_ (Pz_ (V1_ offl_refl) Y) Y) ?_ ?_;exact⟨rfl,by simp,P1_,λ_=>rfl, .inl rfl⟩;intro j bs p v en J5 JL5 H5 hp4 hl5;obtain⟨hk1,hk2,ho,hz,hpp⟩:=hp4;have hk8:numK bytes<=8:=by unfold numK;omega
 refine Ka_ (Ka_ (Fp_ (omi Y Y (ol Y (lo_geq Y Y) (Ky_ ?_)))));refine Kc_ (Yy_ Y (λh6=>?_) (λh6=>?_));have p7:=dt h6;refine cw_skip (Kc_ (Ka_ (Yx_ (Fp_ (omi Y Y ?_)))));refine omi Y Y (ol Y (lo_mul Y Y (rg_i64 pB)) (ol Y (lo_shr Y Y pB) ?_));have :=wr_u8 (Int.fdiv n (2 ^ (min ((8*((j:Int)-1)):Int).toNat (IntKind.bits .u64))));refine ol Y (lo_conv Y (by rw[underlying36];rfl) underlying5) ?_;refine ow1 (op1_in (en_f cb191 Y) func191 Y ntmps191 Y Y ?_);refine Ka_ (Fp_ (ol Y (L5_ Y) (Ky_ (Kc_ (Ka_ ?_)))));refine Fp_ (ol Y (Kf_ (v:= .pointer (some ⟨_,_,none⟩)) Y) ?_);refine ow1 (copyCheck 2 Y Y hpp Y ?_);refine Ky_ (Kc_ (Ka_ (Fp_ (ol Y (Kf_ (v:= .pointer (some ⟨_,_,none⟩)) Y) (ol Y (Kf_ (v:= .pointer (some ⟨_,_,none⟩)) Y) ?_)))));refine ol Y (Gu_ Y) (ol Y (Ex_ Y Zb_) (ol Y (Lk_ (i:=2) Y ag313 Y Y) (omi Y Y ?_)));refine ow1 (X8_ (cs:=[_]) 4 Y underlying313 sz5 zx5 Y ⟨Y,Y,Z⟩ Y Y pC (λb8=>?_));refine ow1 (op1_app 3 Y Y underlying313 underlying313 Y sz5 by5 pC zr5 ho (src_bx (i:=4) Y Y) (List.all_eq_true.1 Y) Y pB Y (λv9 en10 ho11=>?_));have ho12:=byte_app (bs:=bs) ho11 (by first|rfl|simp) (wrap8r _);refine ol Y (Gu_ Y) (ol Y (Ex_ Y Zb_) ?_);refine ow1 (Ly_ (i:=2) Y Y (ownV_one ho12) sz313 Y Y ?_);refine Ky_ (Kc_ (Ka_ (Fp_ (ol Y (L5_ Y) (Ky_ ?_)))));refine Kc_ (cw_ret (fnK_r (res1 Y (rv_t Y)) (.refl _) (Ky_ (blkK_n (Kc_ ?_)))));refine Fp_ (omi Y Y (ol Y (lo_sub Y Y (rg_i64 pB)) (oai Y Y (Ky_ ?_))));refine next5 (j-1) (bs++[UInt8.ofNat ((IntKind.wrap .u8 (Int.fdiv n (2 ^ (min ((8*((j:Int)-1)):Int).toNat (IntKind.bits .u64)))))).toNat]) (.pointer (some ⟨b3,0,none⟩)) v9 en10 (upd_intro (X5_ nL) (congrArg (Value.int .i64) (show ((j:Int)-1)-1=((j-1:Nat):Int)-1 by omega))) (Pz_ (Pz_ (V1_ (by first|exact offl_refl|(repeat (first|exact offl_mask|refine offl_upd Y ?_|refine offl_mask2 Y ?_)))) Y) Y) hl5 ?_ ?_;refine⟨?_,?_,ho12,(nz_of ho12 pF), .inr rfl⟩;rw[byte_of n_r.1 pB pB,List.append_assoc,<- hk1];obtain⟨q,rfl⟩:∃ q,j=q+1:=⟨j-1,by omega⟩;simp[numB];simp;omega;omega;have p13:=df h6;refine cw_exit (seqK_e (loopK_e (blkK_hit (Kc_ (Ka_ ?_)))));refine cw_anyX 3 mixd (vw_q 0 Y pD pM (λ_ _ hh hl=>Ex_ Y fl183_0) ?_);refine vw_q 1 Y pD pM (λ_ _ hh hl=>Lk_ (i:=0) (v:=str _) Y ag9 (hl _ _ Y) Y) ?_;refine vw_e 2 Y pD (op1_in (en_f cb192 Y) func192 Y ntmps192 Y Y ?_);refine Ka_ (Fp_ (ol Y (L5_ (v:=str _) Y) (Ky_ (Kc_ (Ka_ ?_)))));refine cw_anyX 3 mixd ?_;refine vw_q 0 Y pD pM (λ_ _ hh hl=>Kf_ (v:= .pointer (some ⟨_,_,none⟩)) Y) ?_;refine vw_q 1 Y pD pM (λ_ _ hh hl=>Gu_ Y) ?_;refine vw_q 2 Y pD pM (λ_ _ hh hl=>Ex_ Y Zb_) ?_;refine vw_q 3 Y pD pM (λ_ _ hh hl=>Lk_ (i:=2) Y ag313 (hl _ _ Y) Y) ?_;refine vw_q 4 Y pD pM (λ_ _ hh hl=>lo_usd Y ho hz) ?_;refine vw_q 5 Y pD pM (λ_ _ hh hl=>Kf_ (v:= .pointer (some ⟨_,_,none⟩)) Y) ?_;refine vw_q 6 Y pD pM (λ_ _ hh hl=>Gu_ Y) ?_;refine vw_q 7 Y pD pM (λ_ _ hh hl=>Ex_ Y Zb_) ?_;refine vw_q 8 Y pD pM (λ_ _ hh hl=>Lk_ (i:=2) Y ag313 (hl _ _ Y) Y) ?_;refine vw_q 9 Y pD pM (λ_ _ hh hl=>X3_ Y ho underlying313) ?_;refine vw_e 10 Y pD (op1_ustr (l:=bs) 3 Y Y underlying411 co5 ho hz nJ Y ?_);refine⟨⟨(.refl _),pM⟩,?_⟩;refine vw_q 11 Y pD pM (λ_ _ hh hl=>L5_ (v:=str _) Y) ?_;refine vw_done pD (Kc_ (cw_ret (fnK_r (res1 Y (rv_t (v:=str _) Y)) (.refl _) ?_)));refine⟨⟨(.refl _),pM⟩,?_⟩;refine vw_q 3 Y pD pM (λ_ _ hh hl=>lo_cat Y Y nJ) ?_;refine vw_q 4 Y pD pM (λ_ _ hh hl=>Ex_ Y fl183_0) ?_;refine vw_t 5 Y pD pD (Ly_ (i:=0) (v:=str _) Y Y Y sz9 Y Y ?_);refine vw_done pD (Kc_ (Ka_ (Fp_ (ol Y (Un_ (i:=0) (vs:=[_,_]) Y ag183 sz183 Y Y Y) ?_))));refine ow1 (X9_ (i:=1) (vs:=[_,_]) Y Y Y sz183 Y Y Y ?_);refine Ky_ (Kc_ (cw_ret (fnK_r (res1 Y (rv_c (i:=1) (vs:=[_,_]) Y ag183 sz183 Y Y Y)) ((HLe.refl _).trans hl5) ?_)));obtain rfl :j=0:=by omega
 simp only[numB,List.append_nil] at hk1;subst hk1;rfl
end Go.SW
namespace Go.SW.V
open Go.SW Go.Proofs
abbrev ty9:TI:=⟨.str,1,16,[.str []]⟩
abbrev ty3:TI:=⟨.int .i64,1,8,[.int .i64 0]⟩
abbrev ty36:TI:=⟨.int .u64,1,8,[.int .u64 0]⟩
abbrev ty94:TI:=⟨.int .i64,1,8,[.int .i64 0]⟩
abbrev ty183:TI:=⟨.agg [(0,1),(1,1)],2,24,[.str [], .int .i64 0]⟩
abbrev ty324:TI:=⟨.agg [(0,1),(1,1)],2,24,[.str [], .int .i64 0]⟩
abbrev ty350:TI:=⟨.slc 9,1,24,[.sl strc []]⟩
abbrev ty2:TI:=⟨.int .i64,1,8,[.int .i64 0]⟩
abbrev ty5:TI:=⟨.int .u8,1,1,[.int .u8 0]⟩
abbrev ty83:TI:=⟨.slc 320,1,24,[.sl Pair.pc []]⟩
abbrev ty320:TI:=⟨.agg [(0,1),(1,1),(2,1),(3,1)],4,48,[.str [], .int .u8 0, .int .i64 0, .str []]⟩
abbrev ty4:TI:=⟨.bool,1,1,[.bool false]⟩
abbrev ty85:TI:=⟨.agg [(0,1),(1,1),(2,1),(3,1),(4,1),(5,1)],6,88,[.str [], .str [], .bool false, .str [], .sl Pair.pc [], .bool false]⟩
abbrev ty313:TI:=⟨.slc 5,1,24,[.sl u8c []]⟩
abbrev ty80:TI:=⟨.agg [(0,1),(1,1),(2,1)],3,40,[.str [], .int .u8 0, .str []]⟩
abbrev ty82:TI:=⟨.agg [(0,1),(1,1),(2,1),(3,1)],4,48,[.str [], .int .u64 0, .int .u64 0, .str []]⟩
abbrev ty87:TI:=⟨.agg [(0,1),(1,1),(2,1),(3,1),(4,1),(5,1),(6,1)],7,96,[.int .u64 0, .str [], .str [], .sl Pair.pc [], .str [], .int .u64 0, .int .u8 0]⟩
abbrev ty89:TI:=⟨.agg [(0,1),(1,1),(2,3),(5,4),(9,6),(15,1),(16,1),(17,1),(18,1),(19,1),(20,1),(21,7),(28,1)],29,344,[.int .u8 0, .int .u64 0, .str [], .int .u8 0, .str [], .str [], .int .u64 0, .int .u64 0, .str [], .str [], .str [], .bool false, .str [], .sl Pair.pc [], .bool false, .str [], .int .u64 0, .int .u8 0, .int .u8 0, .int .u8 0, .int .u64 0, .int .u64 0, .str [], .str [], .sl Pair.pc [], .str [], .int .u64 0, .int .u8 0, .str []]⟩
abbrev ty345:TI:=⟨.slc 94,1,24,[.sl i64c []]⟩
abbrev ty104:TI:=⟨.agg [(0,1),(1,1),(2,1),(3,1),(4,1),(5,1)],6,88,[.str [], .str [], .bool false, .str [], .sl Pair.pc [], .bool false]⟩
abbrev ty106:TI:=⟨.agg [(0,1),(1,1),(2,3),(5,4),(9,6),(15,1),(16,1),(17,1),(18,1),(19,1),(20,1),(21,7),(28,1)],29,344,[.int .u8 0, .int .u64 0, .str [], .int .u8 0, .str [], .str [], .int .u64 0, .int .u64 0, .str [], .str [], .str [], .bool false, .str [], .sl Pair.pc [], .bool false, .str [], .int .u64 0, .int .u8 0, .int .u8 0, .int .u8 0, .int .u64 0, .int .u64 0, .str [], .str [], .sl Pair.pc [], .str [], .int .u64 0, .int .u8 0, .str []]⟩
abbrev ty102:TI:=⟨.agg [(0,1),(1,1),(2,1)],3,40,[.str [], .int .u8 0, .str []]⟩
abbrev ty103:TI:=⟨.agg [(0,1),(1,1),(2,1),(3,1)],4,48,[.str [], .int .u64 0, .int .u64 0, .str []]⟩
abbrev ty384:TI:=⟨.agg [(0,1),(1,1),(2,1),(3,1)],4,56,[.int .u8 0, .str [], .sl Pair.pc [], .bool false]⟩
abbrev ty32:TI:=⟨.slc 80,1,24,[.sl Z_.pc []]⟩
abbrev ty35:TI:=⟨.agg [(0,1),(1,1)],2,48,[.sl Z_.pc [], .sl R_.pc []]⟩
abbrev ty33:TI:=⟨.slc 85,1,24,[.sl R_.pc []]⟩
abbrev ty443:TI:=⟨.slc 32,1,24,[.sl (slc Z_.pc) []]⟩
abbrev ty446:TI:=⟨.slc 33,1,24,[.sl (slc R_.pc) []]⟩
abbrev ty27:TI:=⟨.slc 89,1,24,[.sl Aa_.pc []]⟩
abbrev ty22:TI:=⟨.slc 130,1,24,[.sl Bl_.pc []]⟩
abbrev ty23:TI:=⟨.slc 3,1,24,[.sl i64c []]⟩
abbrev ty24:TI:=⟨.slc 135,1,24,[.sl B1_.pc []]⟩
abbrev ty26:TI:=⟨.agg [(0,1),(1,1),(2,1),(3,1),(4,1)],5,88,[.int .i64 0, .int .i64 0, .sl Bl_.pc [], .sl i64c [], .sl B1_.pc []]⟩
abbrev ty37:TI:=⟨.slc 255,1,24,[.sl Eu_.pc []]⟩
abbrev ty38:TI:=⟨.slc 87,1,24,[.sl Mail.pc []]⟩
abbrev ty44:TI:=⟨.slc 147,1,24,[.sl C1_.pc []]⟩
abbrev ty46:TI:=⟨.agg [(0,1),(1,1)],2,32,[.int .u64 0, .sl C1_.pc []]⟩
abbrev ty91:TI:=⟨.agg [(0,7),(7,1),(8,1)],9,104,[.int .u64 0, .str [], .str [], .sl Pair.pc [], .str [], .int .u64 0, .int .u8 0, .bool false, .bool false]⟩
abbrev ty126:TI:=⟨.int .u32,1,4,[.int .u32 0]⟩
abbrev ty128:TI:=⟨.agg [(0,1),(1,1)],2,8,[.int .u8 0, .int .u32 0]⟩
abbrev ty130:TI:=⟨.agg [(0,1),(1,2),(3,1),(4,1)],5,40,[.str [], .int .u8 0, .int .u32 0, .int .i64 0, .int .u64 0]⟩
abbrev ty135:TI:=⟨.agg [(0,1),(1,1),(2,1)],3,24,[.int .i64 0, .int .i64 0, .int .i64 0]⟩
abbrev ty147:TI:=⟨.agg [(0,1),(1,1),(2,1)],3,32,[.int .u64 0, .int .u8 0, .str []]⟩
abbrev ty221:TI:=⟨.oth,1,8,[.val .nilFunc]⟩
abbrev ty251:TI:=⟨.slc 91,1,24,[.sl D_.pc []]⟩
abbrev ty253:TI:=⟨.agg [(0,1)],1,24,[.sl D_.pc []]⟩
abbrev ty255:TI:=⟨.agg [(0,4),(4,1)],5,72,[.str [], .int .u64 0, .int .u64 0, .str [], .sl D_.pc []]⟩
abbrev ty374:TI:=⟨.slc 44,1,24,[.sl (slc C1_.pc) []]⟩
abbrev ty430:TI:=⟨.slc 37,1,24,[.sl (slc Eu_.pc) []]⟩
abbrev ty481:TI:=⟨.slc 251,1,24,[.sl (slc D_.pc) []]⟩
abbrev ty500:TI:=⟨.slc 38,1,24,[.sl (slc Mail.pc) []]⟩
abbrev ty40:TI:=⟨.agg [(0,1),(1,1)],2,32,[.int .u64 0, .sl Mail.pc []]⟩
abbrev ty43:TI:=⟨.agg [(0,1),(1,1),(2,1),(3,32)],35,552,[.int .u64 0, .int .i64 0, .sl Eu_.pc [], .int .u64 0, .sl Mail.pc [], .int .u64 0, .sl Mail.pc [], .int .u64 0, .sl Mail.pc [], .int .u64 0, .sl Mail.pc [], .int .u64 0, .sl Mail.pc [], .int .u64 0, .sl Mail.pc [], .int .u64 0, .sl Mail.pc [], .int .u64 0, .sl Mail.pc [], .int .u64 0, .sl Mail.pc [], .int .u64 0, .sl Mail.pc [], .int .u64 0, .sl Mail.pc [], .int .u64 0, .sl Mail.pc [], .int .u64 0, .sl Mail.pc [], .int .u64 0, .sl Mail.pc [], .int .u64 0, .sl Mail.pc [], .int .u64 0, .sl Mail.pc []]⟩
abbrev ty41:TI:=⟨.arr,32,512,[.int .u64 0, .sl Mail.pc [], .int .u64 0, .sl Mail.pc [], .int .u64 0, .sl Mail.pc [], .int .u64 0, .sl Mail.pc [], .int .u64 0, .sl Mail.pc [], .int .u64 0, .sl Mail.pc [], .int .u64 0, .sl Mail.pc [], .int .u64 0, .sl Mail.pc [], .int .u64 0, .sl Mail.pc [], .int .u64 0, .sl Mail.pc [], .int .u64 0, .sl Mail.pc [], .int .u64 0, .sl Mail.pc [], .int .u64 0, .sl Mail.pc [], .int .u64 0, .sl Mail.pc [], .int .u64 0, .sl Mail.pc [], .int .u64 0, .sl Mail.pc []]⟩
abbrev ty202:TI:=⟨.slc 82,1,24,[.sl Ae_.pc []]⟩
abbrev ty52:TI:=⟨.agg [(0,2),(2,35),(37,2),(39,16),(55,16)],71,888,[.sl Z_.pc [], .sl R_.pc [], .int .u64 0, .int .i64 0, .sl Eu_.pc [], .int .u64 0, .sl Mail.pc [], .int .u64 0, .sl Mail.pc [], .int .u64 0, .sl Mail.pc [], .int .u64 0, .sl Mail.pc [], .int .u64 0, .sl Mail.pc [], .int .u64 0, .sl Mail.pc [], .int .u64 0, .sl Mail.pc [], .int .u64 0, .sl Mail.pc [], .int .u64 0, .sl Mail.pc [], .int .u64 0, .sl Mail.pc [], .int .u64 0, .sl Mail.pc [], .int .u64 0, .sl Mail.pc [], .int .u64 0, .sl Mail.pc [], .int .u64 0, .sl Mail.pc [], .int .u64 0, .sl Mail.pc [], .int .u64 0, .sl Mail.pc [], .int .u64 0, .sl C1_.pc [], .int .u64 0, .int .u64 0, .int .u64 0, .int .u64 0, .int .u64 0, .int .u64 0, .int .u64 0, .int .u64 0, .int .u64 0, .int .u64 0, .int .u64 0, .int .u64 0, .int .u64 0, .int .u64 0, .int .u64 0, .int .u64 0, .int .u64 0, .int .i64 0, .int .u64 0, .int .i64 0, .int .u64 0, .int .i64 0, .int .u64 0, .int .i64 0, .int .u64 0, .int .i64 0, .int .u64 0, .int .i64 0, .int .u64 0, .int .i64 0, .int .u64 0, .int .i64 0]⟩
abbrev ty54:TI:=⟨.agg [(0,71),(71,5),(76,1)],77,984,[.sl Z_.pc [], .sl R_.pc [], .int .u64 0, .int .i64 0, .sl Eu_.pc [], .int .u64 0, .sl Mail.pc [], .int .u64 0, .sl Mail.pc [], .int .u64 0, .sl Mail.pc [], .int .u64 0, .sl Mail.pc [], .int .u64 0, .sl Mail.pc [], .int .u64 0, .sl Mail.pc [], .int .u64 0, .sl Mail.pc [], .int .u64 0, .sl Mail.pc [], .int .u64 0, .sl Mail.pc [], .int .u64 0, .sl Mail.pc [], .int .u64 0, .sl Mail.pc [], .int .u64 0, .sl Mail.pc [], .int .u64 0, .sl Mail.pc [], .int .u64 0, .sl Mail.pc [], .int .u64 0, .sl Mail.pc [], .int .u64 0, .sl Mail.pc [], .int .u64 0, .sl C1_.pc [], .int .u64 0, .int .u64 0, .int .u64 0, .int .u64 0, .int .u64 0, .int .u64 0, .int .u64 0, .int .u64 0, .int .u64 0, .int .u64 0, .int .u64 0, .int .u64 0, .int .u64 0, .int .u64 0, .int .u64 0, .int .u64 0, .int .u64 0, .int .i64 0, .int .u64 0, .int .i64 0, .int .u64 0, .int .i64 0, .int .u64 0, .int .i64 0, .int .u64 0, .int .i64 0, .int .u64 0, .int .i64 0, .int .u64 0, .int .i64 0, .int .u64 0, .int .i64 0, .int .i64 0, .int .i64 0, .sl Bl_.pc [], .sl i64c [], .sl B1_.pc [], .int .i64 0]⟩
abbrev ty49:TI:=⟨.agg [(0,1),(1,1)],2,16,[.int .u64 0, .int .i64 0]⟩
abbrev ty93:TI:=⟨.agg [(0,9),(9,1),(10,1)],11,120,[.int .u64 0, .str [], .str [], .sl Pair.pc [], .str [], .int .u64 0, .int .u8 0, .bool false, .bool false, .int .i64 0, .int .i64 0]⟩
abbrev ty232:TI:=⟨.slc 246,1,24,[.sl Dv_.pc []]⟩
abbrev ty246:TI:=⟨.agg [(0,1),(1,7)],8,112,[.str [], .int .u64 0, .str [], .str [], .sl Pair.pc [], .str [], .int .u64 0, .int .u8 0]⟩
abbrev ty56:TI:=⟨.slc 133,1,24,[.sl Bl_.pc []]⟩
abbrev ty57:TI:=⟨.slc 136,1,24,[.sl B1_.pc []]⟩
abbrev ty59:TI:=⟨.agg [(0,1),(1,1),(2,1),(3,1),(4,1)],5,88,[.int .i64 0, .int .i64 0, .sl Bl_.pc [], .sl i64c [], .sl B1_.pc []]⟩
abbrev ty133:TI:=⟨.agg [(0,1),(1,2),(3,1),(4,1)],5,40,[.str [], .int .u8 0, .int .u32 0, .int .i64 0, .int .u64 0]⟩
abbrev ty136:TI:=⟨.agg [(0,1),(1,1),(2,1)],3,24,[.int .i64 0, .int .i64 0, .int .i64 0]⟩
abbrev ty47:TI:=⟨.arr,16,128,[.int .u64 0, .int .u64 0, .int .u64 0, .int .u64 0, .int .u64 0, .int .u64 0, .int .u64 0, .int .u64 0, .int .u64 0, .int .u64 0, .int .u64 0, .int .u64 0, .int .u64 0, .int .u64 0, .int .u64 0, .int .u64 0]⟩
abbrev ty50:TI:=⟨.arr,16,128,[.int .u64 0, .int .i64 0, .int .u64 0, .int .i64 0, .int .u64 0, .int .i64 0, .int .u64 0, .int .i64 0, .int .u64 0, .int .i64 0, .int .u64 0, .int .i64 0, .int .u64 0, .int .i64 0, .int .u64 0, .int .i64 0]⟩
abbrev ty60:TI:=⟨.slc 102,1,24,[.sl Z_.pc []]⟩
abbrev ty61:TI:=⟨.slc 104,1,24,[.sl R_.pc []]⟩
abbrev ty63:TI:=⟨.agg [(0,1),(1,1)],2,48,[.val (.slice none 0 0), .val (.slice none 0 0)]⟩
abbrev ty66:TI:=⟨.agg [(0,1),(1,1)],2,32,[.int .u64 0, .sl Mail.pc []]⟩
abbrev ty70:TI:=⟨.slc 163,1,24,[.sl C1_.pc []]⟩
abbrev ty72:TI:=⟨.agg [(0,1),(1,1)],2,32,[.int .u64 0, .val (.slice none 0 0)]⟩
abbrev ty97:TI:=⟨.agg [(0,7),(7,1),(8,1)],9,104,[.int .u64 0, .str [], .str [], .sl Pair.pc [], .str [], .int .u64 0, .int .u8 0, .bool false, .bool false]⟩
abbrev ty163:TI:=⟨.agg [(0,1),(1,1),(2,1)],3,32,[.int .u64 0, .int .u8 0, .str []]⟩
abbrev ty268:TI:=⟨.slc 97,1,24,[.sl D_.pc []]⟩
abbrev ty64:TI:=⟨.slc 270,1,24,[.sl El_.pc []]⟩
abbrev ty69:TI:=⟨.agg [(0,1),(1,1),(2,1),(3,32)],35,552,[.int .u64 0, .int .i64 0, .val (.slice none 0 0), .int .u64 0, .sl Mail.pc [], .int .u64 0, .sl Mail.pc [], .int .u64 0, .sl Mail.pc [], .int .u64 0, .sl Mail.pc [], .int .u64 0, .sl Mail.pc [], .int .u64 0, .sl Mail.pc [], .int .u64 0, .sl Mail.pc [], .int .u64 0, .sl Mail.pc [], .int .u64 0, .sl Mail.pc [], .int .u64 0, .sl Mail.pc [], .int .u64 0, .sl Mail.pc [], .int .u64 0, .sl Mail.pc [], .int .u64 0, .sl Mail.pc [], .int .u64 0, .sl Mail.pc [], .int .u64 0, .sl Mail.pc [], .int .u64 0, .sl Mail.pc []]⟩
abbrev ty270:TI:=⟨.agg [(0,4),(4,1)],5,72,[.str [], .int .u64 0, .int .u64 0, .str [], .sl D_.pc []]⟩
abbrev ty76:TI:=⟨.agg [(0,5),(5,1),(6,2),(8,35),(43,2),(45,16),(61,16)],77,984,[.int .i64 0, .int .i64 0, .sl Bl_.pc [], .sl i64c [], .sl B1_.pc [], .int .i64 0, .sl Z_.pc [], .sl R_.pc [], .int .u64 0, .int .i64 0, .sl El_.pc [], .int .u64 0, .sl Mail.pc [], .int .u64 0, .sl Mail.pc [], .int .u64 0, .sl Mail.pc [], .int .u64 0, .sl Mail.pc [], .int .u64 0, .sl Mail.pc [], .int .u64 0, .sl Mail.pc [], .int .u64 0, .sl Mail.pc [], .int .u64 0, .sl Mail.pc [], .int .u64 0, .sl Mail.pc [], .int .u64 0, .sl Mail.pc [], .int .u64 0, .sl Mail.pc [], .int .u64 0, .sl Mail.pc [], .int .u64 0, .sl Mail.pc [], .int .u64 0, .sl Mail.pc [], .int .u64 0, .sl Mail.pc [], .int .u64 0, .sl Mail.pc [], .int .u64 0, .sl C1_.pc [], .int .u64 0, .int .u64 0, .int .u64 0, .int .u64 0, .int .u64 0, .int .u64 0, .int .u64 0, .int .u64 0, .int .u64 0, .int .u64 0, .int .u64 0, .int .u64 0, .int .u64 0, .int .u64 0, .int .u64 0, .int .u64 0, .int .u64 0, .int .i64 0, .int .u64 0, .int .i64 0, .int .u64 0, .int .i64 0, .int .u64 0, .int .i64 0, .int .u64 0, .int .i64 0, .int .u64 0, .int .i64 0, .int .u64 0, .int .i64 0, .int .u64 0, .int .i64 0]⟩
abbrev ty99:TI:=⟨.agg [(0,9),(9,1),(10,1)],11,120,[.int .u64 0, .str [], .str [], .sl Pair.pc [], .str [], .int .u64 0, .int .u8 0, .bool false, .bool false, .int .i64 0, .int .i64 0]⟩
abbrev ty502:TI:=⟨.slc 4,1,24,[.sl boolc []]⟩
abbrev ty402:TI:=⟨.agg [(0,1),(1,1),(2,1),(3,1)],4,56,[.int .u8 0, .str [], .sl Pair.pc [], .bool false]⟩
def tbu:Tb:=[(9,ty9),(36,ty36),(5,ty5),(87,ty87),(4,ty4),(3,ty3),(83,ty83),(82,ty82),(80,ty80),(26,ty26),(91,ty91),(130,ty130),(22,ty22),(253,ty253),(85,ty85),(43,ty43),(89,ty89),(46,ty46),(147,ty147),(37,ty37),(255,ty255),(128,ty128),(24,ty24),(251,ty251),(32,ty32),(38,ty38),(40,ty40),(23,ty23),(350,ty350),(54,ty54),(35,ty35),(135,ty135),(126,ty126),(44,ty44),(104,ty104),(52,ty52),(93,ty93),(102,ty102),(481,ty481),(500,ty500),(33,ty33),(94,ty94),(320,ty320),(430,ty430),(374,ty374),(59,ty59),(345,ty345),(183,ty183),(221,ty221),(60,ty60),(61,ty61),(63,ty63),(106,ty106),(27,ty27),(402,ty402),(232,ty232),(246,ty246),(97,ty97),(268,ty268),(103,ty103),(2,ty2),(99,ty99),(76,ty76),(446,ty446),(384,ty384),(443,ty443),(66,ty66),(56,ty56),(57,ty57),(133,ty133),(136,ty136),(47,ty47),(50,ty50),(202,ty202),(49,ty49),(41,ty41),(70,ty70),(72,ty72),(163,ty163),(502,ty502),(313,ty313),(64,ty64),(69,ty69),(270,ty270),(324,ty324)]
theorem B_:tbB prog tbu=true:=by kernel_rfl
section
variable {n:Nat} {N:Rest} {H0:Env} {all:List Oper} {Q:Qs} {ks:List Kt} {fF:Nat->PV} {fL:Nat->Blk}
theorem kA (k:Nat) {c c':Cf} {ks':List Kt} {F':Nat->PV} {L':Nat->Blk} {az bs:List Nat} (next :Hd prog n N H0 Q c' ks' ⟨F',L'⟩) (h:run tbu n k c ks fF fL [] [] []=some ⟨c',ks',F',L',[],az,bs⟩:=by exact Y) (he:az=bs:=by exact Y):Hd prog n N H0 Q c ks ⟨fF,fL⟩:=gx B_ k next h he
theorem kB (k:Nat) (is:List Nat) {c c':Cf} {ks':List Kt} {F':(Nat->Nat)->Nat->PV} {L':(Nat->Nat)->Nat->Blk} {az bs:(Nat->Nat)->List Nat} (next :∀ B:Nat->Nat,Hd prog n N H0 Q c' ks' ⟨F' B,L' B⟩) (h:∀ B,runE tbu n k is B c ks fF fL [] [] []=some ⟨c',ks',F' B,L' B,[],az B,bs B⟩:=by exact λ_=>rfl) (he:∀ B,az B=bs B:=by exact λ_=>rfl):Hd prog n N H0 Q c ks ⟨fF,fL⟩:=gm B_ k is next h he
theorem kC (k:Nat) {c c':Cf} {ks':List Kt} {F':Nat->PV} {L':Nat->Blk} {ps:List Prop} {az bs:List Nat} (next :Hd prog n N H0 Q c' ks' ⟨F',L'⟩) (h:run tbu n k c ks fF fL [] [] []=some ⟨c',ks',F',L',ps,az,bs⟩:=by exact Y) (he:az=bs:=by exact Y) (hp:AllP ps:=by repeat' (first|exact Z|refine And.intro ?_ ?_|exact λhc=>hc|exact Y|exact λhc=>rfl|omega|(intro hc;omega)|(intro hc;rw[hc];rfl))):Hd prog n N H0 Q c ks ⟨fF,fL⟩:=gy B_ k next h he hp
theorem kD (k:Nat) (is:List Nat) {c c':Cf} {ks':List Kt} {F':(Nat->Nat)->Nat->PV} {L':(Nat->Nat)->Nat->Blk} {ps:(Nat->Nat)->List Prop} {az bs:(Nat->Nat)->List Nat} (next :∀ B:Nat->Nat,Hd prog n N H0 Q c' ks' ⟨F' B,L' B⟩) (h:∀ B,runE tbu n k is B c ks fF fL [] [] []=some ⟨c',ks',F' B,L' B,ps B,az B,bs B⟩:=by exact λ_=>rfl) (he:∀ B,az B=bs B:=by exact λ_=>rfl) (hp:∀ B,AllP (ps B):=by intro B;repeat' (first|exact Z|refine And.intro ?_ ?_|exact λhc=>hc|exact Y|exact λhc=>rfl|omega|(intro hc;omega)|(intro hc;rw[hc];rfl))):Hd prog n N H0 Q c ks ⟨fF,fL⟩:=gmy B_ k is next h he hp
theorem kE (order:List Nat) (f:Nat) {xs:Option (List Nat)} {fuel:Nat} {listed:Array Bool} {F':Nat->PV} {L':Nat->Blk} {az bs:List Nat} (next :Hv prog n N H0 Q xs all f (lst listed order) ks ⟨F',L'⟩) (hf:fuel=f+order.length:=by exact Y) (hc:chkV n all order listed=true:=by kernel_rfl) (h:runV tbu xs all order fF fL [] [] []=some ⟨F',L',[],az,bs⟩:=by exact Y) (he:az=bs:=by exact Y):Hv prog n N H0 Q xs all fuel listed ks ⟨fF,fL⟩:=gX B_ order f next hf hc h he
theorem kF (order:List Nat) (f:Nat) {xs:Option (List Nat)} {fuel:Nat} {listed:Array Bool} {F':Nat->PV} {L':Nat->Blk} {ps:List Prop} {az bs:List Nat} (next :Hv prog n N H0 Q xs all f (lst listed order) ks ⟨F',L'⟩) (hf:fuel=f+order.length:=by exact Y) (hc:chkV n all order listed=true:=by kernel_rfl) (h:runV tbu xs all order fF fL [] [] []=some ⟨F',L',ps,az,bs⟩:=by exact Y) (he:az=bs:=by exact Y) (hp:AllP ps:=by repeat' (first|exact Z|refine And.intro ?_ ?_|exact λhc=>hc|exact Y|exact λhc=>rfl|omega|(intro hc;omega)|(intro hc;rw[hc];rfl))):Hv prog n N H0 Q xs all fuel listed ks ⟨fF,fL⟩:=gXy B_ order f next hf hc h he hp
theorem kG {G:Gb} {m:Nat} {f:FuncId} {fn:Func} {c:Code} {args:List PV} {res:PV} (hf:prog.funcs[f]? = some fn) (hn:fn.ntmps=m) (h:PV.wfs args->∀ N H,G.p H->Hd prog m N ⟨H,G⟩ (rtK tbu fn.results.toList res) (.code c) [] ⟨P9_ args,λ_=> .no⟩) (hb:fn.body=some c:=by exact Y) (hs:Nat.ble args.length m=true:=by exact Y) (h1:(fn.name == "runtime.NumGoroutine")=false:=by kernel_rfl) (h2:fn.body.isNone=false:=by kernel_rfl) (hno:res.noOsl=true:=by exact Y) (hna:C4_ args=true:=by exact Y):Fn prog G f args res:=fC hf B_ hn h hb hs h1 h2 hno hna
theorem kI {T ty d:Nat} {rest:List Oper} {pos:String} {af:Array Edge} {x y:Operand} {α:Type} {ti te:TI} {e:TypeId} {enc:α->List PV} {xs:List α} {kk:IntKind} {i:Int} (m:Nat) {a:α} (hm:xs[m]? = some a) (k:(PV.el (enc a) 0).wf->Hd prog n N H0 Q (.ops all rest) ks ⟨updp fF d (.el (enc a) 0),fL⟩) (hx:evP fF x = .sl enc xs:=by exact Y) (hy:evP fF y = .int kk i:=by exact Y) (hi:i=m:=by exact Y) (hti:lkT tbu T=some ti:=by exact Y) (htk:ti.k = .slc e:=by exact Y) (hte:lkT tbu e=some te:=by exact Y) (hsz:te.size=(enc a).length:=by exact Y) (hd:Nat.blt d n=true:=by exact Y):Hd prog n N H0 Q (.ops all (⟨some d, .indexAddr T x y,ty,pos,af,none⟩::rest)) ks ⟨fF,fL⟩:=q1 (qidx B_ m hx hy hi hm hti htk hte hsz) hd k
theorem kN (k:Nat) {c:Cf} {ks':List Kt} {F':Nat->PV} {L':Nat->Blk} {az:List Nat} {x:Operand} {y z:Code} {t:Prop} {i:Decidable t} (p:t->Hd prog n N H0 Q (.code y) ks' ⟨F',L'⟩) (q:¬t->Hd prog n N H0 Q (.code z) ks' ⟨F',L'⟩) (h:run tbu n k c ks fF fL [] [] []=some ⟨.code (.cond x y z),ks',F',L',[],az,az⟩:=by exact Y) (hc:evP F' x = .bool (decide t):=by exact Y):Hd prog n N H0 Q c ks ⟨fF,fL⟩:=kA k (cn hc p q) h Y
theorem kM (k:Nat) {c:Cf} {ks':List Kt} {F':Nat->PV} {L':Nat->Blk} {az:List Nat} {x:Operand} {y z:Code} {t:Bool} (p:t=true->Hd prog n N H0 Q (.code y) ks' ⟨F',L'⟩) (q:t=false->Hd prog n N H0 Q (.code z) ks' ⟨F',L'⟩) (h:run tbu n k c ks fF fL [] [] []=some ⟨.code (.cond x y z),ks',F',L',[],az,az⟩:=by exact Y) (hc:evP F' x = .bool t:=by exact Y):Hd prog n N H0 Q c ks ⟨fF,fL⟩:=kA k (cnd hc p q) h Y
theorem kL (k:Nat) {c:Cf} {ks':List Kt} {F':Nat->PV} {L':Nat->Blk} {az:List Nat} {rest:List Oper} {f:FuncId} {args:List PV} {res:PV} {x:Operand} {xs:Array Operand} {ats:Array TypeId} {ty d:Nat} {pos:String} {af:Array Edge} (g:Fn prog H0.g f args res) (h:run tbu n k c ks fF fL [] [] []=some ⟨.ops all (⟨some d, .call ⟨.value x,xs,ats⟩,ty,pos,af,none⟩::rest),ks',F',L',[],az,az⟩) (ha:argsP F' x xs.toList=some (f,args)) (hd:Nat.blt d n=true) (q:res.wf->Hd prog n N H0 Q (.ops all rest) ks' ⟨updp F' d res,L'⟩):Hd prog n N H0 Q c ks ⟨fF,fL⟩:=kA k (call g ha hd q) h Y
theorem kR (k:Nat) {c:Cf} {F':Nat->PV} {L':Nat->Blk} {az as0:List Nat} {rs:List ResultVar} {res p:PV} (q:p=res) (h:run tbu n k c ks fF fL [] [] []=some ⟨.ex .ret,[],F',L',[],az,az⟩:=by exact Y) (hs:Is_ tbu ⟨F',L'⟩ rs=some ([p],as0,as0):=by exact Y):Hd prog n N H0 (rtK tbu rs res) c ks ⟨fF,fL⟩:=kA k (rt1 hs Y (ple q)) h Y
theorem jA (k:Nat) {c c':Cf} {ks':List Kt} {F':Nat->PV} {L':Nat->Blk} {az:List Nat} (h:run tbu n k c ks fF fL [] [] []=some ⟨c',ks',F',L',[],az,az⟩) (q:Hd prog n N H0 Q c' ks' ⟨F',L'⟩):Hd prog n N H0 Q c ks ⟨fF,fL⟩:=kA k q h Y
end
def gb:Gb:=⟨λH=>GInt H 0/\GPow H 5,λH H' hl h=>⟨h.1.mono hl,h.2.mono hl⟩⟩
theorem gbML {H:Hp} (h:gb.p H):GInt H 0:=h.1
theorem gbPow {H:Hp} (h:gb.p H):GPow H 5:=h.2
theorem r4_letter (c:Int):Fn prog gb 225 [.int .u8 c] (.bool (letter c)):=by
 refine kG func225 ntmps225 λw N H hG=>?_;refine kC 33 ?_;refine rt1 Y Y (ple ?_);simp[letter, *]
theorem Xc_ (s:Bs):Fn prog gb 229 [.str s] (.bool (plain s)):=by
 refine kG func229 ntmps229 λw N H hG=>?_;have s_l:s.length<=9223372036854775807:=w.1;refine kA 14 ?_;refine loop (ι:=Nat) [0,5,6] [] (λk=>[(7, .int .i64 (k:Int))]) (λk=>[]) (λk=>k<=s.length/\(s.drop k).all (λc=>letter c.toNat)=plain s) (λk=>s.length-k) 0 ⟨Y,Z⟩ Z ?_ ?_;exact⟨by omega,rfl⟩;rintro k hp0;obtain⟨hk1,hk2⟩:=hp0;refine kN 6 (λp0=>?_) λp1=>?_;have :=u8r (s.getD k 0);refine jA 14 Y<|q1 (sidx B_ k Y Y Y Y Y pB) Y λw0=>kC 16 ?_;refine cnd Y (λh0=>?_) (λh0=>?_);have h1:=bl h0;have p2:=dt h1;have h2:=br h0;have p3:=dt h2;refine kA 2 ?_;refine cndT Y h0 ?_;refine kC 8 ?_;refine next (k+1) Y Y ⟨Y,Z⟩ Z ?_ ?_;omega;exact xK;refine kC 11 ?_;refine cnd Y (λh1=>?_) (λh1=>?_);have h2:=bl h1;have p2:=dt h2;have h3:=br h1;have p3:=dt h3;refine kA 2 ?_;refine cndT Y h1 ?_;refine kC 8 ?_;refine next (k+1) Y Y ⟨Y,Z⟩ Z ?_ ?_;omega;exact xK;refine kM 7 (λh2=>?_) (λh2=>?_);have p2:=dt h2;refine kA 2 ?_;refine cndT Y h2 ?_;refine kC 8 ?_;refine next (k+1) Y Y ⟨Y,Z⟩ Z ?_ ?_;omega;exact xK;have p2:=df h2;refine kN 6 (λp3=>?_) λp4=>?_;refine kC 8 ?_;refine next (k+1) Y Y ⟨Y,Z⟩ Z ?_ ?_;omega;exact xK;refine kR 12 ?_;exact wV;refine kR 11 ?_;exact wV
theorem Eo_ (s:Bs):Fn prog gb 122 [.str s] (.int .i64 (Cx_ s)):=by
 refine kG func122 ntmps122 λw N H hG=>?_;refine kN 14 (λp0=>?_) λp1=>?_;exact uN;refine kN 8 (λp2=>?_) λp3=>?_;exact uN;refine kL 3 (Xc_ _) Y Y Y λw0=>kM 4 (λh0=>?_) (λh0=>?_);have h1:=C9_ h0;exact uN;have h1:=Cy_ h0;refine kR 9 ?_;simp[Cx_, *]<;>omega
theorem cb81:Bo_ prog 81:=Bi_ func81 pD pD
theorem out_Num (o:Out) (n bytes:Int) (hlen:o.s.length<=4611686018427387904):Fn prog gb 81 [.agg (Out.pc o), .int .u64 n, .int .i64 bytes] (.agg (Out.pc (M_ o n bytes))):=
 fn_of_pr (vs:=[.agg [str o.s, .int .i64 o.err].toArray, .int .u64 n, .int .i64 bytes]) (v:= .agg [str (M_ o n bytes).s, .int .i64 (M_ o n bytes).err].toArray) cb81 Y Y
   (λw H=>Sims.cons (Sim.toAgg (Sims.cons (Sim.str w.1.1) (Sims.cons (Sim.int w.1.2.1.1 w.1.2.1.2) Sims.nil))) (Sims.cons (Sim.int w.2.1.1 w.2.1.2) (Sims.cons (Sim.int w.2.2.1.1 w.2.2.1.2) Sims.nil)))
   (λw H=>Sim.toAgg (Sims.cons (Sim.str (by have :=B2_ o n bytes;omega)) (Sims.cons (Sim.int w.1.2.1.1 w.1.2.1.2) Sims.nil)))
   (λw H hG=>SW.out_Num H o n w.2.1 bytes w.2.2.1 hlen)
theorem Tl_ (o:Out) (s:Bs) (hlen:o.s.length+s.length<=4611686018427387904:=by ((try have :=hrl pE);first|omega|(simp[M_,Dp_,A1_,numK]<;>omega))):Fn prog gb 85 [.agg (Out.pc o), .str s] (.agg (Out.pc (Dp_ o s))):=by
 refine kG func85 ntmps85 λw N H hG=>?_;refine gmp B_ 23 [0,1] (λ_=>rfl) (λ_=>rfl) (λ_=>⟨(by first|omega|(simp<;>omega)),trivial⟩) λB0=>?_;exact uU
theorem Eq_ (o:Out):Fn prog gb 88 [.agg (Out.pc o)] (.str o.s):=by
 refine kG func88 ntmps88 λw N H hG=>?_;refine kB 14 [0] λB0=>?_;exact uU
theorem E9_ (o:Out) (s:Bs) (hlen:o.s.length+s.length<=4611686018427386000:=by ((try have :=hrl pE);first|omega|(simp[M_,Dp_,A1_,numK]<;>omega))):Fn prog gb 82 [.agg (Out.pc o), .str s] (.agg (Out.pc (V_ o s))):=by
 refine kG func82 ntmps82 λw N H hG=>?_;refine kB 14 [0,1] λB0=>?_;refine cn Y (λp0=>?_) λp1=>?_;refine kN 8 (λp2=>?_) λp3=>?_;refine kB 13 [] λ_=>?_;exact uV;refine kB 10 [] λ_=>?_;exact uV;refine jA 7 Y<|q1 (qconv B_ Y Y Y Y (Sp_ pB)) Y λw0=>call (out_Num _ _ _ pJ) Y Y λw1=>?_;have :=B2_ o (s.length:Int) 2;refine kL 1 (Tl_ _ _) Y Y Y λw2=>?_;have :=Jj_ (M_ o (s.length:Int) 2) s;refine kB 4 [] λ_=>?_;exact uV
theorem cb204:Bo_ prog 204:=Bi_ func204 pD pD
theorem cb89:Bo_ prog 89:=Bi_ func89 pD pD
theorem cb92:Bo_ prog 92:=Bi_ func92 pD pD
theorem octet_New (s:Bs):Fb prog gb 89 [.str s] 324 (In.pc (⟨s,0⟩)):=by
 refine fb_cw B_ func89 Y ntmps89 Y cb89 Y Y λw N H hG=>?_;refine kB 14 [0] λB0=>?_;refine rb Y Y Y Y Y ?_;exact ples_rfl
theorem in_Fail (i:In) (code:Int):Fm prog gb 204 [.int .i64 code] 324 (In.pc i) (.tup []) (In.pc (Js_ i code)):=by
 refine fm_cw B_ func204 Y ntmps204 Y cb204 Y Y Y Y λw wp b N H hG=>?_;refine jA 3 Y<|q1 (qpne underlying191 Y Y) Y λw0=>kC 13 ?_;refine cnd Y (λh0=>?_) (λh0=>?_);have h1:=bl h0;have h2:=br h1;have p0:=dt h2;have h3:=br h0;have h4:=C9_ h3;have p1:=df h4;refine kB 11 [] λ_=>?_;refine rm0n Y Y ?_ Y Y Y ?_;exact ple (by first|rfl|(simp[Js_, *];done));exact uP;refine kA 1 ?_;refine rm0n Y Y ?_ Y Y Y ?_;exact ple (by first|rfl|(simp[Js_, *];done));exact uP
theorem in_Raw (i:In) (n:Int):Fm prog gb 92 [.int .i64 n] 324 (In.pc i) (.str ((Kt_ i n).1)) (In.pc ((Kt_ i n).2)):=by
 refine fm_cw B_ func92 Y ntmps92 Y cb92 Y Y Y Y λw wp b N H hG=>?_;refine jA 11 Y<|q1 (qpeq underlying191 Y Y) Y λw0=>kM 14 (λh0=>?_) (λh0=>?_);have h1:=C9_ h0;have p0:=df h1;refine kA 2 ?_;refine cndT Y h0 ?_;refine kA 8 ?_;refine rm1 Y Y ?_ Y Y Y ?_;exact zK;exact uQ;have h1:=Cy_ h0;have p0:=dt h1;refine kN 6 (λp1=>?_) λp2=>?_;refine kA 8 ?_;refine rm1 Y Y ?_ Y Y Y ?_;exact zK;exact uQ;refine kN 12 (λp3=>?_) λp4=>?_;refine jA 3 Y<|ef (ecallm (in_Fail _ _) Y Y Y Y Y λw1 w12p=>?_);refine kA 10 ?_;refine rm1 Y Y ?_ Y Y Y ?_;exact zK;exact uQ;refine jA 10 Y<|q1 (sshi B_ (n).toNat Y Y Y Y pB pB) Y λw1=>jA 11 Y<|q1 (sslo B_ (n).toNat Y Y Y Y pB pB) Y λw2=>kB 12 [] λ_=>?_;refine rm1 Y Y ?_ Y Y Y ?_;exact zK;exact uQ
theorem cb297:Bo_ prog 297:=Bi_ func297 pD pD
theorem strings_Split (s p:Bs) (hp:p=[46]) (hs:s.length<4294967281):Fn prog gb 297 [.str s, .str p] (.sl strc (dots s)):=
 ⟨cb297,rfl,λN H L w us hg hsim hm=>by
   obtain⟨v1,_,rfl,h1,h2⟩:=hsim.inv_cons;obtain⟨v2,_,rfl,h3,h4⟩:=h2.inv_cons
   cases h4.inv_nil
   rw[h1.inv_str.1,h3.inv_str.1]
   refine (SW.strings_Split H s p hp (gbML hg) hs N L w hm).mono λ_ _ ⟨v,H',h5,⟨a,c,h6,h7⟩,h8,h9⟩=>⟨v,H',h5,?_,h8,h9⟩
   rw[h6]
   exact Sim.of_slh (k:=1) ⟨h7.1,λm hm=>by
     obtain⟨cs,hE,hat⟩:=h7.2 m hm;obtain⟨hE1,hE2⟩:=hE;subst hE1;exact⟨_,⟨rfl,Sims.nil.cons (Sim.str hE2),λu hu=>by simp at hu;subst hu;rfl⟩,hat⟩⟩ (by have :=dots_le s;omega)⟩
theorem Rf_ (s:Bs) (hs:s.length<4294967281:=by omega):Fn prog gb 371 [.str s] (.sl strc (Ck_ s)):=by
 refine kG func371 ntmps371 λw N H hG=>?_;refine kN 12 (λp0=>?_) λp1=>?_;refine kA 7 ?_;refine rt1 Y Y ?_;refine M0_ ?_;simp[Ck_, *];refine kL 5 (strings_Split _ _ (by rfl) pB) Y Y Y λw0=>kR 4 ?_;simp[Ck_, *]
theorem words_key (s:Bs) (besides:List Bs):Fn prog gb 314 [.str s, .sl strc besides] (.int .i64 (keyE besides s)):=by
 refine kG func314 ntmps314 λw N H hG=>?_;have s_l:s.length<=9223372036854775807:=w.1;have besides_l:besides.length<=140737488355328:=w.2.1.1;refine kN 14 (λp0=>?_) λp1=>?_;refine kR 8 ?_;simp[keyE, *];refine kL 9 (Rf_ _) Y Y Y λw0=>kA 5 ?_;refine loop (ι:=Nat) [0,1,9,10,11,12,13,14] [] (λk=>[(15, .int .i64 (k:Int))]) (λk=>[]) (λk=>k<=(Ck_ s).length/\(Ck_ s).any (Qp_ besides)=((Ck_ s).drop k).any (Qp_ besides)) (λk=>(Ck_ s).length-k) 0 ⟨Y,Z⟩ Z ?_ ?_;exact yA;rintro k hp0;obtain⟨hk1,hk2⟩:=hp0;have hwl:=S1_ s;refine kN 6 (λp2=>?_) λp3=>?_;obtain⟨c0,hc0⟩:=getE (xs:=Ck_ s) (m:=k) pB;refine jA 6 Y<|kI k hc0 λw1=>?_;refine kA 13 ?_;refine loop (ι:=Nat) [0,1,6,9,10,11,12,13,14,15,16,17,18,19,20] [] (λj=>[(21, .int .i64 (j:Int))]) (λj=>[]) (λj=>j<=besides.length/\besides.contains c0=(besides.drop j).contains c0) (λj=>besides.length-j) 0 ⟨Y,Z⟩ Z ?_ ?_;exact yA;rintro j hp1;obtain⟨hj1,hj2⟩:=hp1;refine kN 6 (λp4=>?_) λp5=>?_;obtain⟨c1,hc1⟩:=getE (xs:=besides) (m:=j) pB;refine jA 6 Y<|kI j hc1 λw2=>?_;refine kN 11 (λp6=>?_) λp7=>?_;refine kC 12 ?_;refine next (k+1) Y Y ⟨Y,Z⟩ Z ?_ ?_;omega;refine⟨by omega,?_⟩;rw[hk2,Df_ hc0,List.any_cons];have hb:Qp_ besides c0=false:=by
   unfold Qp_
   rw[hj2,Df_ hc1]
   first|(simp[*];done)|simp_all
 simp[hb];refine kC 7 ?_;refine next (j+1) Y Y ⟨Y,Z⟩ Z ?_ ?_;omega;refine⟨by omega,?_⟩;rw[hj2,Df_ hc1,List.contains_cons];simp[*];refine kA 11 ?_;refine callg Y (λhc=>(Xc_ _)) Y ⟨(λhc=>hc),trivial⟩ Y Y λ_=>kC 4 ?_;refine cnd Y (λh0=>?_) (λh0=>?_);refine kR 12 ?_;have hb:Qp_ besides c0=true:=by
   exact qB
 exact qD;have h1:=orl h0;have p6:=df h1;have h2:=orr h0;have h3:=Cy_ h2;refine kC 7 ?_;refine next (k+1) Y Y ⟨Y,Z⟩ Z ?_ ?_;omega;refine⟨by omega,?_⟩;rw[hk2,Df_ hc0,List.any_cons];have hb:Qp_ besides c0=false:=by
   exact qB
 simp[hb];refine kR 12 ?_;unfold keyE;exact sH
theorem words_Key (s:Bs):Fn prog gb 231 [.str s] (.int .i64 (keyE [] s)):=by
 refine kG func231 ntmps231 λw N H hG=>?_;refine kL 8 (Fn.le (words_key _ []) (A_ (ple Y) (A_ Av_ A6_)) (ple Y) Y) Y Y Y λw0=>kR 4 ?_;rfl
theorem ag2:Ag prog 2 false:=λw=>by kernel_rfl
theorem ag5:Ag prog 5 false:=λw=>by kernel_rfl
theorem ag9:Ag prog 9 false:=λw=>by kernel_rfl
theorem eqg320:prog.eqGuardType prog.depth 320=false:=by kernel_rfl
theorem mixd:prog.follows .mixedOrders=true:=by kernel_rfl
theorem veq320 (p q:Pair):∀ (H:Hp) (vs us:List Value),Sims H (Pair.pc p) vs->Sims H (Pair.pc q) us->EqV prog 10000 320 (.agg vs.toArray) (.agg us.toArray) (decide (p=q)):=by
 intro H vs us hv hu;obtain⟨_,_,rfl,v0,v_0⟩:=hv.inv_cons;obtain⟨_,_,rfl,v1,v_1⟩:=v_0.inv_cons;obtain⟨_,_,rfl,v2,v_2⟩:=v_1.inv_cons;obtain⟨_,_,rfl,v3,v_3⟩:=v_2.inv_cons
 cases v_3.inv_nil
 cases v0.inv_str.1;cases v1.inv_int.1;cases v2.inv_int.1;cases v3.inv_str.1
 obtain⟨_,_,rfl,u0,u_0⟩:=hu.inv_cons;obtain⟨_,_,rfl,u1,u_1⟩:=u_0.inv_cons;obtain⟨_,_,rfl,u2,u_2⟩:=u_1.inv_cons;obtain⟨_,_,rfl,u3,u_3⟩:=u_2.inv_cons
 cases u_3.inv_nil
 cases u0.inv_str.1;cases u1.inv_int.1;cases u2.inv_int.1;cases u3.inv_str.1
 exact EqV.to' (Fs_ underlying320 pD (Ev_ pC ag9 Y Y (K8_ underlying9) (Ev_ pC ag5 Y Y (Bm_ underlying5) (Ev_ pC ag2 Y Y (Bm_ underlying2) (Ev_ pC ag9 Y Y (K8_ underlying9) Fr_))))) oY
theorem eq_Pair (a:List Pair) (b:List Pair):Fn prog gb 345 [.sl Pair.pc a, .sl Pair.pc b] (.bool (decide (a=b))):=by
 refine kG func345 ntmps345 λw N H hG=>?_;have a_l:a.length<=140737488355328:=w.1.1;refine kM 15 (λh0=>?_) (λh0=>?_);exact xX;have h1:=Cy_ h0;have p0:=dt h1;refine kA 11 ?_;refine loop (ι:=Nat) [0,1,6,7,8,9,10,11,12] [] (λk=>[(13, .int .i64 (k:Int))]) (λk=>[]) (λk=>k<=a.length /\ decide (a=b) = decide (a.drop k=b.drop k)) (λk=>a.length-k) 0 ⟨Y,Z⟩ Z ?_ ?_;exact yJ;rintro k hp0;obtain⟨hk1,hk2⟩:=hp0;refine kM 6 (λh2=>?_) (λh2=>?_);have p1:=dt h2;refine kA 11 ?_;refine aN [0,1,2,3,4,5] 9 mixd<|kE [0,1] 7 ?_;obtain⟨c0,hc0⟩:=getE (xs:=a) (m:=k) pB;refine vq 2 (qidx B_ k Y Y Y hc0 Y Y Y Y) Y pD Y λw0=>kE [3,4,5] 3 ?_;obtain⟨c1,hc1⟩:=getE (xs:=b) (m:=k) pB;refine vq 6 (qidx B_ k Y Y Y hc1 Y Y Y Y) Y pD Y λw1=>kE [7] 1 ?_;refine vq 8 (sane Y Y eqg320 (veq320 c0 c1)) Y pD Y λw2=>vD ?_;refine kM 1 (λh3=>?_) (λh3=>?_);exact wB;have h4:=Cy_ h3;have p2:=dt h4;refine kC 7 ?_;refine next (k+1) Y Y ⟨Y,Z⟩ Z ?_ ?_;omega;exact xI;exact wI
theorem head_Same (a:List Pair) (b:List Pair):Fn prog gb 312 [.sl Pair.pc a, .sl Pair.pc b] (.bool (decide (a=b))):=by
 refine kG func312 ntmps312 λw N H hG=>?_;refine kL 9 (eq_Pair _ _) Y Y Y λw0=>kR 4 ?_;rfl
theorem idxF_Pair (s:List Pair) (f:FuncId) (f_fst f_cap:List PV) (f_p:Pair->Bool) (f_h:∀ x,Fn prog gb f (argsP.apL f_fst ((.agg (Pair.pc x))::f_cap)) (.bool (f_p x))):Fn prog gb 369 [.sl Pair.pc s, .fn f f_fst f_cap] (.int .i64 (idxP f_p s)):=by
 refine kG func369 ntmps369 λw N H hG=>?_;have s_l:s.length<=140737488355328:=w.1.1;refine kA 14 ?_;refine loop (ι:=Nat) [0,1,6,7] [] (λk=>[(8, .int .i64 (k:Int))]) (λk=>[]) (λk=>k<=s.length/\idxP f_p s=idxF f_p k (s.drop k)) (λk=>s.length-k) 0 ⟨Y,Z⟩ Z ?_ ?_;exact yJ;rintro k hp0;obtain⟨hk1,hk2⟩:=hp0;refine kM 6 (λh0=>?_) (λh0=>?_);have p0:=dt h0;obtain⟨c0,hc0⟩:=getE (xs:=s) (m:=k) pB;refine jA 15 Y<|kI k hc0 λw0=>?_;refine kL 1 (f_h c0) Y Y Y λw1=>kM 2 (λh1=>?_) (λh1=>?_);exact uJ;refine kC 7 ?_;refine next (k+1) Y Y ⟨Y,Z⟩ Z ?_ ?_;omega;exact xH;exact wG
theorem head_Find1 (p:Pair) (key:Bs):Fn prog gb 370 [.agg (Pair.pc p), .el [.str key] 0] (.bool (decide (p.key=key))):=by
 refine kG func370 ntmps370 λw N H hG=>?_;refine kB 16 [0] λB0=>?_;exact uU
theorem head_Find (h:List Pair) (key:Bs):Fn prog gb 313 [.sl Pair.pc h, .str key] (.tup [.agg (Pair.pc ((J8_ h key).getD Pair.zero)), .bool ((J8_ h key).isSome)]):=by
 refine kG func313 ntmps313 λw N H hG=>?_;refine kB 10 [0,1] λB0=>?_;refine freeze (i:=0) (t:=3) Y Y Y Y<|kL 1 (idxF_Pair _ _ _ _ (λz_4:Pair=>decide (z_4.key=key)) (λz_4=>head_Find1 z_4 key)) Y Y Y λw0=>?_;have hix5:=Io_ (λz_4:Pair=>decide (z_4.key=key)) h;refine kN 10 (λp0=>?_) λp1=>?_;refine kB 9 [] λ_=>?_;refine rt2 Y Y ?_;refine ple ?_;have e:=Ms_ pE;have e0:J8_ h key=none:=by unfold J8_;rw[<- e];congr 1;funext x;exact V0_ _ _
 rw[e0];rfl;obtain⟨c0,hc0⟩:=getE (xs:=h) (m:=(idxP (λz_4:Pair=>decide (z_4.key=key)) h).toNat) pB;refine jA 6 Y<|q1 (qidx B_ (idxP (λz_4:Pair=>decide (z_4.key=key)) h).toNat Y Y pB hc0 Y Y Y Y) Y λw1=>kB 6 [] λ_=>?_;refine rt2 Y Y ?_;refine ple ?_;have e:=(Ul_ pE hc0).2;have e0:J8_ h key=some c0:=by unfold J8_;rw[<- e];congr 1;funext x;exact V0_ _ _
 rw[e0];rfl
theorem head_pair (p:Pair) (ahead:List Pair):Fn prog gb 230 [.agg (Pair.pc p), .sl Pair.pc ahead] (.int .i64 (Fj_ p ahead)):=by
 refine kG func230 ntmps230 λw N H hG=>?_;refine kB 11 [0] λB0=>?_;refine call (Eo_ _) Y Y λw0=>kM 9 (λh0=>?_) (λh0=>?_);have h1:=C9_ h0;exact uM;have h1:=Cy_ h0;have p0:=dt h1;refine kL 7 (head_Find _ _) Y Y Y λw1=>kB 18 [1] λB1=>?_;refine cnd Y (λh2=>?_) (λh2=>?_);have p1:=dt h2;exact uM;have p1:=df h2;refine kC 14 ?_;refine cnd Y (λh3=>?_) (λh3=>?_);have h4:=bl h3;have h5:=br h3;exact uM;refine kC 18 ?_;refine cnd Y (λh4=>?_) (λh4=>?_);have h5:=bl h4;have h6:=bl h5;have p2:=dt h6;have h7:=br h5;have h8:=C9_ h7;have h9:=br h4;have h10:=C9_ h9;exact uM;refine kC 14 ?_;refine cnd Y (λh5=>?_) (λh5=>?_);have h6:=bl h5;have p2:=dt h6;have h7:=br h5;have h8:=C9_ h7;refine kA 2 ?_;refine cndT Y h5 ?_;exact uM;refine kC 12 ?_;refine cnd Y (λh6=>?_) (λh6=>?_);have h7:=bl h6;have h8:=C9_ h7;have h9:=br h6;have h10:=C9_ h9;exact uM;refine kM 6 (λh7=>?_) (λh7=>?_);exact uM;refine kR 9 ?_;refine congrArg (PV.int .i64) ?_;simp only[bl1] at *;unfold Fj_
 (repeat' split)<;>first|rfl|(exfalso;omega)|(exfalso;simp_all;done)|(exfalso;simp_all;omega)|grind
theorem Lu_ (h:List Pair):Fn prog gb 125 [.sl Pair.pc h] (.int .i64 (Du_ h)):=by
 refine kG func125 ntmps125 λw N H hG=>?_;refine kN 13 (λp0=>?_) λp1=>?_;refine kR 7 ?_;simp[Du_, *];refine kA 11 ?_;refine loop (ι:=Nat) [0,6,7,8,9,10] [] (λk=>[(11, .int .i64 (k:Int))]) (λk=>[]) (λk=>k<=h.length/\Jf_ [] h=Jf_ (h.take k) (h.drop k)) (λk=>h.length-k) 0 ⟨Y,Z⟩ Z ?_ ?_;exact yJ;rintro k hp0;obtain⟨hk1,hk2⟩:=hp0;refine kN 6 (λp2=>?_) λp3=>?_;obtain⟨c0,hc0⟩:=getE (xs:=h) (m:=k) pB;refine jA 7 Y<|kI k hc0 λw0=>?_;refine kB 7 [0] λB0=>?_;refine aN [1,2,3,4,5,6] 6 mixd<|kE [0,1,2] 3 ?_;refine vq 3 (lshi B_ k Y Y Y Y Y (λ_=>rfl) Y pB) Y pD Y λw1=>vC 4 Y (head_pair _ _) Y λw2=>?_;have :=Wg_ c0 (h.take k);refine kE [5] 0 ?_;refine vD<|kM 7 (λh0=>?_) (λh0=>?_);exact xY;have h1:=Cy_ h0;have p4:=dt h1;refine kC 7 ?_;refine next (k+1) Y Y ⟨Y,Z⟩ Z ?_ ?_;omega;exact tN;refine kR 11 ?_;unfold Du_;exact sH
theorem Y2_ (a:R_) (b:R_):Fn prog gb 227 [.agg (R_.pc a), .agg (R_.pc b)] (.bool (decide (a=b))):=by
 refine kG func227 ntmps227 λw N H hG=>?_;refine kD 40 [0,1] λB0=>?_;refine callg Y (λhc=>(head_Same _ _)) Y ⟨(λhc=>hc),(λhc=>hc),trivial⟩ Y Y λ_=>kC 12 ?_;exact uT
theorem Uj_ (yes:Bool):Fn prog gb 308 [.bool yes] (.int .u64 (bitN yes)):=by
 refine kG func308 ntmps308 λw N H hG=>?_;refine kM 11 (λh0=>?_) (λh0=>?_);refine kR 7 ?_;simp only[bitN, *];rfl;refine kR 8 ?_;simp only[bitN, *];rfl
theorem cb93:Bo_ prog 93:=Bi_ func93 pD pD
theorem in_Num (i:In) (bytes:Int):Fm prog gb 93 [.int .i64 bytes] 324 (In.pc i) (.int .u64 (((Zj_ i bytes)).1)) (In.pc (((Zj_ i bytes)).2)):=by
 refine fm_cw B_ func93 Y ntmps93 Y cb93 Y Y Y Y λw wp b N H hG=>?_;have hb0:=inRaw_len i (min bytes 8);refine jA 16 Y<|ef (ecallm (in_Raw _ (min bytes 8)) Y Y Y Y Y λw0 w1p=>?_);refine ef (ss2b B_ Y Y Y Y Y Y Y pB Y ?_);refine kA 5 ?_;refine loop (ι:=Nat) [0,1,4,8,9,10,11,12,13] [0] (λk=>[(5, .int .u64 (beN ((Kt_ i (min bytes 8)).1.take k):Int)),(14, .int .i64 (k:Int))]) (λk=>[]) (λk=>k<=(Kt_ i (min bytes 8)).1.length) (λk=>(Kt_ i (min bytes 8)).1.length-k) 0 ⟨Y,Y,Z⟩ Z ?_ ?_;exact Nat.zero_le _;rintro k hp0;refine kN 6 (λp0=>?_) λp1=>?_;obtain⟨c0,hc0⟩:=getE (xs:=(Kt_ i (min bytes 8)).1) (m:=k) pB;refine jA 6 Y<|kI k hc0 λw1=>?_;have :=H7_ ((BitVec.ofInt (IntKind.bits .u64) (IntKind.wrap .u64 ((beN ((Kt_ i (min bytes 8)).1.take k):Int)*2 ^ (min (8:Int).toNat (IntKind.bits .u64)))) |||BitVec.ofInt (IntKind.bits .u64) ((c0).toNat:Int)).toNat);refine kC 18 ?_;refine next (k+1) Y Y ⟨(congrArg (PV.int .u64) (num_step hc0 pB)),rfl,trivial⟩ Z ?_ ?_;omega;omega;refine kA 12 ?_;refine rm1 Y Y ?_ Y Y Y ?_;refine ple ?_;simp only[Zj_];rw[List.take_of_length_le pB];exact ples Y
theorem Lt_ (pattern:Bs) (key:Bs) (hp:pattern.length<4294967281:=by first|omega|(simp;done)|decide) (hk:key.length<4294967281:=by first|omega|(simp;done)|decide):Fn prog gb 364 [.str pattern, .str key] (.bool (mt (Ck_ pattern) (Ck_ key))):=by
 refine kG func364 ntmps364 λw N H hG=>?_;refine kL 8 (Rf_ _) Y Y Y λw0=>kL 1 (Rf_ _) Y Y Y λw1=>kA 18 ?_;refine loop (ι:=Nat×Nat×Int×Nat) [0,1,5,6,11,12,13,14] [] (λ⟨i,j,b,f⟩=>[(7, .int .i64 (i:Int)),(8, .int .i64 (j:Int)),(9, .int .i64 b),(10, .int .i64 (f:Int))]) (λ⟨i,j,b,f⟩=>[]) (λ⟨i,j,b,f⟩=>MI (Ck_ pattern) (Ck_ key) i j b f) (λ⟨i,j,b,f⟩=>mmu (Ck_ pattern) (Ck_ key) j b f) ⟨0,0,(-1),0⟩ ⟨Y,Y,Y,Y,Z⟩ Z ?_ ?_;exact MI.start _ _;rintro⟨i,j,b,f⟩ hp0;have hmi:=hp0;have hwp:=S1_ pattern;have hwk:=S1_ key;have :=hmi.hi;have :=hmi.hj;have :=hmi.hf;have :=hmi.hb;have :=hmi.hbi;refine kM 9 (λh0=>?_) (λh0=>?_);have p0:=dt h0;obtain⟨c0,hc0⟩:=getJ (Ck_ pattern) i;refine kA 13 ?_;refine q1g [25,26] Y (λhc=>qidx B_ i Y Y Y (hc0 pH) Y Y Y Y) ⟨(λhc=>hc),(λhc=>hc),trivial⟩ Y Y Y λ_=>?_;refine kC 6 ?_;refine cnd Y (λh1=>?_) (λh1=>?_);have h2:=bl h1;have p1:=dt h2;have h3:=br h1;have p2:=dt h3;refine kC 15 ?_;obtain⟨c1,hc1⟩:=getE (xs:=Ck_ key) (m:=j) pB;refine next ⟨(i+1),j,((i:Int)+1),j⟩ Y Y ⟨(congrArg (PV.int .i64) pB),rfl,rfl,rfl,trivial⟩ Z ?_ ?_;exact mmu_hash hmi pB;exact MI.hash hmi nO;refine kA 1 ?_;refine aN [0,1,2,3,4,5] 23 mixd<|kE [0,1,2,3,4,5,6] 16 ?_;refine vqg 7 [41,42] Y pD Y Y (λhc=>qidx B_ i Y Y Y (hc0 pH) Y Y Y Y) ⟨(λhc=>hc),(λhc=>hc),trivial⟩ Y λ_=>?_;refine kF [8,9,10,11,12] 10 ?_;refine vqg 13 [47,48] Y pD Y Y (λhc=>qidx B_ i Y Y Y (hc0 pH) Y Y Y Y) ⟨(λhc=>hc),(λhc=>hc),trivial⟩ Y λ_=>?_;refine kF [14,15,16] 6 ?_;obtain⟨c1,hc1⟩:=getJ (Ck_ key) j;refine vqg 17 [51,52] Y pD Y Y (λhc=>qidx B_ j Y Y Y (hc1 pH) Y Y Y Y) ⟨(λhc=>hc),(λhc=>hc),trivial⟩ Y λ_=>?_;refine kF [18,19,20,21,22] 0 ?_;refine vD<|kM 1 (λh2=>?_) (λh2=>?_)
 . have h3:=bl h2;have p1:=dt h3;refine kC 10 ?_;refine next ⟨(i+1),(j+1),b,f⟩ Y Y ⟨(congrArg (PV.int .i64) pB),rfl,rfl,rfl,trivial⟩ Z ?_ ?_
   exact mmu_step pB
   first|exact MI.step hmi (hc0 pH) (hc1 pH) pE (by first|exact .inl pE|exact .inr pE)|exact MI.step hmi (hc0 pH) (hc1 pH) (by simp_all) (by first|(left;simp_all;done)|(right;simp_all;done)|grind)
 refine kM 7 (λh3=>?_) (λh3=>?_);have p1:=dt h3;refine kC 15 ?_;have hbad:∀ w,(Ck_ pattern)[i]? = some w->w≠[35]/\w≠[42]/\w≠c1:=by
   intro w hw;obtain⟨hlt,_⟩:=List.getElem?_eq_some_iff.1 hw
   rw[(hc0 pH)] at hw;cases hw
   first|exact⟨by assumption,by assumption,by assumption⟩|(refine⟨?_,?_,?_⟩<;>intro q<;>simp_all)
 refine next ⟨b.toNat,(f+1),b,(f+1)⟩ Y Y ⟨(congrArg (PV.int .i64) pB),rfl,rfl,rfl,trivial⟩ Z ?_ ?_;exact mmu_back hmi.hf pB;exact MI.back hmi (hc1 pH) pB hbad;have p1:=df h3;refine kR 11 ?_;have hbad:∀ w,(Ck_ pattern)[i]? = some w->w≠[35]/\w≠[42]/\w≠c1:=by
   intro w hw;obtain⟨hlt,_⟩:=List.getElem?_eq_some_iff.1 hw
   rw[(hc0 pH)] at hw;cases hw
   first|exact⟨by assumption,by assumption,by assumption⟩|(refine⟨?_,?_,?_⟩<;>intro q<;>simp_all)
 exact congrArg PV.bool (MI.none hmi (hc1 pH) pB hbad).symm;have p0:=df h0;refine kA 7 ?_;refine loop (ι:=Nat) [0,1,5,6,8,9,10,11,12,13,14,15,16,17,18] [] (λq=>[(7, .int .i64 (q:Int))]) (λq=>[]) (λq=>q<=(Ck_ pattern).length/\mt (Ck_ pattern) (Ck_ key)=mt ((Ck_ pattern).drop q) []) (λq=>(Ck_ pattern).length-q) i ⟨Y,Z⟩ Z ?_ ?_;exact⟨by omega,hmi.fin pB⟩;rintro q hp1;obtain⟨hq1,hq2⟩:=hp1;obtain⟨c0,hc0⟩:=getJ (Ck_ pattern) q;refine kA 10 ?_;refine q1g [74,75] Y (λhc=>qidx B_ q Y Y Y (hc0 pH) Y Y Y Y) ⟨(λhc=>hc),(λhc=>hc),trivial⟩ Y Y Y λ_=>?_;refine kC 5 ?_;refine cnd Y (λh1=>?_) (λh1=>?_);have h2:=bl h1;have p1:=dt h2;have h3:=br h1;have p2:=dt h3;refine kC 9 ?_;refine next (q+1) Y Y ⟨Y,Z⟩ Z ?_ ?_;omega;exact⟨by omega,mt_end hq2 nO⟩;refine kR 15 ?_;refine congrArg PV.bool ?_;rw[hq2];by_cases hql:q<(Ck_ pattern).length;rw[mt_endN (hc0 pH) (by first|assumption|simp_all)];rw[decide_eq_false_iff_not];omega;have hqe:q=(Ck_ pattern).length:=by omega
 subst hqe;rw[List.drop_length];simp[mt]
theorem words_Pattern (s:Bs):Fn prog gb 335 [.str s] (.int .i64 (keyE patB s)):=by
 refine kG func335 ntmps335 λw N H hG=>?_;refine jA 8 Y<|ef (bsl 0 strc [[42],[35]] B_ Y Y Y Y Y (λ_=>rfl) Y pC pC Y λu0=>?_);refine ef (calll 0 Y (words_key _ _) Y Y Y λw0=>?_);refine kR 4 ?_;rfl
theorem Pt_ (h:List Pair):Fn prog gb 83 [.sl Pair.pc h] (.tup [.str (Db_ h), .int .i64 (Du_ h)]):=by
 refine kG func83 ntmps83 λw N H hG=>?_;have h_l:h.length<=140737488355328:=w.1.1;refine kL 10 (Lu_ _) Y Y Y λw0=>kM 9 (λh0=>?_) (λh0=>?_);have h1:=C9_ h0;have p0:=df h1;refine kA 9 ?_;refine rt2 Y Y ?_;refine ple ?_;unfold Db_;rw[if_neg pB];have h1:=Cy_ h0;have p0:=dt h1;refine jA 7 Y<|q1 (qconv B_ Y Y Y Y (Sp_ pB)) Y λw1=>call (out_Num (⟨[],0⟩:Out) _ _ pJ) Y Y λw2=>?_;have :=B2_ (⟨[],0⟩:Out) (h.length:Int) 1;refine kB 13 [0] λB0=>?_;refine loop (ι:=Nat×Out) [0,2,3,4,5,8,9,10,11,13,14,15,16,17,18,19] [] (λ⟨k,o⟩=>[(20, .int .i64 (k:Int))]) (λ⟨k,o⟩=>[(0, .box (B0 0) 183 [.str o.s, .int .i64 o.err])]) (λ⟨k,o⟩=>k<=h.length/\h.foldl H2_ (M_ ⟨[],0⟩ h.length 1)=(h.drop k).foldl H2_ o/\o.s.length<=8+110*k) (λ⟨k,o⟩=>h.length-k) ⟨0,(M_ (⟨[],0⟩:Out) (h.length:Int) 1)⟩ ⟨Y,Z⟩ ⟨Y,Z⟩ ?_ ?_;exact⟨Nat.zero_le _,rfl,by simp at *;omega⟩;rintro⟨k,o⟩ hp0;obtain⟨hk1,hk2,hk3⟩:=hp0;have hok:=Oa_ (h:=h) pE;refine kN 6 (λp1=>?_) λp2=>?_
 . obtain⟨c0,hc0⟩:=getE (xs:=h) (m:=k) pB;have hpk:=hok.2 c0 (List.mem_of_getElem? hc0);refine jA 6 Y<|kI k hc0 λw3=>?_;refine kB 6 [1] λB1=>?_;refine aN [2,3,4,5,6,7] 9 mixd<|kE [0,1,2] 6 ?_;refine vC 3 Y (E9_ _ _) Y λw4=>?_;have :=B9_ o c0.key;refine kE [4,5,6] 2 ?_;refine vC 7 Y (out_Num _ _ _ pJ) Y λw5=>?_;have :=B2_ (V_ o c0.key) c0.kind 1;refine vT 8 Y (sA B_ ?_);refine vD<|kN 14 (λp3=>?_) λp4=>?_
   . refine kA 5 ?_;refine call (out_Num _ _ _ pJ) Y Y λw6=>?_;have :=B2_ (M_ (V_ o c0.key) c0.kind 1) (IntKind.wrap .u64 c0.num) 8;refine kD 9 [] λ_=>?_;refine next ⟨(k+1),(M_ (M_ (V_ o c0.key) c0.kind 1) (IntKind.wrap .u64 c0.num) 8)⟩ Y Y ⟨Y,Z⟩ ⟨Y,Z⟩ ?_ ?_
     simp only[];omega
     have e:(M_ (M_ (V_ o c0.key) c0.kind 1) (IntKind.wrap .u64 c0.num) 8)=H2_ o c0:=by unfold H2_;first|(rw[if_pos pB];done)|(rw[if_neg pB,if_pos pB];done)|(rw[if_neg pB,if_neg pB,if_pos pB];done)|(rw[if_neg pB,if_neg pB,if_neg pB];done)
     exact sX
   refine kN 6 (λp5=>?_) λp6=>?_
   . refine kL 4 (E9_ _ _) Y Y Y λw6=>?_;have :=B9_ (M_ (V_ o c0.key) c0.kind 1) c0.text;refine kD 9 [] λ_=>?_;refine next ⟨(k+1),(V_ (M_ (V_ o c0.key) c0.kind 1) c0.text)⟩ Y Y ⟨Y,Z⟩ ⟨Y,Z⟩ ?_ ?_
     simp only[];omega
     have e:(V_ (M_ (V_ o c0.key) c0.kind 1) c0.text)=H2_ o c0:=by unfold H2_;first|(rw[if_pos pB];done)|(rw[if_neg pB,if_pos pB];done)|(rw[if_neg pB,if_neg pB,if_pos pB];done)|(rw[if_neg pB,if_neg pB,if_neg pB];done)
     exact sX
   refine kN 6 (λp7=>?_) λp8=>?_
   . refine kA 5 ?_;refine call (out_Num _ _ _ pJ) Y Y λw6=>?_;have :=B2_ (M_ (V_ o c0.key) c0.kind 1) (IntKind.wrap .u64 c0.num) 1;refine kD 9 [] λ_=>?_;refine next ⟨(k+1),(M_ (M_ (V_ o c0.key) c0.kind 1) (IntKind.wrap .u64 c0.num) 1)⟩ Y Y ⟨Y,Z⟩ ⟨Y,Z⟩ ?_ ?_
     simp only[];omega
     have e:(M_ (M_ (V_ o c0.key) c0.kind 1) (IntKind.wrap .u64 c0.num) 1)=H2_ o c0:=by unfold H2_;first|(rw[if_pos pB];done)|(rw[if_neg pB,if_pos pB];done)|(rw[if_neg pB,if_neg pB,if_pos pB];done)|(rw[if_neg pB,if_neg pB,if_neg pB];done)
     exact sX
   refine kC 8 ?_;refine next ⟨(k+1),(M_ (V_ o c0.key) c0.kind 1)⟩ Y Y ⟨Y,Z⟩ ⟨Y,Z⟩ ?_ ?_
   simp only[];omega
   have e:(M_ (V_ o c0.key) c0.kind 1)=H2_ o c0:=by unfold H2_;first|(rw[if_pos pB];done)|(rw[if_neg pB,if_pos pB];done)|(rw[if_neg pB,if_neg pB,if_pos pB];done)|(rw[if_neg pB,if_neg pB,if_neg pB];done)
   exact sX
 refine kL 8 (Eq_ _) Y Y Y λw3=>kA 5 ?_;refine rt2 Y Y ?_;refine ple ?_;unfold Db_;rw[if_pos pE];rw[List.drop_of_length_le pB,List.foldl_nil] at hk2;rw[show Va_ h=o from hk2];have e0:Du_ h=0:=by assumption
 rw[e0]
theorem ag36:Ag prog 36 false:=λw=>by kernel_rfl
theorem eqg80:prog.eqGuardType prog.depth 80=false:=by kernel_rfl
theorem eqg82:prog.eqGuardType prog.depth 82=false:=by kernel_rfl
theorem veq80 (p q:Z_):∀ (H:Hp) (vs us:List Value),Sims H (Z_.pc p) vs->Sims H (Z_.pc q) us->EqV prog 10000 80 (.agg vs.toArray) (.agg us.toArray) (decide (p=q)):=by
 intro H vs us hv hu;obtain⟨_,_,rfl,v0,v_0⟩:=hv.inv_cons;obtain⟨_,_,rfl,v1,v_1⟩:=v_0.inv_cons;obtain⟨_,_,rfl,v2,v_2⟩:=v_1.inv_cons
 cases v_2.inv_nil
 cases v0.inv_str.1;cases v1.inv_int.1;cases v2.inv_str.1
 obtain⟨_,_,rfl,u0,u_0⟩:=hu.inv_cons;obtain⟨_,_,rfl,u1,u_1⟩:=u_0.inv_cons;obtain⟨_,_,rfl,u2,u_2⟩:=u_1.inv_cons
 cases u_2.inv_nil
 cases u0.inv_str.1;cases u1.inv_int.1;cases u2.inv_str.1
 exact EqV.to' (Fs_ underlying80 pD (Ev_ pC ag9 Y Y (K8_ underlying9) (Ev_ pC ag5 Y Y (Bm_ underlying5) (Ev_ pC ag9 Y Y (K8_ underlying9) Fr_)))) oN
theorem veq82 (p q:Ae_):∀ (H:Hp) (vs us:List Value),Sims H (Ae_.pc p) vs->Sims H (Ae_.pc q) us->EqV prog 10000 82 (.agg vs.toArray) (.agg us.toArray) (decide (p=q)):=by
 intro H vs us hv hu;obtain⟨_,_,rfl,v0,v_0⟩:=hv.inv_cons;obtain⟨_,_,rfl,v1,v_1⟩:=v_0.inv_cons;obtain⟨_,_,rfl,v2,v_2⟩:=v_1.inv_cons;obtain⟨_,_,rfl,v3,v_3⟩:=v_2.inv_cons
 cases v_3.inv_nil
 cases v0.inv_str.1;cases v1.inv_int.1;cases v2.inv_int.1;cases v3.inv_str.1
 obtain⟨_,_,rfl,u0,u_0⟩:=hu.inv_cons;obtain⟨_,_,rfl,u1,u_1⟩:=u_0.inv_cons;obtain⟨_,_,rfl,u2,u_2⟩:=u_1.inv_cons;obtain⟨_,_,rfl,u3,u_3⟩:=u_2.inv_cons
 cases u_3.inv_nil
 cases u0.inv_str.1;cases u1.inv_int.1;cases u2.inv_int.1;cases u3.inv_str.1
 exact EqV.to' (Fs_ underlying82 pD (Ev_ pC ag9 Y Y (K8_ underlying9) (Ev_ pC ag36 Y Y (Bm_ underlying36) (Ev_ pC ag36 Y Y (Bm_ underlying36) (Ev_ pC ag9 Y Y (K8_ underlying9) Fr_))))) oY
theorem Lw_ (m:Mail):Fn prog gb 126 [.agg (Mail.pc m)] (.int .i64 (Eg_ m)):=by
 refine kG func126 ntmps126 λw N H hG=>?_;refine kB 11 [0] λB0=>?_;refine call (Eo_ _) Y Y λw0=>kM 9 (λh0=>?_) (λh0=>?_);have h1:=C9_ h0;exact qW;have h1:=Cy_ h0;have p0:=dt h1;refine kL 7 (words_Key _) Y Y Y λw1=>kM 9 (λh2=>?_) (λh2=>?_);have h3:=C9_ h2;exact qW;have h3:=Cy_ h2;have p1:=dt h3;refine kL 7 (Lu_ _) Y Y Y λw2=>kM 11 (λh4=>?_) (λh4=>?_);have h5:=C9_ h4;refine kR 9 ?_;exact wS;have h5:=Cy_ h4;have p2:=dt h5;refine kM 9 (λh6=>?_) (λh6=>?_);have p3:=dt h6;exact qW;have p3:=df h6;refine kM 8 (λh7=>?_) (λh7=>?_);have p4:=dt h7;exact qW;have p4:=df h7;refine kR 9 ?_;exact wS
theorem Th_ (m:Mail):Fn prog gb 195 [.agg (Mail.pc m)] (.tup [.str (Ez_ m), .int .i64 (Eg_ m)]):=by
 refine kG func195 ntmps195 λw N H hG=>?_;have m_w:=Mail.pwf w.1;have m_w':=m_w;simp only[Mail.wf] at m_w';refine kB 11 [0] λB0=>?_;refine call (Lw_ _) Y Y λw0=>?_;have :=Kg_ m;have hmo3:=λh=>Ii_ (m:=m) h;refine kM 9 (λh0=>?_) (λh0=>?_);have h1:=C9_ h0;have p0:=df h1;refine kA 9 ?_;refine rt2 Y Y ?_;refine ple ?_;simp[Ez_,Wb_, *];have h1:=Cy_ h0;have p0:=dt h1;refine kL 6 (Pt_ _) Y Y Y λw1=>?_;have :=Hd_ m.head;refine kA 8 ?_;refine aN [1,2,3,4,5,6] 17 mixd<|kE [0,1,2] 14 ?_;refine vC 3 Y (out_Num (⟨[],0⟩:Out) _ _ pJ) Y λw2=>?_;have nl0:(⟨[],0⟩:Out).s.length=0:=rfl;have :=B2_ (⟨[],0⟩:Out) m.id 8;refine kE [4,5] 11 ?_;refine vC 6 Y (E9_ _ _) Y λw3=>?_;have :=B9_ (M_ (⟨[],0⟩:Out) m.id 8) m.Ak_;refine kE [7,8] 8 ?_;refine vC 9 Y (E9_ _ _) Y λw4=>?_;have :=B9_ (V_ (M_ (⟨[],0⟩:Out) m.id 8) m.Ak_) m.key;refine kE [10] 6 ?_;refine vC 11 Y (Tl_ _ _) Y λw5=>?_;have :=Jj_ (V_ (V_ (M_ (⟨[],0⟩:Out) m.id 8) m.Ak_) m.key) (Db_ m.head);refine kE [12,13] 3 ?_;refine vC 14 Y (E9_ _ _) Y λw6=>?_;have :=B9_ (Dp_ (V_ (V_ (M_ (⟨[],0⟩:Out) m.id 8) m.Ak_) m.key) (Db_ m.head)) m.body;refine vE 15 Y (aL B_ 1 λb0=>?_);refine vT 16 Y (sA B_ ?_);refine vD<|kA 2 ?_;refine aN [2,3,4,5,6,7] 11 mixd<|kE [0,1,2] 8 ?_;refine vC 3 Y (out_Num _ _ _ pJ) Y λw7=>?_;have :=B2_ (V_ (Dp_ (V_ (V_ (M_ (⟨[],0⟩:Out) m.id 8) m.Ak_) m.key) (Db_ m.head)) m.body) m.due 8;refine kE [4,5,6] 4 ?_;refine vC 7 Y (out_Num _ _ _ pJ) Y λw8=>?_;have :=B2_ (M_ (V_ (Dp_ (V_ (V_ (M_ (⟨[],0⟩:Out) m.id 8) m.Ak_) m.key) (Db_ m.head)) m.body) m.due 8) m.hops 1;refine vC 8 Y (Eq_ _) Y λw9=>kE [9,10] 0 ?_;refine vD<|kA 2 ?_;refine rt2 Y Y ?_;refine ple ?_;simp[Ez_,Wb_, *]
theorem Xt_ (s:Bs):Fn prog gb 124 [.str s] (.int .i64 (L6_ s)):=by
 refine kG func124 ntmps124 λw N H hG=>?_;refine kN 12 (λp0=>?_) λp1=>?_;refine kR 7 ?_;simp[L6_, *];refine kL 5 (Eo_ _) Y Y Y λw0=>kR 4 ?_;simp[L6_, *]
theorem Nu_ (b:Bool) (e:Int):Fn prog gb 123 [.bool b, .int .i64 e] (.int .i64 (Cw_ b e)):=by
 refine kG func123 ntmps123 λw N H hG=>?_;refine kM 11 (λh0=>?_) (λh0=>?_);refine kR 8 ?_;simp[Cw_, *];refine kR 8 ?_;simp[Cw_, *]
theorem Wc_ (a:Mail) (b:Mail):Fn prog gb 228 [.agg (Mail.pc a), .agg (Mail.pc b)] (.bool (decide (a=b))):=by
 refine kG func228 ntmps228 λw N H hG=>?_;refine kD 33 [0,1] λB0=>?_;refine callg Y (λhc=>(head_Same _ _)) Y ⟨(λhc=>hc),(λhc=>hc),trivial⟩ Y Y λ_=>kC 26 ?_;exact uS
theorem deed_Same (a:Aa_) (b:Aa_):Fn prog gb 119 [.agg (Aa_.pc a), .agg (Aa_.pc b)] (.bool (decide (a=b))):=by
 refine kG func119 ntmps119 λw N H hG=>?_;refine kD 26 [0,1] λB0=>?_;refine q1g [19,21] Y (λhc=>saeq Y Y eqg80 (veq80 a.Ak_ b.Ak_)) ⟨(λhc=>hc),(λhc=>hc),trivial⟩ Y Y Y λ_=>?_;refine kC 6 ?_;refine q1g [26,28] Y (λhc=>saeq Y Y eqg82 (veq82 a.queue b.queue)) ⟨(λhc=>hc),(λhc=>hc),trivial⟩ Y Y Y λ_=>?_;refine kC 6 ?_;refine callg Y (λhc=>(Y2_ _ _)) Y ⟨(λhc=>hc),(λhc=>hc),trivial⟩ Y Y λ_=>kC 48 ?_;refine callg Y (λhc=>(Wc_ _ _)) Y ⟨(λhc=>hc),(λhc=>hc),trivial⟩ Y Y λ_=>kC 12 ?_;refine rt1 Y Y (ple ?_);exact congrArg PV.bool (by rw[Bool.eq_iff_iff];first|(simp[Aa_.eq_iff,and_assoc];done)|(simp[Aa_.eq_iff];grind))
theorem deed_told (d:Aa_):Fn prog gb 120 [.agg (Aa_.pc d)] (.agg (Aa_.pc (G8_ d))):=by
 refine kG func120 ntmps120 λw N H hG=>?_;refine kB 31 [0,1,2] λB0=>?_;refine cn Y (λp0=>?_) λp1=>?_;refine kB 15 [] λ_=>?_;refine rt1 Y Y (ple ?_);have e:G8_ d=(⟨d.kind,d.tick,d.Ak_,(⟨[],0,0,[]⟩:Ae_),(⟨[],[],false,[],[],false⟩:R_),[],0,0,0,0,0,(⟨0,[],[],[],[],0,0⟩:Mail),[]⟩:Aa_):=by
   exact rX
 rw[e];rfl;refine kN 6 (λp2=>?_) λp3=>?_;refine kB 15 [] λ_=>?_;refine rt1 Y Y (ple ?_);have e:G8_ d=(⟨d.kind,d.tick,(⟨[],0,[]⟩:Z_),d.queue,(⟨[],[],false,[],[],false⟩:R_),[],0,0,0,0,0,(⟨0,[],[],[],[],0,0⟩:Mail),[]⟩:Aa_):=by
   exact rX
 rw[e];rfl;refine kM 7 (λh0=>?_) (λh0=>?_);have p4:=dt h0;refine kA 2 ?_;refine cndT Y h0 ?_;refine kB 15 [] λ_=>?_;refine rt1 Y Y (ple ?_);have e:G8_ d=(⟨d.kind,d.tick,(⟨[],0,[]⟩:Z_),(⟨[],0,0,[]⟩:Ae_),d.bind,[],0,0,0,0,0,(⟨0,[],[],[],[],0,0⟩:Mail),[]⟩:Aa_):=by
   exact rX
 rw[e];rfl;have p4:=df h0;refine kN 5 (λp5=>?_) λp6=>?_;refine kB 15 [] λ_=>?_;refine rt1 Y Y (ple ?_);have e:G8_ d=(⟨d.kind,d.tick,(⟨[],0,[]⟩:Z_),(⟨[],0,0,[]⟩:Ae_),d.bind,[],0,0,0,0,0,(⟨0,[],[],[],[],0,0⟩:Mail),[]⟩:Aa_):=by
   exact rX
 rw[e];rfl;refine kN 6 (λp7=>?_) λp8=>?_;refine kB 15 [] λ_=>?_;refine rt1 Y Y (ple ?_);have e:G8_ d=(⟨d.kind,d.tick,(⟨[],0,[]⟩:Z_),(⟨[],0,0,[]⟩:Ae_),(⟨[],[],false,[],[],false⟩:R_),[],0,0,0,0,0,d.O_,[]⟩:Aa_):=by
   exact rX
 rw[e];rfl;refine kM 7 (λh1=>?_) (λh1=>?_);have p9:=dt h1;refine kA 2 ?_;refine cndT Y h1 ?_;refine kB 15 [] λ_=>?_;refine rt1 Y Y (ple ?_);have e:G8_ d=(⟨d.kind,d.tick,(⟨[],0,[]⟩:Z_),(⟨[],0,0,[]⟩:Ae_),(⟨[],[],false,[],[],false⟩:R_),d.name,0,0,0,0,0,(⟨0,[],[],[],[],0,0⟩:Mail),[]⟩:Aa_):=by
   exact rX
 rw[e];rfl;have p9:=df h1;refine kM 6 (λh2=>?_) (λh2=>?_);have p10:=dt h2;refine kA 2 ?_;refine cndT Y h2 ?_;refine kB 15 [] λ_=>?_;refine rt1 Y Y (ple ?_);have e:G8_ d=(⟨d.kind,d.tick,(⟨[],0,[]⟩:Z_),(⟨[],0,0,[]⟩:Ae_),(⟨[],[],false,[],[],false⟩:R_),d.name,0,0,0,0,0,(⟨0,[],[],[],[],0,0⟩:Mail),[]⟩:Aa_):=by
   exact rX
 rw[e];rfl;have p10:=df h2;refine kN 5 (λp11=>?_) λp12=>?_;refine kB 15 [] λ_=>?_;refine rt1 Y Y (ple ?_);have e:G8_ d=(⟨d.kind,d.tick,(⟨[],0,[]⟩:Z_),(⟨[],0,0,[]⟩:Ae_),(⟨[],[],false,[],[],false⟩:R_),d.name,0,0,0,0,0,(⟨0,[],[],[],[],0,0⟩:Mail),[]⟩:Aa_):=by
   exact rX
 rw[e];rfl;refine kN 6 (λp13=>?_) λp14=>?_;refine aN [2,3,4,5,6,7,8] 12 mixd<|kE [0,1,2,3,4,5,6] 5 ?_;refine vE 7 Y (sO B_ ?_);refine kE [8] 3 ?_;refine vE 9 Y (sO B_ ?_);refine kE [10] 1 ?_;refine vT 11 Y (sO B_ ?_);refine vD<|kB 9 [] λ_=>?_;refine rt1 Y Y (ple ?_);have e:G8_ d=(⟨d.kind,d.tick,(⟨[],0,[]⟩:Z_),(⟨[],0,0,[]⟩:Ae_),(⟨[],[],false,[],[],false⟩:R_),d.name,d.id,d.how,0,0,0,(⟨0,[],[],[],[],0,0⟩:Mail),[]⟩:Aa_):=by
   exact rX
 rw[e];rfl;refine kN 6 (λp15=>?_) λp16=>?_;refine aN [2,3,4,5,6,7,8] 12 mixd<|kE [0,1,2,3,4,5,6] 5 ?_;refine vE 7 Y (sO B_ ?_);refine kE [8] 3 ?_;refine vE 9 Y (sO B_ ?_);refine kE [10] 1 ?_;refine vT 11 Y (sA B_ ?_);refine vD<|kB 9 [] λ_=>?_;refine rt1 Y Y (ple ?_);have e:G8_ d=(⟨d.kind,d.tick,(⟨[],0,[]⟩:Z_),(⟨[],0,0,[]⟩:Ae_),(⟨[],[],false,[],[],false⟩:R_),[],0,0,d.frm,0,d.number,d.O_,[]⟩:Aa_):=by
   exact rX
 rw[e];rfl;refine kN 6 (λp17=>?_) λp18=>?_;refine aN [2,3,4,5,6,7,8] 8 mixd<|kE [0,1,2,3,4] 3 ?_;refine vE 5 Y (sO B_ ?_);refine kE [6] 1 ?_;refine vT 7 Y (sO B_ ?_);refine vD<|kB 9 [] λ_=>?_;refine rt1 Y Y (ple ?_);have e:G8_ d=(⟨d.kind,d.tick,(⟨[],0,[]⟩:Z_),(⟨[],0,0,[]⟩:Ae_),(⟨[],[],false,[],[],false⟩:R_),[],0,0,0,d.code,0,(⟨0,[],[],[],[],0,0⟩:Mail),d.text⟩:Aa_):=by
   exact rX
 rw[e];rfl;refine kB 10 [] λ_=>?_;refine rt1 Y Y (ple ?_);have e:G8_ d=(⟨d.kind,d.tick,(⟨[],0,[]⟩:Z_),(⟨[],0,0,[]⟩:Ae_),(⟨[],[],false,[],[],false⟩:R_),[],0,0,0,0,0,(⟨0,[],[],[],[],0,0⟩:Mail),[]⟩:Aa_):=by
   exact rX
 rw[e];rfl
theorem Nv_ (l:List Int):Fn prog gb 121 [.sl i64c l] (.int .i64 (C6_ l)):=by
 refine kG func121 ntmps121 λw N H hG=>?_;have l_l:l.length<=140737488355328:=w.1.1;refine kA 14 ?_;refine loop (ι:=Nat) [0,5,6] [] (λk=>[(7, .int .i64 (k:Int))]) (λk=>[]) (λk=>k<=l.length/\C6_ l=C6_ (l.drop k)) (λk=>l.length-k) 0 ⟨Y,Z⟩ Z ?_ ?_;exact yJ;rintro k hp0;obtain⟨hk1,hk2⟩:=hp0;refine kN 6 (λp0=>?_) λp1=>?_
 . obtain⟨c0,hc0⟩:=getE (xs:=l) (m:=k) pB;refine jA 6 Y<|kI k hc0 λw0=>?_;refine kM 10 (λh0=>?_) (λh0=>?_)
   have h1:=C9_ h0;have p2:=df h1;refine kR 12 ?_;refine congrArg (PV.int .i64) ?_
   rw[hk2,Df_ hc0]
   unfold C6_
   rw[if_pos pE]
   have h1:=Cy_ h0;have p2:=dt h1;refine kC 7 ?_;refine next (k+1) Y Y ⟨Y,Z⟩ Z ?_ ?_
   omega
   refine⟨by omega,?_⟩
   rw[hk2,Df_ hc0]
   conv=>lhs;unfold C6_
   rw[if_neg pB]
 refine kR 11 ?_;refine congrArg (PV.int .i64) ?_;rw[hk2,List.drop_of_length_le pB];rfl
theorem Xs_ (d:Aa_):Fn prog gb 38 [.agg (Aa_.pc d)] (.int .i64 (De_ d)):=by
 refine kG func38 ntmps38 λw N H hG=>?_;refine kB 16 [0] λB0=>?_;refine cn Y (λp0=>?_) λp1=>?_;exact qX;refine kA 1 ?_;refine aN [1,2,3,4,5,6] 6 mixd<|kE [0,1] 4 ?_;refine vE 2 Y (eC (deed_told _) Y λw0=>?_);refine vC 3 Y (deed_Same _ _) Y λw1=>kE [4,5] 0 ?_;refine vD<|kM 1 (λh0=>?_) (λh0=>?_);have h1:=C9_ h0;have p2:=df h1;exact qX;have h1:=Cy_ h0;have p2:=dt h1;refine kN 17 (λp3=>?_) λp4=>?_;refine kA 1 ?_;refine aN [1,2,3,4,5,6] 16 mixd<|kE [0,1,2] 13 ?_;refine vC 3 Y (Eo_ _) Y λw2=>kE [4,5,6,7] 8 ?_;refine vC 8 Y (Nu_ _ _) Y λw3=>kE [9,10,11] 4 ?_;refine vC 12 Y (Xt_ _) Y λw4=>?_;have :=Og_ d.Ak_.to';refine vE 13 Y (bsl 1 i64c [Cx_ d.Ak_.name,Cw_ (decide (4<d.Ak_.sort)) 8,L6_ d.Ak_.to'] B_ Y Y Y Y Y (λ_=>rfl) Y pC pC Y λu0=>?_);refine vE 14 Y (calll 1 Y (Nv_ _) Y Y Y λw5=>?_);refine kE [15] 0 ?_;refine vD<|kR 4 ?_;exact wU;refine kN 6 (λp5=>?_) λp6=>?_;refine kA 1 ?_;refine aN [1,2,3,4,5,6] 11 mixd<|kE [0,1,2] 8 ?_;refine vC 3 Y (Eo_ _) Y λw2=>kE [4,5,6] 4 ?_;refine vC 7 Y (Xt_ _) Y λw3=>?_;have :=Og_ d.queue.dead;refine vE 8 Y (bsl 1 i64c [Cx_ d.queue.name,L6_ d.queue.dead] B_ Y Y Y Y Y (λ_=>rfl) Y pC pC Y λu0=>?_);refine vE 9 Y (calll 1 Y (Nv_ _) Y Y Y λw4=>?_);refine kE [10] 0 ?_;refine vD<|kR 4 ?_;exact wU;refine kM 7 (λh2=>?_) (λh2=>?_);have p7:=dt h2;refine kA 2 ?_;refine cndT Y h2 ?_;exact qR;have p7:=df h2;refine kN 5 (λp8=>?_) λp9=>?_;exact qR;refine kM 7 (λh3=>?_) (λh3=>?_);have p10:=dt h3;refine kA 2 ?_;refine cndT Y h3 ?_;exact qT;have p10:=df h3;refine kN 5 (λp11=>?_) λp12=>?_;exact qT;refine kM 7 (λh4=>?_) (λh4=>?_);have p13:=dt h4;refine kA 2 ?_;refine cndT Y h4 ?_;exact qX;have p13:=df h4;refine kN 5 (λp14=>?_) λp15=>?_;exact qX;refine kN 6 (λp16=>?_) λp17=>?_;refine kL 6 (Nu_ _ _) Y Y Y λw2=>kR 6 ?_;exact wU;refine kA 4 ?_;refine aN [1,2,3,4,5,6] 10 mixd<|kE [0,1] 8 ?_;refine vC 2 Y (Eo_ _) Y λw2=>kE [3,4,5] 4 ?_;refine vC 6 Y (Nu_ _ _) Y λw3=>vE 7 Y (bsl 1 i64c [Cx_ d.name,Cw_ (decide (2<d.how)) 7] B_ Y Y Y Y Y (λ_=>rfl) Y pC pC Y λu0=>?_);refine vE 8 Y (calll 1 Y (Nv_ _) Y Y Y λw4=>?_);refine kE [9] 0 ?_;refine vD<|kR 2 ?_;exact wU
theorem deed_Bytes (d:Aa_):Fn prog gb 220 [.agg (Aa_.pc d)] (.tup [.str (Ci_ d), .int .i64 (De_ d)]):=by
 refine kG func220 ntmps220 λw N H hG=>?_;have d_w:=Aa_.pwf w.1;have d_w':=d_w;simp only[Aa_.wf,Z_.wf,Ae_.wf,R_.wf,Mail.wf] at d_w';refine kB 11 [0] λB0=>?_;refine call (Xs_ _) Y Y λw0=>?_;have :=Y1_ d;refine kM 9 (λh0=>?_) (λh0=>?_)
 . have h1:=C9_ h0;have p0:=df h1;refine kA 9 ?_;refine rt2 Y Y ?_;refine ple ?_;have e:Ci_ d=[]:=by
     unfold Ci_
     first
       |(rw[if_neg pE];done)
       |(rw[if_pos pE];unfold Iq_;(repeat (first|rw[if_pos pB]|rw[if_neg pB]|rw[if_pos pE]|rw[if_neg pE]|rw[if_neg (not_not_intro pE)]));first|done|rfl)
   exact sB
 have h1:=Cy_ h0;have p0:=dt h1;have hdk:=Y0_ (d:=d) pB p0;obtain⟨dk1,dk2,dk3,dk4,dk5,dk6,dk7,dk8,dk9,dk10,dk11,dk12,dk13,dk14,dk15,dk16,dk17,dk18,dk19⟩:=hdk;refine kA 3 ?_;refine aN [1,2,3,4,5,6] 10 mixd<|kE [0,1,2,3] 6 ?_;refine vC 4 Y (out_Num (⟨[],0⟩:Out) _ _ pJ) Y λw1=>?_;have nl0:(⟨[],0⟩:Out).s.length=0:=rfl;have :=B2_ (⟨[],0⟩:Out) d.kind 1;refine kE [5,6] 3 ?_;refine vC 7 Y (out_Num _ _ _ pJ) Y λw2=>?_;have :=B2_ (M_ (⟨[],0⟩:Out) d.kind 1) d.tick 8;refine vE 8 Y (aL B_ 1 λb0=>?_);refine vT 9 Y (sA B_ ?_);refine vD<|kL 5 (Th_ _) Y Y Y λw3=>?_;have :=Ih_ d.O_;refine kN 21 (λp1=>?_) λp2=>?_
 . refine aN [2,3,4,5,6,7] 15 mixd<|kE [0,1,2,3] 11 ?_;refine vC 4 Y (E9_ _ _) Y λw4=>?_;have :=B9_ (M_ (M_ (⟨[],0⟩:Out) d.kind 1) d.tick 8) d.Ak_.name;refine kE [5,6,7,8] 6 ?_;refine vC 9 Y (out_Num _ _ _ pJ) Y λw5=>?_;have :=B2_ (V_ (M_ (M_ (⟨[],0⟩:Out) d.kind 1) d.tick 8) d.Ak_.name) d.Ak_.sort 1;refine kE [10,11,12] 2 ?_;refine vC 13 Y (E9_ _ _) Y λw6=>?_;have :=B9_ (M_ (V_ (M_ (M_ (⟨[],0⟩:Out) d.kind 1) d.tick 8) d.Ak_.name) d.Ak_.sort 1) d.Ak_.to';refine vT 14 Y (sA B_ ?_);refine vD<|kL 5 (Eq_ _) Y Y Y λw7=>kA 5 ?_;refine rt2 Y Y ?_;refine ple ?_;have e:Ci_ d=(V_ (M_ (V_ (M_ (M_ (⟨[],0⟩:Out) d.kind 1) d.tick 8) d.Ak_.name) d.Ak_.sort 1) d.Ak_.to').s:=by
     unfold Ci_
     first
       |(rw[if_neg pE];done)
       |(rw[if_pos pE];unfold Iq_;(repeat (first|rw[if_pos pB]|rw[if_neg pB]|rw[if_pos pE]|rw[if_neg pE]|rw[if_neg (not_not_intro pE)]));first|done|rfl)
   exact sB
 refine kN 6 (λp3=>?_) λp4=>?_
 . refine aN [2,3,4,5,6,7] 18 mixd<|kE [0,1,2,3] 14 ?_;refine vC 4 Y (E9_ _ _) Y λw4=>?_;have :=B9_ (M_ (M_ (⟨[],0⟩:Out) d.kind 1) d.tick 8) d.queue.name;refine kE [5,6,7] 10 ?_;refine vC 8 Y (out_Num _ _ _ pJ) Y λw5=>?_;have :=B2_ (V_ (M_ (M_ (⟨[],0⟩:Out) d.kind 1) d.tick 8) d.queue.name) d.queue.most 8;refine kE [9,10,11] 6 ?_;refine vC 12 Y (out_Num _ _ _ pJ) Y λw6=>?_;have :=B2_ (M_ (V_ (M_ (M_ (⟨[],0⟩:Out) d.kind 1) d.tick 8) d.queue.name) d.queue.most 8) d.queue.life 8;refine kE [13,14,15] 2 ?_;refine vC 16 Y (E9_ _ _) Y λw7=>?_;have :=B9_ (M_ (M_ (V_ (M_ (M_ (⟨[],0⟩:Out) d.kind 1) d.tick 8) d.queue.name) d.queue.most 8) d.queue.life 8) d.queue.dead;refine vT 17 Y (sA B_ ?_);refine vD<|kL 5 (Eq_ _) Y Y Y λw8=>kA 5 ?_;refine rt2 Y Y ?_;refine ple ?_;have e:Ci_ d=(V_ (M_ (M_ (V_ (M_ (M_ (⟨[],0⟩:Out) d.kind 1) d.tick 8) d.queue.name) d.queue.most 8) d.queue.life 8) d.queue.dead).s:=by
     unfold Ci_
     first
       |(rw[if_neg pE];done)
       |(rw[if_pos pE];unfold Iq_;(repeat (first|rw[if_pos pB]|rw[if_neg pB]|rw[if_pos pE]|rw[if_neg pE]|rw[if_neg (not_not_intro pE)]));first|done|rfl)
   exact sB
 refine kM 7 (λh2=>?_) (λh2=>?_)
 . have p5:=dt h2;refine kA 2 ?_;refine cndT Y h2 ?_;refine kB 12 [2] λB1=>?_;refine call (Pt_ _) Y Y λw4=>?_;have :=Hd_ d.bind.want;refine kA 7 ?_;refine aN [3,4,5,6,7,8] 21 mixd<|kE [0,1,2] 18 ?_;refine vC 3 Y (E9_ _ _) Y λw5=>?_;have :=B9_ (M_ (M_ (⟨[],0⟩:Out) d.kind 1) d.tick 8) d.bind.Ak_;refine kE [4,5] 15 ?_;refine vC 6 Y (E9_ _ _) Y λw6=>?_;have :=B9_ (V_ (M_ (M_ (⟨[],0⟩:Out) d.kind 1) d.tick 8) d.bind.Ak_) d.bind.to';refine kE [7,8] 12 ?_;refine vC 9 Y (Uj_ _) Y λw7=>vC 10 Y (out_Num _ _ _ pJ) Y λw8=>?_;have :=B2_ (V_ (V_ (M_ (M_ (⟨[],0⟩:Out) d.kind 1) d.tick 8) d.bind.Ak_) d.bind.to') (bitN d.bind.up) 1;refine kE [11,12] 8 ?_;refine vC 13 Y (E9_ _ _) Y λw9=>?_;have :=B9_ (M_ (V_ (V_ (M_ (M_ (⟨[],0⟩:Out) d.kind 1) d.tick 8) d.bind.Ak_) d.bind.to') (bitN d.bind.up) 1) d.bind.key;refine kE [14] 6 ?_;refine vC 15 Y (Tl_ _ _) Y λw10=>?_;have :=Jj_ (V_ (M_ (V_ (V_ (M_ (M_ (⟨[],0⟩:Out) d.kind 1) d.tick 8) d.bind.Ak_) d.bind.to') (bitN d.bind.up) 1) d.bind.key) (Db_ d.bind.want);refine kE [16,17] 3 ?_;refine vC 18 Y (Uj_ _) Y λw11=>vC 19 Y (out_Num _ _ _ pJ) Y λw12=>?_;have :=B2_ (Dp_ (V_ (M_ (V_ (V_ (M_ (M_ (⟨[],0⟩:Out) d.kind 1) d.tick 8) d.bind.Ak_) d.bind.to') (bitN d.bind.up) 1) d.bind.key) (Db_ d.bind.want)) (bitN d.bind.all) 1;refine vT 20 Y (sA B_ ?_);refine vD<|kL 5 (Eq_ _) Y Y Y λw13=>kA 5 ?_;refine rt2 Y Y ?_;refine ple ?_;have e:Ci_ d=(M_ (Dp_ (V_ (M_ (V_ (V_ (M_ (M_ (⟨[],0⟩:Out) d.kind 1) d.tick 8) d.bind.Ak_) d.bind.to') (bitN d.bind.up) 1) d.bind.key) (Db_ d.bind.want)) (bitN d.bind.all) 1).s:=by
     unfold Ci_
     first
       |(rw[if_neg pE];done)
       |(rw[if_pos pE];unfold Iq_;(repeat (first|rw[if_pos pB]|rw[if_neg pB]|rw[if_pos pE]|rw[if_neg pE]|rw[if_neg (not_not_intro pE)]));first|done|rfl)
   exact sB
 have p5:=df h2;refine kN 5 (λp6=>?_) λp7=>?_
 . refine kB 12 [2] λB1=>?_;refine call (Pt_ _) Y Y λw4=>?_;have :=Hd_ d.bind.want;refine kA 7 ?_;refine aN [3,4,5,6,7,8] 21 mixd<|kE [0,1,2] 18 ?_;refine vC 3 Y (E9_ _ _) Y λw5=>?_;have :=B9_ (M_ (M_ (⟨[],0⟩:Out) d.kind 1) d.tick 8) d.bind.Ak_;refine kE [4,5] 15 ?_;refine vC 6 Y (E9_ _ _) Y λw6=>?_;have :=B9_ (V_ (M_ (M_ (⟨[],0⟩:Out) d.kind 1) d.tick 8) d.bind.Ak_) d.bind.to';refine kE [7,8] 12 ?_;refine vC 9 Y (Uj_ _) Y λw7=>vC 10 Y (out_Num _ _ _ pJ) Y λw8=>?_;have :=B2_ (V_ (V_ (M_ (M_ (⟨[],0⟩:Out) d.kind 1) d.tick 8) d.bind.Ak_) d.bind.to') (bitN d.bind.up) 1;refine kE [11,12] 8 ?_;refine vC 13 Y (E9_ _ _) Y λw9=>?_;have :=B9_ (M_ (V_ (V_ (M_ (M_ (⟨[],0⟩:Out) d.kind 1) d.tick 8) d.bind.Ak_) d.bind.to') (bitN d.bind.up) 1) d.bind.key;refine kE [14] 6 ?_;refine vC 15 Y (Tl_ _ _) Y λw10=>?_;have :=Jj_ (V_ (M_ (V_ (V_ (M_ (M_ (⟨[],0⟩:Out) d.kind 1) d.tick 8) d.bind.Ak_) d.bind.to') (bitN d.bind.up) 1) d.bind.key) (Db_ d.bind.want);refine kE [16,17] 3 ?_;refine vC 18 Y (Uj_ _) Y λw11=>vC 19 Y (out_Num _ _ _ pJ) Y λw12=>?_;have :=B2_ (Dp_ (V_ (M_ (V_ (V_ (M_ (M_ (⟨[],0⟩:Out) d.kind 1) d.tick 8) d.bind.Ak_) d.bind.to') (bitN d.bind.up) 1) d.bind.key) (Db_ d.bind.want)) (bitN d.bind.all) 1;refine vT 20 Y (sA B_ ?_);refine vD<|kL 5 (Eq_ _) Y Y Y λw13=>kA 5 ?_;refine rt2 Y Y ?_;refine ple ?_;have e:Ci_ d=(M_ (Dp_ (V_ (M_ (V_ (V_ (M_ (M_ (⟨[],0⟩:Out) d.kind 1) d.tick 8) d.bind.Ak_) d.bind.to') (bitN d.bind.up) 1) d.bind.key) (Db_ d.bind.want)) (bitN d.bind.all) 1).s:=by
     unfold Ci_
     first
       |(rw[if_neg pE];done)
       |(rw[if_pos pE];unfold Iq_;(repeat (first|rw[if_pos pB]|rw[if_neg pB]|rw[if_pos pE]|rw[if_neg pE]|rw[if_neg (not_not_intro pE)]));first|done|rfl)
   exact sB
 refine kN 6 (λp8=>?_) λp9=>?_
 . refine kL 3 (Tl_ _ _) Y Y Y λw4=>?_;have :=Jj_ (M_ (M_ (⟨[],0⟩:Out) d.kind 1) d.tick 8) (Ez_ d.O_);refine kB 7 [] λ_=>?_;refine call (Eq_ _) Y Y λw5=>kA 5 ?_;refine rt2 Y Y ?_;refine ple ?_;have e:Ci_ d=(Dp_ (M_ (M_ (⟨[],0⟩:Out) d.kind 1) d.tick 8) (Ez_ d.O_)).s:=by
     unfold Ci_
     first
       |(rw[if_neg pE];done)
       |(rw[if_pos pE];unfold Iq_;(repeat (first|rw[if_pos pB]|rw[if_neg pB]|rw[if_pos pE]|rw[if_neg pE]|rw[if_neg (not_not_intro pE)]));first|done|rfl)
   exact sB
 refine kM 7 (λh3=>?_) (λh3=>?_)
 . have p10:=dt h3;refine kA 2 ?_;refine cndT Y h3 ?_;refine kL 4 (E9_ _ _) Y Y Y λw4=>?_;have :=B9_ (M_ (M_ (⟨[],0⟩:Out) d.kind 1) d.tick 8) d.name;refine kB 7 [] λ_=>?_;refine call (Eq_ _) Y Y λw5=>kA 5 ?_;refine rt2 Y Y ?_;refine ple ?_;have e:Ci_ d=(V_ (M_ (M_ (⟨[],0⟩:Out) d.kind 1) d.tick 8) d.name).s:=by
     unfold Ci_
     first
       |(rw[if_neg pE];done)
       |(rw[if_pos pE];unfold Iq_;(repeat (first|rw[if_pos pB]|rw[if_neg pB]|rw[if_pos pE]|rw[if_neg pE]|rw[if_neg (not_not_intro pE)]));first|done|rfl)
   exact sB
 have p10:=df h3;refine kM 6 (λh4=>?_) (λh4=>?_)
 . have p11:=dt h4;refine kA 2 ?_;refine cndT Y h4 ?_;refine kL 4 (E9_ _ _) Y Y Y λw4=>?_;have :=B9_ (M_ (M_ (⟨[],0⟩:Out) d.kind 1) d.tick 8) d.name;refine kB 7 [] λ_=>?_;refine call (Eq_ _) Y Y λw5=>kA 5 ?_;refine rt2 Y Y ?_;refine ple ?_;have e:Ci_ d=(V_ (M_ (M_ (⟨[],0⟩:Out) d.kind 1) d.tick 8) d.name).s:=by
     unfold Ci_
     first
       |(rw[if_neg pE];done)
       |(rw[if_pos pE];unfold Iq_;(repeat (first|rw[if_pos pB]|rw[if_neg pB]|rw[if_pos pE]|rw[if_neg pE]|rw[if_neg (not_not_intro pE)]));first|done|rfl)
   exact sB
 have p11:=df h4;refine kN 5 (λp12=>?_) λp13=>?_
 . refine kL 4 (E9_ _ _) Y Y Y λw4=>?_;have :=B9_ (M_ (M_ (⟨[],0⟩:Out) d.kind 1) d.tick 8) d.name;refine kB 7 [] λ_=>?_;refine call (Eq_ _) Y Y λw5=>kA 5 ?_;refine rt2 Y Y ?_;refine ple ?_;have e:Ci_ d=(V_ (M_ (M_ (⟨[],0⟩:Out) d.kind 1) d.tick 8) d.name).s:=by
     unfold Ci_
     first
       |(rw[if_neg pE];done)
       |(rw[if_pos pE];unfold Iq_;(repeat (first|rw[if_pos pB]|rw[if_neg pB]|rw[if_pos pE]|rw[if_neg pE]|rw[if_neg (not_not_intro pE)]));first|done|rfl)
   exact sB
 refine kN 6 (λp14=>?_) λp15=>?_
 . refine aN [2,3,4,5,6,7] 12 mixd<|kE [0,1,2] 9 ?_;refine vC 3 Y (E9_ _ _) Y λw4=>?_;have :=B9_ (M_ (M_ (⟨[],0⟩:Out) d.kind 1) d.tick 8) d.name;refine kE [4,5] 6 ?_;refine vC 6 Y (out_Num _ _ _ pJ) Y λw5=>?_;have :=B2_ (V_ (M_ (M_ (⟨[],0⟩:Out) d.kind 1) d.tick 8) d.name) d.id 8;refine kE [7,8,9] 2 ?_;refine vC 10 Y (out_Num _ _ _ pJ) Y λw6=>?_;have :=B2_ (M_ (V_ (M_ (M_ (⟨[],0⟩:Out) d.kind 1) d.tick 8) d.name) d.id 8) d.how 1;refine vT 11 Y (sA B_ ?_);refine vD<|kL 5 (Eq_ _) Y Y Y λw7=>kA 5 ?_;refine rt2 Y Y ?_;refine ple ?_;have e:Ci_ d=(M_ (M_ (V_ (M_ (M_ (⟨[],0⟩:Out) d.kind 1) d.tick 8) d.name) d.id 8) d.how 1).s:=by
     unfold Ci_
     first
       |(rw[if_neg pE];done)
       |(rw[if_pos pE];unfold Iq_;(repeat (first|rw[if_pos pB]|rw[if_neg pB]|rw[if_pos pE]|rw[if_neg pE]|rw[if_neg (not_not_intro pE)]));first|done|rfl)
   exact sB
 refine kN 6 (λp16=>?_) λp17=>?_
 . refine aN [2,3,4,5,6,7] 11 mixd<|kE [0,1,2,3] 7 ?_;refine vC 4 Y (out_Num _ _ _ pJ) Y λw4=>?_;have :=B2_ (M_ (M_ (⟨[],0⟩:Out) d.kind 1) d.tick 8) d.frm 1;refine kE [5,6] 4 ?_;refine vC 7 Y (out_Num _ _ _ pJ) Y λw5=>?_;have :=B2_ (M_ (M_ (M_ (⟨[],0⟩:Out) d.kind 1) d.tick 8) d.frm 1) d.number 8;refine kE [8] 2 ?_;refine vC 9 Y (Tl_ _ _) Y λw6=>?_;have :=Jj_ (M_ (M_ (M_ (M_ (⟨[],0⟩:Out) d.kind 1) d.tick 8) d.frm 1) d.number 8) (Ez_ d.O_);refine vT 10 Y (sA B_ ?_);refine vD<|kL 5 (Eq_ _) Y Y Y λw7=>kA 5 ?_;refine rt2 Y Y ?_;refine ple ?_;have e:Ci_ d=(Dp_ (M_ (M_ (M_ (M_ (⟨[],0⟩:Out) d.kind 1) d.tick 8) d.frm 1) d.number 8) (Ez_ d.O_)).s:=by
     unfold Ci_
     first
       |(rw[if_neg pE];done)
       |(rw[if_pos pE];unfold Iq_;(repeat (first|rw[if_pos pB]|rw[if_neg pB]|rw[if_pos pE]|rw[if_neg pE]|rw[if_neg (not_not_intro pE)]));first|done|rfl)
   exact sB
 refine kN 6 (λp18=>?_) λp19=>?_
 . refine aN [2,3,4,5,6,7] 9 mixd<|kE [0,1,2,3] 5 ?_;refine vC 4 Y (out_Num _ _ _ pJ) Y λw4=>?_;have :=B2_ (M_ (M_ (⟨[],0⟩:Out) d.kind 1) d.tick 8) d.code 1;refine kE [5,6] 2 ?_;refine vC 7 Y (E9_ _ _) Y λw5=>?_;have :=B9_ (M_ (M_ (M_ (⟨[],0⟩:Out) d.kind 1) d.tick 8) d.code 1) d.text;refine vT 8 Y (sA B_ ?_);refine vD<|kL 5 (Eq_ _) Y Y Y λw6=>kA 5 ?_;refine rt2 Y Y ?_;refine ple ?_;have e:Ci_ d=(V_ (M_ (M_ (M_ (⟨[],0⟩:Out) d.kind 1) d.tick 8) d.code 1) d.text).s:=by
     unfold Ci_
     first
       |(rw[if_neg pE];done)
       |(rw[if_pos pE];unfold Iq_;(repeat (first|rw[if_pos pB]|rw[if_neg pB]|rw[if_pos pE]|rw[if_neg pE]|rw[if_neg (not_not_intro pE)]));first|done|rfl)
   exact sB
 refine kL 6 (Eq_ _) Y Y Y λw4=>kA 5 ?_;refine rt2 Y Y ?_;refine ple ?_;have e:Ci_ d=(M_ (M_ (⟨[],0⟩:Out) d.kind 1) d.tick 8).s:=by
   unfold Ci_
   first
     |(rw[if_neg pE];done)
     |(rw[if_pos pE];unfold Iq_;(repeat (first|rw[if_pos pB]|rw[if_neg pB]|rw[if_pos pE]|rw[if_neg pE]|rw[if_neg (not_not_intro pE)]));first|done|rfl)
 exact sB
theorem J5_ (s:Bs):Fn prog gb 115 [.str s] (.int .i64 (Cx_ s)):=by
 refine kG func115 ntmps115 λw N H hG=>?_;refine kN 13 (λp0=>?_) λp1=>?_;refine kR 7 ?_;have :s=[]:=List.eq_nil_of_length_eq_zero pB;subst this;rfl;refine kN 10 (λp2=>?_) λp3=>?_;refine kR 7 ?_;have hne:¬s=[]:=λq=>by subst q;simp at *
 unfold Cx_;rw[if_neg hne,if_pos pB];refine kA 9 ?_;refine loop (ι:=Nat) [0,4,5,6,7,8,9] [] (λk=>[(3, .int .i64 (k:Int))]) (λk=>[]) (λk=>k<=s.length/\(s.drop k).all (λc=>letter c.toNat)=plain s) (λk=>s.length-k) 0 ⟨Y,Z⟩ Z ?_ ?_;exact⟨by omega,rfl⟩;rintro k hp0;obtain⟨hk1,hk2⟩:=hp0;refine kN 9 (λp4=>?_) λp5=>?_;have :=u8r (s.getD k 0);refine jA 8 Y<|q1 (sidx B_ k Y Y Y Y Y pB) Y λw0=>call (r4_letter _) Y Y λw1=>kM 3 (λh0=>?_) (λh0=>?_);have h1:=C9_ h0;refine kR 11 ?_;have hne:¬s=[]:=λq=>by subst q;simp at *
 unfold Cx_;rw[if_neg hne,if_neg pB,<- hk2,Tc_ (k:=k) pB];simp only[*,Bool.false_and,Bool.false_eq_true,if_false];have h1:=Cy_ h0;refine kC 8 ?_;refine next (k+1) Y Y ⟨Y,Z⟩ Z ?_ ?_;omega;refine⟨by omega,?_⟩;rw[<- hk2,Tc_ (k:=k) pB];simp only[*,Bool.true_and];refine kR 11 ?_;have hne:¬s=[]:=λq=>by subst q;simp at *
 unfold Cx_;rw[if_neg hne,if_neg pB,<- hk2,List.drop_of_length_le pB];rfl
theorem Z7_ (s:Bs) (hs:s.length<=1000000:=by first|omega|(simp;done)|decide):Fn prog gb 337 [.str s] (.sl strc (Ck_ s)):=by
 refine kG func337 ntmps337 λw N H hG=>?_;refine kN 13 (λp0=>?_) λp1=>?_;refine kA 7 ?_;refine rt1 Y Y ?_;refine M0_ ?_;unfold Ck_;rw[if_pos (List.eq_nil_of_length_eq_zero pB)];refine kA 19 ?_;refine sw_own (t:=3) (k:=1) (e:=9) 0 strc Y Y ?_;refine loop (ι:=Nat×Nat×(List Bs)×Value) [0,2,6,7,8] [] (λ⟨f,k,out,u_out⟩=>[(3, .osl 0),(4, .int .i64 (f:Int)),(5, .int .i64 (k:Int))]) (λ⟨f,k,out,u_out⟩=>[(0, .arr u_out 1 9 strc out)]) (λ⟨f,k,out,u_out⟩=>f<=k/\k<=s.length/\dots s=out++dots (s.drop f)/\noDot s f k/\out.length<=k) (λ⟨f,k,out,u_out⟩=>s.length-k) ⟨0,0,[],(.slice none 0 0)⟩ ⟨Y,Y,Y,Z⟩ ⟨Y,Z⟩ ?_ ?_;exact⟨Nat.le_refl _,Nat.zero_le _,rfl,noDot_nil,Nat.zero_le _⟩;rintro⟨f,k,out,u_out⟩ hp0;obtain⟨hk1,hk2,hk3,hk4,hk5⟩:=hp0;refine kN 9 (λp2=>?_) λp3=>?_;have :=u8r (s.getD k 0);refine jA 8 Y<|q1 (sidx B_ k Y Y Y Y Y pB) Y λw0=>kN 3 (λp4=>?_) λp5=>?_;refine jA 6 Y<|q1 (ssl B_ f k Y Y Y Y Y Y Y pB pB) Y λw1=>ef (bsl 1 strc [((s.drop f).take (k-f))] B_ Y Y Y Y Y (λ_=>rfl) Y pC pC Y λu0=>?_);refine ef (app B_ [((s.drop f).take (k-f))] Y Y Y Y Y Y Y Y Y (src_o Y Y) pG Y λu1=>?_);refine kC 15 ?_;refine next ⟨(k+1),(k+1),(out++[((s.drop f).take (k-f))]),(u1)⟩ Y Y ⟨Y,Y,Y,Z⟩ ⟨Y,Z⟩ ?_ ?_;exact zA
 (try simp only[])
 refine⟨by omega,by omega,split_hit hk3 hk4 pB pB (byteEq (n:=46) pB pB),noDot_nil,by simp;omega⟩;refine kC 8 ?_;refine next ⟨f,(k+1),out,(u_out)⟩ Y Y ⟨Y,Y,Y,Z⟩ ⟨Y,Z⟩ ?_ ?_;exact zA;exact⟨by omega,by omega,hk3,noDot_step hk4 (byteNe (n:=46) pB pB),by omega⟩;refine jA 10 Y<|q1 (sslo B_ f Y Y Y Y Y pB) Y λw0=>ef (bsl 1 strc [(s.drop f)] B_ Y Y Y Y Y (λ_=>rfl) Y pC pC Y λu0=>?_);refine ef (app B_ [(s.drop f)] Y Y Y Y Y Y Y Y Y (src_o Y Y) pG Y λu1=>?_);refine kA 3 ?_;refine givec 0 Y<|kR 1 ?_;have hne:¬s=[]:=λq=>by subst q;simp at *
 have e:Ck_ s=(out++[(s.drop f)]):=by unfold Ck_;rw[if_neg hne];exact split_end hk3 hk4 pB
 first|(rw[e];done)|(rw[e];rfl)
theorem r4_Key (s:Bs) (pattern:Bool):Fn prog gb 267 [.str s, .bool pattern] (.int .i64 (keyE (D9_ pattern) s)):=by
 refine kG func267 ntmps267 λw N H hG=>?_;refine kM 13 (λh0=>?_) (λh0=>?_);have p0:=dt h0;refine kR 7 ?_;unfold keyE;rw[if_pos pB];have p0:=df h0;refine kL 6 (Z7_ _) Y Y Y λw0=>kA 5 ?_;refine loop (ι:=Nat) [0,1,9,10,11,12,13,14] [] (λk=>[(15, .int .i64 (k:Int))]) (λk=>[]) (λk=>k<=(Ck_ s).length/\(Ck_ s).any (Qp_ (D9_ pattern))=((Ck_ s).drop k).any (Qp_ (D9_ pattern))) (λk=>(Ck_ s).length-k) 0 ⟨Y,Z⟩ Z ?_ ?_;exact yA;rintro k hp0;obtain⟨hk1,hk2⟩:=hp0;have hwl:=S1_ s;refine kM 6 (λh1=>?_) (λh1=>?_)
 . have p1:=dt h1;obtain⟨c8,hc0⟩:=getE (xs:=Ck_ s) (m:=k) pB;have c8_l:c8.length<=9223372036854775807:=(w0.2 c8 (List.mem_of_getElem? hc0)).1;refine jA 6 Y<|kI k hc0 λw1=>?_;refine kA 19 ?_;refine loop (ι:=Nat×Bool) [0,1,6,9,10,11,12,13,14,15,16,17,18,19,20,21] [] (λ⟨j,b⟩=>[(7, .bool b),(8, .int .i64 (j:Int))]) (λ⟨j,b⟩=>[]) (λ⟨j,b⟩=>j<=c8.length/\(decide ((c8.length:Int)=0)||!plain c8)=(b||!((c8.drop j).all (λc=>letter c.toNat)))) (λ⟨j,b⟩=>c8.length-j) ⟨0,(decide ((c8.length:Int)=0))⟩ ⟨Y,Y,Z⟩ Z ?_ ?_
   exact yJ
   rintro⟨j,b⟩ hp1;obtain⟨hj1,hj2⟩:=hp1;refine kM 9 (λh2=>?_) (λh2=>?_)
   have p2:=dt h2;have :=u8r (c8.getD j 0);refine kA 9 ?_;refine q1g [30,31] Y (λhc=>sidx B_ j Y Y Y Y Y pH) ⟨(λhc=>hc),(λhc=>hc),trivial⟩ Y Y Y λ_=>?_;refine callg Y (λhc=>(r4_letter _)) Y ⟨(λhc=>hc),trivial⟩ Y Y λ_=>kC 11 ?_;refine next ⟨(j+1),(b||(!(letter ((c8.getD j 0).toNat:Int))))⟩ Y Y ⟨Y,Y,Z⟩ Z ?_ ?_
   exact zA
   refine⟨by omega,?_⟩
   rw[hj2,Tc_ (k:=j) pB]
   simp only[*,Bool.true_or,Bool.false_or,Bool.not_and,Bool.not_true,Bool.not_false,Bool.false_and,Bool.true_and,Bool.or_assoc]
   have p2:=df h2;refine kC 22 ?_;refine cnd Y (λh3=>?_) (λh3=>?_)
   . have h4:=bl h3;have h5:=br h3;have h6:=C9_ h5;refine kR 11 ?_
     rw[List.drop_of_length_le pB] at hj2
     have hX:=hj2
     simp only[List.all_nil,Bool.not_true,Bool.or_false] at hX
     have hb:Qp_ (D9_ pattern) c8=true:=by rw[isBad_doc hX];first|(simp[*];done)|(simp_all;done)|(cases pattern<;>simp_all;done)|grind
     exact qD
   refine kC 7 ?_;refine next (k+1) Y Y ⟨Y,Z⟩ Z ?_ ?_
   omega
   refine⟨by omega,?_⟩
   rw[List.drop_of_length_le pB] at hj2
   have hX:=hj2
   simp only[List.all_nil,Bool.not_true,Bool.or_false] at hX
   have hb:Qp_ (D9_ pattern) c8=false:=by rw[isBad_doc hX];first|(simp[*];done)|(simp_all;done)|(cases pattern<;>simp_all;done)|grind
   rw[hk2,Df_ hc0,List.any_cons,hb]
   simp
 have p1:=df h1;refine kR 11 ?_;unfold keyE;exact sH
theorem r9_Pair (p:Pair) (ahead:List Pair):Fn prog gb 336 [.agg (Pair.pc p), .sl Pair.pc ahead] (.int .i64 (Fj_ p ahead)):=by
 refine kG func336 ntmps336 λw N H hG=>?_;have ahead_l:ahead.length<=140737488355328:=w.2.1.1;refine kB 10 [0] λB0=>?_;refine call (J5_ _) Y Y λw0=>kM 10 (λh0=>?_) (λh0=>?_);have h1:=C9_ h0;have p0:=df h1;refine kR 8 ?_;exact wR;have h1:=Cy_ h0;have p0:=dt h1;refine kM 10 (λh2=>?_) (λh2=>?_);have p1:=dt h2;exact qV;have p1:=df h2;refine kC 16 ?_;refine cnd Y (λh3=>?_) (λh3=>?_);have h4:=bl h3;have p2:=dt h4;have h5:=br h3;have p3:=dt h5;exact qV;refine kC 20 ?_;refine cnd Y (λh4=>?_) (λh4=>?_);have h5:=bl h4;have p2:=dt h5;exact qV;refine kC 25 ?_;refine cnd Y (λh5=>?_) (λh5=>?_);exact qV;have h6:=orl h5;have h7:=orr h5;refine kA 11 ?_;refine loop (ι:=Nat) [0,1,2,5,8,9,10,11,12,14,15,16,17,18,19,20,21,22,23,24,25,26,27,28,29,30,31,32,33,34,35,36,37,38,39,40,41,42,43,44,45,46,47,48,49,50,51,52,53,54,55,56,57,58] [0] (λk=>[(59, .int .i64 (k:Int))]) (λk=>[]) (λk=>k<=ahead.length/\J8_ ahead p.key=J8_ (ahead.drop k) p.key) (λk=>ahead.length-k) 0 ⟨Y,Z⟩ Z ?_ ?_;exact yJ;rintro k hp0;obtain⟨hk1,hk2⟩:=hp0;refine kM 6 (λh8=>?_) (λh8=>?_);have p2:=dt h8;obtain⟨c0,hc0⟩:=getE (xs:=ahead) (m:=k) pB;refine jA 6 Y<|kI k hc0 λw1=>?_;refine kB 14 [1] λB1=>?_;refine cnd Y (λh9=>?_) (λh9=>?_);have p3:=dt h9;refine kR 11 ?_;have e0:=findP_hit hk2 (Df_ hc0) pE;clear hk2;exact wR;have p3:=df h9;refine kC 7 ?_;refine next (k+1) Y Y ⟨Y,Z⟩ Z ?_ ?_;omega;exact⟨by omega,findP_miss hk2 (Df_ hc0) pE⟩;have p2:=df h8;refine kR 11 ?_;have e0:J8_ ahead p.key=none:=by rw[hk2,List.drop_of_length_le pB];rfl
 clear hk2;exact wR
theorem Z8_ (h:List Pair):Fn prog gb 266 [.sl Pair.pc h] (.int .i64 (Du_ h)):=by
 refine kG func266 ntmps266 λw N H hG=>?_;refine kN 13 (λp0=>?_) λp1=>?_;refine kR 7 ?_;simp[Du_, *];refine kA 11 ?_;refine loop (ι:=Nat) [0,6,7,8,9,10] [] (λk=>[(11, .int .i64 (k:Int))]) (λk=>[]) (λk=>k<=h.length/\Jf_ [] h=Jf_ (h.take k) (h.drop k)) (λk=>h.length-k) 0 ⟨Y,Z⟩ Z ?_ ?_;exact yJ;rintro k hp0;obtain⟨hk1,hk2⟩:=hp0;refine kN 6 (λp2=>?_) λp3=>?_;obtain⟨c0,hc0⟩:=getE (xs:=h) (m:=k) pB;refine jA 7 Y<|kI k hc0 λw0=>?_;refine kB 7 [0] λB0=>?_;refine aN [1,2,3,4,5,6] 6 mixd<|kE [0,1,2] 3 ?_;refine vq 3 (lshi B_ k Y Y Y Y Y (λ_=>rfl) Y pB) Y pD Y λw1=>vC 4 Y (r9_Pair _ _) Y λw2=>?_;have :=Wg_ c0 (h.take k);refine kE [5] 0 ?_;refine vD<|kM 7 (λh0=>?_) (λh0=>?_);exact xY;have h1:=Cy_ h0;have p4:=dt h1;refine kC 7 ?_;refine next (k+1) Y Y ⟨Y,Z⟩ Z ?_ ?_;omega;exact tN;refine kR 11 ?_;unfold Du_;exact sH
theorem r9_Same (a:List Pair) (b:List Pair):Fn prog gb 279 [.sl Pair.pc a, .sl Pair.pc b] (.bool (decide (a=b))):=by
 refine kG func279 ntmps279 λw N H hG=>?_;have a_l:a.length<=140737488355328:=w.1.1;refine kM 15 (λh0=>?_) (λh0=>?_);exact xX;have h1:=Cy_ h0;have p0:=dt h1;refine kA 11 ?_;refine loop (ι:=Nat) [0,1,6,7,8,9,10,11,12] [] (λk=>[(13, .int .i64 (k:Int))]) (λk=>[]) (λk=>k<=a.length /\ decide (a=b) = decide (a.drop k=b.drop k)) (λk=>a.length-k) 0 ⟨Y,Z⟩ Z ?_ ?_;exact yJ;rintro k hp0;obtain⟨hk1,hk2⟩:=hp0;refine kM 6 (λh2=>?_) (λh2=>?_);have p1:=dt h2;refine kA 11 ?_;refine aN [0,1,2,3,4,5] 9 mixd<|kE [0,1] 7 ?_;obtain⟨c0,hc0⟩:=getE (xs:=a) (m:=k) pB;refine vq 2 (qidx B_ k Y Y Y hc0 Y Y Y Y) Y pD Y λw0=>kE [3,4,5] 3 ?_;obtain⟨c1,hc1⟩:=getE (xs:=b) (m:=k) pB;refine vq 6 (qidx B_ k Y Y Y hc1 Y Y Y Y) Y pD Y λw1=>kE [7] 1 ?_;refine vq 8 (sane Y Y eqg320 (veq320 c0 c1)) Y pD Y λw2=>vD ?_;refine kM 1 (λh3=>?_) (λh3=>?_);exact wB;have h4:=Cy_ h3;have p2:=dt h4;refine kC 7 ?_;refine next (k+1) Y Y ⟨Y,Z⟩ Z ?_ ?_;omega;exact xI;exact wI
theorem l09_Light (h:List Pair):Fn prog gb 117 [.sl Pair.pc h] (.bool (Os_ h)):=by
 refine kG func117 ntmps117 λw N H hG=>?_;refine kN 13 (λp0=>?_) λp1=>?_;refine kR 7 ?_;exact congrArg PV.bool (by simp[Os_];omega);refine kA 11 ?_;refine loop (ι:=Nat) [0,5,6,7,8,9] [] (λk=>[(10, .int .i64 (k:Int))]) (λk=>[]) (λk=>k<=h.length/\h.all X1_=(h.drop k).all X1_) (λk=>h.length-k) 0 ⟨Y,Z⟩ Z ?_ ?_;exact yJ;rintro k hp0;obtain⟨hk1,hk2⟩:=hp0;refine kN 6 (λp2=>?_) λp3=>?_;obtain⟨c0,hc0⟩:=getE (xs:=h) (m:=k) pB;refine jA 6 Y<|kI k hc0 λw0=>?_;refine kD 19 [0] λB0=>?_;refine cnd Y (λh0=>?_) (λh0=>?_);refine kR 11 ?_;exact congrArg PV.bool (by unfold Os_;rw[all_miss hk2 (Df_ hc0) (by simp[X1_];first|omega|grind)];simp);have h1:=orl h0;have p4:=df h1;have h2:=orr h0;have p5:=df h2;refine kC 7 ?_;refine next (k+1) Y Y ⟨Y,Z⟩ Z ?_ ?_;omega;exact⟨by omega,all_step hk2 (Df_ hc0) (by simp[X1_];omega)⟩;refine kR 11 ?_;exact congrArg PV.bool (by unfold Os_;rw[all_end hk2 pB];simp;omega)
theorem l13_Light (m:Mail):Fn prog gb 118 [.agg (Mail.pc m)] (.bool (Td_ m)):=by
 refine kG func118 ntmps118 λw N H hG=>?_;have m_w:=Mail.pwf w.1;have m_w':=m_w;simp only[Mail.wf] at m_w';refine kD 21 [0] λB0=>?_;refine callg Y (λhc=>(l09_Light _)) Y ⟨(λhc=>hc),trivial⟩ Y Y λ_=>kC 11 ?_;refine rt1 Y Y (ple ?_);refine congrArg PV.bool ?_;unfold Td_;exact xP
theorem l22_Light (d:Aa_):Fn prog gb 35 [.agg (Aa_.pc d)] (.bool (Rx_ d)):=by
 refine kG func35 ntmps35 λw N H hG=>?_;have d_w:=Aa_.pwf w.1;have d_w':=d_w;simp only[Aa_.wf,Z_.wf,Ae_.wf,R_.wf,Mail.wf] at d_w';refine kB 35 [0] λB0=>?_;refine q1 (qmaxN (z:=(d.Ak_.name.length:Int)) (r:=(max (max (max (max (max (max (d.Ak_.name.length:Int) (d.Ak_.to'.length:Int)) (d.queue.name.length:Int)) (d.queue.dead.length:Int)) (d.bind.Ak_.length:Int)) (d.bind.to'.length:Int)) (d.name.length:Int))) [(d.Ak_.to'.length:Int),(d.queue.name.length:Int),(d.queue.dead.length:Int),(d.bind.Ak_.length:Int),(d.bind.to'.length:Int),(d.name.length:Int)] Y Y (rg_i64 pB)) Y λw0=>kC 22 ?_;refine callg Y (λhc=>(l09_Light _)) Y ⟨(λhc=>hc),trivial⟩ Y Y λ_=>kC 4 ?_;refine callg Y (λhc=>(l13_Light _)) Y ⟨(λhc=>hc),trivial⟩ Y Y λ_=>kC 5 ?_;refine rt1 Y Y (ple ?_);refine congrArg PV.bool ?_;unfold Rx_;exact xP
theorem l14_To (x:R_) (hl:x.want.length<=1000000:=by first|omega|(have :=X0_ d pE;omega)):Fn prog gb 63 [.agg (R_.pc x)] (.agg (R_.pc x)):=by
 refine kG func63 ntmps63 λw N H hG=>?_;refine kB 15 [0,1,2] λB0=>?_;refine ef (bsl 3 Pair.pc [] B_ Y Y Y Y Y (λ_=>rfl) Y pC pC Y λu0=>?_);refine jA 2 Y<|ef (app B_ x.want Y Y Y Y Y Y Y Y Y (src_l Y (λ_=>rfl)) pG Y λu1=>?_);refine kA 1 ?_;refine give 3 Y<|ef (sO B_ ?_);refine kB 9 [] λ_=>?_;exact uU
theorem l22_To (d:Aa_) (hl:d.bind.want.length<=1000000):Fn prog gb 15 [.agg (Aa_.pc d)] (.agg (Aa_.pc d)):=by
 refine kG func15 ntmps15 λw N H hG=>?_;refine kB 7 [0,1] λB0=>?_;refine aN [1,2,3,4,5,6,7] 29 mixd<|kE [0,1,2,3,4,5,6,7,8,9,11,12,13,14,15,16,17,18,19,20,21,22,23,24,25,26] 3 ?_;refine vE 10 Y (eC (l14_To _) Y λw0=>?_);refine kE [27] 1 ?_;refine vT 28 Y (sA B_ ?_);refine vD<|kR 2 ?_;rfl
end Go.SW.V
