/-
  A part of the proof of ReportImage: A store's parts as0 the document's: what they are; that they may be reported. Plain laws; each asks what it lists.
-/
import Derived.Test.YteppialeoliobaaGreatDoorReportImageP4
import Derived.Test.YteppialeoliobaaGreatDoorReportImageP3
import Derived.Shelf.LaysM
import Derived.Shelf.Strings.OnBuilder
import Derived.Shelf.Strconv.Itoa3
import Derived.Lib.AppendIntMem
import Derived.Lib.Walk
import Derived.WalkKit
import Derived.BigCall
import Derived.BigGuard
import Derived.Test.YteppialeoliobaaGreatDoorProg
import Derived.Shelf.Strings.FieldsFuncAny
import Derived.Shelf.Pu.ParseUintPublic10
import Derived.Lib.SmallJoins
import Derived.Shelf.Strings.Split
import Derived.Test.YteppialeoliobaaGreatDoorReportImageP2
import Derived.KernelRfl
set_option linter.unusedVariables false
set_option linter.unusedSimpArgs false
set_option maxRecDepth 100000
set_option maxHeartbeats 4000000
open Go.Proofs.Tryz
namespace Go.SW.V
open Go.SW
theorem Vf_:∀ (l:List Gi_) (out:List Q_),Bk_ l out=out++l.map (·.q)
 |[],out=>by simp[Bk_]
 |x::t,out=>by unfold Bk_;rw[Vf_ t];simp
theorem Zj_ (s:F_):X_ s=s.rows.map (·.q):=by unfold X_;rw[Vf_];rfl
theorem Re_:∀ (l:List A3_),G0_ l=true->∀ y∈l,y.name.length<=40
 |[],_,y,h=>by cases h
 |x::t,h,y,hy=>by
   unfold G0_ at h
   cases e:decide (40<(x.name.length:Int)) with
   |true=>rw[e] at h;cases h
   |false=>
     rw[e] at h
     rcases List.mem_cons.1 hy with q|q
     . rw[q];have :=of_decide_eq_false e;omega
     . exact Re_ t h y q
theorem may_names {p:C_} (h:L7_ p=true):∀ y∈p.places,y.name.length<=300:=by
 unfold L7_ at h
 rw[Bool.and_eq_true] at h
 have h1:=h.1
 unfold La_ at h1
 cases e:(decide (20<(p.places.length:Int)) || decide (40<(p.slots.length:Int)) || decide (10<(p.grants.length:Int))) with
 |true=>rw[e] at h1;cases h1
 |false=>
   rw[e] at h1
   intro y hy
   have :=Re_ _ h1 y hy
   omega
theorem l05_may2 {p:C_} (h:L7_ p=true):PoOk p/\0<p.places.length/\p.places.length<=16/\0<p.slots.length/\p.slots.length<=32/\p.grants.length<=8/\∀ y∈p.places,y.name.length<=300:=by
 obtain⟨a,b,c,d,e,f⟩:=l05_may h
 exact⟨a,b,c,d,e,f,may_names h⟩
theorem rp_st {p:C_} {a:Int} {s:E_} {x:U_} (e:x=Af_ s) (hp:PoOk p) (ha:0<=a/\a<p.places.length) (hn:∀ y∈p.places,y.name.length<=300) (h:StOk s) (hb:StB s):RpOk p a x:=by
 subst e
 exact⟨hp,ha,hn,h.1,hb.1,hb.2.1,hb.2.2⟩
theorem rb0 (r:RdR):∀ (t:List Q_) (x:E_),(∀ q∈t,Bj_ q=0)->x.x.D_.rows.length+t.length<=8->((x.x.D_.rows.map (·.q)++t).map (·.name)).Nodup->∃ y:E_,Bf_ r t x=Aj_ r r.Hk_ y/\y.K_=x.K_/\y.place=x.place/\y.x.book=x.x.book/\y.x.D_.rows.map (·.q)=x.x.D_.rows.map (·.q)++t
 |[],x,_,_,_=>⟨x,by rw[Bf_],rfl,rfl,rfl,by simp⟩
 |q::t,x,hc,hl,hn=>by
   simp only[List.length_cons] at hl
   have hnq:∀ y∈x.x.D_.rows,y.q.name≠q.name:=by
     intro y hy e
     rw[List.map_append,List.nodup_append] at hn
     exact hn.2.2 y.q.name (List.mem_map.2 ⟨y.q,List.mem_map.2 ⟨y,hy,rfl⟩,rfl⟩) q.name (by simp) e
   have hd:=do_queue (s:=x) (hc q (by simp)) hnq (by omega)
   obtain⟨y,h1,h2,h3,h4,h5⟩:=rb0 r t (O_ x (Sp_ q)).1 (λz hz=>hc z (by simp[hz])) (by rw[hd];simp;omega) (by rw[hd];simpa using hn)
   refine⟨y,?_,?_,?_,?_,?_⟩
   . rw[Bf_]
     exact h1
   . rw[h2,hd]
   . rw[h3,hd]
   . rw[h4,hd]
   . rw[h5,hd];simp
theorem rb1 (r:RdR) (rest:List L_):∀ (t:List W_) (x:E_),(∀ s∈t,Kq_ s=0/\(s.sort=4->0<=T_ x.K_ s.to'/\0<=Ak_ x.K_ x.place (T_ x.K_ s.to')))->x.x.book.Ba_.length+t.length<=8->((x.x.book.Ba_++t).map (·.name)).Nodup->∃ y:E_,Aj_ r (t.map Op_++rest) x=Aj_ r rest y/\y.K_=x.K_/\y.place=x.place/\y.x.book=⟨x.x.book.Ba_++t,x.x.book.binds⟩/\y.x.D_=x.x.D_
 |[],x,_,_,_=>⟨x,by simp,rfl,rfl,by simp,rfl⟩
 |s::t,x,hc,hl,hn=>by
   simp only[List.length_cons] at hl
   have hns:∀ y∈x.x.book.Ba_,y.name≠s.name:=by
     intro y hy e
     rw[List.map_append,List.nodup_append] at hn
     exact hn.2.2 y.name (List.mem_map.2 ⟨y,hy,rfl⟩) s.name (by simp) e
   obtain⟨c1,c2⟩:=hc s (by simp)
   obtain⟨d1,d2⟩:=do_shop (s:=x) c1 c2 hns (by omega)
   obtain⟨y,h1,h2,h3,h4,h5⟩:=rb1 r rest t (O_ x (Op_ s)).1 (λz hz=>by rw[d1];exact hc z (by simp[hz])) (by rw[d1];simp;omega) (by rw[d1];simpa using hn)
   refine⟨y,?_,?_,?_,?_,?_⟩
   . rw[List.map_cons,List.cons_append,Aj_.eq_2]
     unfold lt
     dsimp only
     have hs:J5_ (Af_ x).book (Af_ (O_ x (Op_ s)).1).book=false:=by
       rw[d1]
       unfold J5_ Af_
       dsimp only
       rw[decide_eq_false (by intro e;have :=congrArg List.length e;simp at this),Bool.false_and]
     rw[hs,d2]
     exact h1
   . rw[h2,d1]
   . rw[h3,d1]
   . rw[h4,d1];simp
   . rw[h5,d1]
theorem rb2 (r:RdR):∀ (t:List P_) (x:E_),(∀ y∈t,BiB y/\BdG x.K_ x.place (x.x.D_.rows.map (·.q)) x.x.book.Ba_ y/\Ez_ y.Bb_=0)->x.x.book.binds.length+t.length<=32->(x.x.book.binds++t).Nodup->∃ y:E_,Aj_ r (t.map Mb_) x=Aj_ r [] y/\y.x.book=⟨x.x.book.Ba_,x.x.book.binds++t⟩
 |[],x,_,_,_=>⟨x,by simp,by simp⟩
 |b::t,x,hc,hl,hn=>by
   simp only[List.length_cons] at hl
   have hns:b∉x.x.book.binds:=by
     intro hy
     rw[List.nodup_append] at hn
     exact hn.2.2 b hy b (by simp) rfl
   obtain⟨c1,c2,c3⟩:=hc b (by simp)
   have hq:b.up=false->(Ah_ x.x.D_ b.to').2=true:=by
     intro hu
     obtain⟨q,q1,q2⟩:=c2.2.2.2 hu
     obtain⟨w,w1,w2⟩:=List.mem_map.1 q1
     have :¬I_ x.x.D_ b.to'<0:=λhlt=>at_neg hlt w w1 (by rw[w2];exact q2)
     unfold Ah_
     rw[lt,decide_eq_false this]
     rfl
   obtain⟨d1,d2⟩:=do_bind (s:=x) c1 c2 c3 hq hns (by omega)
   obtain⟨y,h1,h2⟩:=rb2 r t (O_ x (Mb_ b)).1 (λz hz=>by rw[d1];exact hc z (by simp[hz])) (by rw[d1];simp;omega) (by rw[d1];simpa using hn)
   refine⟨y,?_,?_⟩
   . rw[List.map_cons,Aj_.eq_2]
     unfold lt
     dsimp only
     have hs:J5_ (Af_ x).book (Af_ (O_ x (Mb_ b)).1).book=false:=by
       rw[d1]
       unfold J5_ Af_ Pq_
       dsimp only
       rw[decide_eq_false (show ¬((x.x.book.binds.length:Int)=((x.x.book.binds++[b]).length:Int)) by simp;omega),Bool.not_false,cond_true,Bool.and_false]
     rw[hs,d2]
     exact h1
   . rw[h2,d1];simp
theorem shopOf_in {l:List W_} {n:Bs} {s:W_} (h:Eo_ l n=some s):s∈l/\s.name=n:=by
 unfold Eo_ at h
 exact⟨List.mem_of_find?_eq_some h,by simpa using List.find?_some h⟩
theorem shopE_nm {s:W_} (h:Kq_ s=0):Ez_ s.name=0:=by
 have :=dshop_e h
 unfold Kq_ at h
 split at h
 . rename_i q;exact (q h).elim
 . rename_i q;simpa using q
theorem book_fwd {p:C_} {k:Int} {x:U_} (hr:∀ r∈x.D_.rows,Bj_ r.q=0) (hl:x.D_.rows.length<=8) (hn:(x.D_.rows.map (·.q.name)).Nodup) (hs:x.book.Ba_.length<=8) (hb:x.book.binds.length<=32) (hB:BkB x.book) (hG:BkG p k (x.D_.rows.map (·.q)) x.book):As_ (bkRd x) (Al_ p k) (X_ x.D_)=(x.book,true,bkRd x):=by
 obtain⟨g1,g2,g3,g4⟩:=hG
 unfold As_
 rw[Zj_]
 obtain⟨y,a1,a2,a3,a4,a5⟩:=rb0 (bkRd x) (x.D_.rows.map (·.q)) (Al_ p k) (λq hq=>by obtain⟨w,w1,rfl⟩:=List.mem_map.1 hq;exact hr w w1) (by simp[Al_,lt,Fb_,B4_];exact hl) (by simpa [Al_,lt,Fb_,B4_,Function.comp_def] using hn)
 have e1:(Al_ p k).K_=p:=rfl
 have e2:(Al_ p k).place=k:=rfl
 have e3:(Al_ p k).x.book=⟨[],[]⟩:=rfl
 have e4:(Al_ p k).x.D_.rows=[]:=rfl
 rw[e1] at a2
 rw[e2] at a3
 rw[e3] at a4
 rw[e4,List.map_nil,List.nil_append] at a5
 obtain⟨z,b1,b2,b3,b4,b5⟩:=rb1 (bkRd x) (x.book.binds.map Mb_) x.book.Ba_ y (λs h=>by rw[a2,a3];exact g3 s h) (by rw[a4];simp;exact hs) (by rw[a4];simpa using g1)
 rw[a2] at b2
 rw[a3] at b3
 rw[a4] at b4
 simp only[List.nil_append] at b4
 obtain ⟨w,c1,c2⟩:=rb2 (bkRd x) x.book.binds z (λb h=>by
   rw[b2,b3,b4,b5,a5]
   refine⟨hB.2 b h,g4 b h,?_⟩
   obtain⟨⟨s,s1,s2,s3⟩,_⟩:=g4 b h
   obtain⟨t1,t2⟩:=shopOf_in s1
   rw[<- t2]
   exact shopE_nm (g3 s t1).1) (by rw[b4];simp;exact hb) (by rw[b4];simpa using g2)
 rw[b4] at c2
 simp only[List.nil_append] at c2
 rw[a1]
 show Aj_ (bkRd x) (x.book.Ba_.map Op_++x.book.binds.map Mb_) y=_
 rw[b1,c1,Aj_.eq_1]
 unfold lt Af_
 dsimp only
 rw[c2]
def DdF (d:L_):Prop:=U64 d.tick/\(0<=d.code/\d.code<=255)/\0<=d.Ab_.hops/\0<=d.Bb_.sort/\(∀ p∈d.bind.want,p.wf)/\Wf d.Ab_/\U64 d.queue.most/\U64 d.queue.life/\U64 d.number/\0<=d.frm
theorem deed_f1 {d:L_} (h:PV.wfs (L_.pc d)):DdF d:=by
 have hw:=L_.pwf h
 obtain⟨h1,h2,h3,h4,h5,h6,h7,h8,h9,h10,h11,h12,h13⟩:=hw
 have ha:∀ p∈d.bind.want,p.wf:=λp hp=>Pair.pwf (h.2.2.2.2.2.2.2.2.2.2.2.2.2.1.2 p hp)
 have hb:∀ p∈d.Ab_.head,p.wf:=λp hp=>Pair.pwf (h.2.2.2.2.2.2.2.2.2.2.2.2.2.2.2.2.2.2.2.2.2.2.2.2.1.2 p hp)
 simp only[Mail.wf,Q_.wf,W_.wf] at h12 h4 h3
 exact⟨h2,h10,by omega,by omega,ha,⟨⟨⟨by omega,by omega⟩,⟨by omega,by omega⟩,by omega,by omega⟩,hb⟩,⟨by omega,by omega⟩,⟨by omega,by omega⟩,h11,by omega⟩
theorem deed_f {l:List L_} {k:Nat} {d:L_} (h:(PV.sl L_.pc l).wf) (hd:l[k]? = some d):DdF d:=deed_f1 (h.2 d (List.mem_of_getElem? hd))
structure Rt (p:C_) (k:Int) (s:E_):Prop where
 ok:StOk s
 b:StB s
 g:KG s.x.D_
 n:NtF s.x.notes
 bk:SbG s
 rk:Rk p k (max 0 (gt p.places k.toNat).bytes) s
theorem Rt.po {p:C_} {k:Int} {s:E_} (h:Rt p k s):s.K_=p:=h.rk.po
theorem Rt.pl {p:C_} {k:Int} {s:E_} (h:Rt p k s):s.place=k:=h.rk.pl
theorem a16_zero:∀ i,i<16->A16.get (⟨0,0,0,0,0,0,0,0,0,0,0,0,0,0,0,0⟩:A16_u64) i=0:=bw16 rfl rfl rfl rfl rfl rfl rfl rfl rfl rfl rfl rfl rfl rfl rfl rfl
theorem a8_zero:∀ i,i<8->A8.get (⟨(⟨0,0⟩:Av_),(⟨0,0⟩:Av_),(⟨0,0⟩:Av_),(⟨0,0⟩:Av_),(⟨0,0⟩:Av_),(⟨0,0⟩:Av_),(⟨0,0⟩:Av_),(⟨0,0⟩:Av_)⟩:A8_SpentR) i=⟨0,0⟩:=by
 intro i hi
 match i,hi with
 |0,_=>rfl
 |1,_=>rfl
 |2,_=>rfl
 |3,_=>rfl
 |4,_=>rfl
 |5,_=>rfl
 |6,_=>rfl
 |7,_=>rfl
theorem kok_new (p:C_) (k:Int):KOk (max 0 (gt p.places k.toNat).bytes) (Al_ p k).x.D_:=by
 refine⟨rfl,?_⟩
 show rz []+uz _ 16<=max 0 (gt p.places k.toNat).bytes
 have h2:uz (Al_ p k).x.D_.rises 16=0:=by
   unfold Al_ lt Fb_ B4_
   rfl
 rw[h2]
 show (0:Int)+0<=_
 omega
theorem rt_new {p:C_} {k:Int} (hp:PoOk p) (hk:0<=k/\k<p.places.length) (hb:∀ y∈p.places,U64 y.base):Rt p k (Al_ p k):=by
 have hn:U64 (Al_ p k).x.D_.next :=hb _ (Ib_ (xs:=p.places) (k:=k.toNat) (by omega))
 obtain⟨h1,h2⟩:=newG hn
 exact ⟨Mq_ hp hk,newB p k,h1,h2,bkg_nil _ _ _,⟨rfl,rfl,kok_new p k,λi hi=>by
   rw[show (Al_ p k).x.seen=⟨0,0,0,0,0,0,0,0,0,0,0,0,0,0,0,0⟩ from rfl,a16_zero i hi]
   exact u64_0,λi hi=>by
   have :=a8_zero i hi
   rw[show (Al_ p k).x.spent=⟨⟨0,0⟩,⟨0,0⟩,⟨0,0⟩,⟨0,0⟩,⟨0,0⟩,⟨0,0⟩,⟨0,0⟩,⟨0,0⟩⟩ from rfl,this]
   exact u64_0⟩⟩
theorem rt_do {p:C_} {k:Int} {s:E_} {d:L_} (h:Rt p k s) (hd:DdOk d) (hf:DdF d):Rt p k (O_ s d).1:=by
 obtain⟨f1,f2,f3,f4,f5,f6,f7,f8,f9,f10⟩:=hf
 have hg:=doG f1 f2 h.ok f3 f6 f7 f8 h.g h.n
 exact⟨V5_ h.ok hd f3,doB f2 h.ok f3 f4 f5 h.b,hg.1,hg.2,doBk f1 f2 h.ok f3 h.bk,doK f1 f2 f9 h.ok f3 h.rk⟩
theorem rt_ptf {p:C_} {k:Int} {s:E_} (h:Rt p k s):PtF p k s.x:=by
 refine⟨im_st h.ok h.b,kf_of h.ok.1.2.1 h.b.2.1 h.g,h.n,h.rk.k.1,?_,h.rk.se,λi hi=>⟨h.rk.sp i hi,h.ok.1.2.2.2 i hi⟩⟩
 have :=h.rk.k.2
 have h2:=h.rk.k.1
 unfold Dt_
 rw[Ww_]
 omega
theorem rt_read {p:C_} {k:Int} {s:E_} (h:Rt p k s):Fy_ (Cx_ (Af_ s)) p k=(Af_ s,0):=by
 have hbk:=h.bk
 unfold SbG at hbk
 rw[h.po,h.pl] at hbk
 exact iread_fwd (rt_ptf h) (book_fwd h.b.2.1 h.ok.1.2.1.1.1 h.ok.1.2.1.1.2.2 h.ok.1.1.1 h.ok.1.1.2.1 h.b.1 hbk)
theorem Xa_ {p:C_} (h:(PV.agg (C_.pc p)).wf):∀ y∈p.places,U64 y.base:=λy hy=>by
 have :=h.2.2.1.2 y hy
 exact this.2.2.2.2.1
theorem rt_back {p:C_} {k:Int} {s:E_} {x:U_} {t:Bs} {q:U_×Int} (h:Rt p k s) (e1:x=Af_ s) (e2:t=Cx_ x) (e3:q=Fy_ t p k):q=(x,0):=by
 subst e1;subst e2;subst e3
 exact rt_read h
theorem rt_im {p:C_} {k:Int} {s:E_} {x:U_} (h:Rt p k s) (e1:x=Af_ s):ImOk x:=by
 subst e1
 exact im_st h.ok h.b
theorem rt_rp {p:C_} {a:Int} {s:E_} {x:U_} (h:Rt p a s) (e:x=Af_ s) (hp:PoOk p) (ha:0<=a/\a<p.places.length) (hn:∀ y∈p.places,y.name.length<=300):RpOk p a x:=rp_st e hp ha hn h.ok h.b
def G9_ (s:Bs) (prefix_:Bs):Bool:=
 ((decide ((prefix_.length:Int)<=(s.length:Int)))&&(decide ((s.take prefix_.length)=prefix_)))
def Hn_ (s:Bs) (prefix_:Bs):Bool:=
 (G9_ s prefix_)
def Dk_ (p:C_) (r:Int):List L_->E_->Bool
 |[],x=>lt (Af_ x) λr3=>
 lt (Cx_ r3) λr4=>
 lt (Fy_ r4 p r) λr5=>
 lt (Fv_ p r r3) λr6=>
 lt (Dd_ r3.book) λr7=>
 lt (Cm_ r3.book) λr8=>
 lt (X_ r3.D_) λr9=>
 lt (Dq_ r3.notes) λr10=>
 ((((decide (r5.2=0))&&(decide (r6=(Fv_ p r (r5.1)))))&&(decide (((((2+(r7.length:Int))+(r8.length:Int))+(r9.length:Int))+(r10.length:Int))<=(r6.length:Int))))&&(Hn_ (gt r6 0) (([112,108,97,99,101,32]++((gt p.places ((r).toNat)).name))++[32])))
 |x1::t,x=>lt (O_ x x1) λr2=>
 Dk_ p r t r2.1
def Ij_ (p:C_) (place:Int) (l:List L_):Bool:=
 (bif !(P0_) then
 false
 else (bif ((!(L7_ p))||(!(Lb_ l))) then
 true
 else lt (Ys_ p place) λr=>
 lt (Al_ p r) λr1=>
 Dk_ p r l r1))
def Pf (l r:List Bs) (n:Nat):Prop:=∃ z,r=l++z/\n<=z.length
theorem Pf.trans {a b c:List Bs} {m n:Nat} (h:Pf a b m) (k:Pf b c n):Pf a c (m+n):=by
 obtain⟨z,rfl,h1⟩:=h
 obtain⟨y,rfl,h2⟩:=k
 exact⟨z++y,by simp,by simp;omega⟩
theorem Pf.refl (a:List Bs):Pf a a 0:=⟨[],by simp,by simp⟩
theorem Pf.mono {a b:List Bs} {m n:Nat} (h:Pf a b m) (e:n<=m):Pf a b n:=by
 obtain⟨z,h1,h2⟩:=h
 exact⟨z,h1,by omega⟩
theorem Tv_ (t w:List Bs):Pf t (Dj_ t w) 1:=⟨_,rfl,by simp⟩
theorem pf_b1:∀ (l:List P_) (t:List Bs),Pf t (Eh_ l t) l.length
 |[],t=>by unfold Eh_;exact Pf.refl t
 |x::l,t=>by
   unfold Eh_ lt lt1
   refine ((Tv_ t _).trans (pf_b1 l _)).mono ?_
   simp;omega
theorem pf_b0 (x:U_):∀ (l:List W_) (t:List Bs),Pf t (D2_ x l t) (l.length+x.book.binds.length)
 |[],t=>by
   unfold D2_ lt
   rw[Jj_]
   exact (pf_b1 _ t).mono (by simp)
 |s::l,t=>by
   unfold D2_ lt
   refine ((Tv_ t _).trans (pf_b0 x l _)).mono ?_
   simp;omega
theorem pf_b (t:List Bs) (x:U_):Pf t (Hf_ t x) (x.book.Ba_.length+x.book.binds.length):=by
 unfold Hf_ lt
 exact pf_b0 x _ t
theorem pf_s1 (p:C_) (x:U_):∀ (f v:Nat) (t:List Bs),v<=16->16-v<f->Pf t (E8_ p x f v t) 0
 |0,v,t,_,h=>by omega
 |f+1,v,t,h1,h2=>by
   unfold E8_ lt
   let Q:List Bs->Prop:=λr=>Pf t r 0
   refine bt (P:=Q) (λe=>?_) λ_=>Pf.refl t
   simp only[decide_eq_true_eq] at e
   exact bt (P:=Q) (λ_=>((Tv_ t _).trans (pf_s1 p x f (v+1) _ (by omega) (by omega))).mono (by omega)) λ_=>pf_s1 p x f (v+1) t (by omega) (by omega)
theorem pf_s0 (p:C_) (x:U_):∀ (l:List Q_) (t:List Bs),Pf t (Dw_ p x l t) l.length
 |[],t=>by
   unfold Dw_
   exact pf_s1 p x _ 0 t (by omega) (by omega)
 |q::l,t=>by
   unfold Dw_ lt
   refine ((Tv_ t _).trans (pf_s0 p x l _)).mono ?_
   simp;omega
theorem pf_s (t:List Bs) (p:C_) (x:U_):Pf t (Gg_ t p x) (X_ x.D_).length:=by
 unfold Gg_ lt
 exact pf_s0 p x _ t
theorem pf_2:∀ (l:List D5_) (t:List Bs),Pf t (Er_ l t) l.length
 |[],t=>by unfold Er_;exact Pf.refl t
 |n::l,t=>by
   unfold Er_
   have h1:Pf t (t++[I7_ n]) 1:=⟨_,rfl,by simp⟩
   refine (h1.trans (pf_2 l _)).mono ?_
   simp;omega
theorem pf_1 (p:C_) (k:Int) (x:U_):∀ (f v:Nat) (t:List Bs),v<=8->8-v<f->Pf t (Gn_ p k x f v t) (1+(Dq_ x.notes).length)
 |0,v,t,_,h=>by omega
 |f+1,v,t,h1,h2=>by
   unfold Gn_ lt
   let Q:List Bs->Prop:=λr=>Pf t r (1+(Dq_ x.notes).length)
   refine bt (P:=Q) (λe=>?_) λ_=>(Tv_ t _).trans (pf_2 _ _)
   simp only[decide_eq_true_eq] at e
   exact bt (P:=Q) (λ_=>((Tv_ t _).trans (pf_1 p k x f (v+1) _ (by omega) (by omega))).mono (by omega)) λ_=>pf_1 p k x f (v+1) t (by omega) (by omega)
theorem pf_0 (p:C_) (k:Int) (x:U_):∀ (f v:Nat) (t:List Bs),v<=16->16-v<f->Pf t (Gm_ p k x f v t) (1+(Dq_ x.notes).length)
 |0,v,t,_,h=>by omega
 |f+1,v,t,h1,h2=>by
   unfold Gm_ lt
   let Q:List Bs->Prop:=λr=>Pf t r (1+(Dq_ x.notes).length)
   refine bt (P:=Q) (λe=>?_) λ_=>pf_1 p k x _ 0 t (by omega) (by omega)
   simp only[decide_eq_true_eq] at e
   exact bt (P:=Q) (λ_=>((Tv_ t _).trans (pf_0 p k x f (v+1) _ (by omega) (by omega))).mono (by omega)) λ_=>pf_0 p k x f (v+1) t (by omega) (by omega)
theorem lines_pf (p:C_) (k:Int) (x:U_):∃ (w:Bs) (z:List Bs),Fv_ p k x=([112,108,97,99,101,32]++(gt p.places k.toNat).name++[32]++w)::z/\x.book.Ba_.length+x.book.binds.length+(X_ x.D_).length+(1+(Dq_ x.notes).length)<=z.length:=by
 unfold Fv_ lt
 obtain⟨z,h1,h2⟩:=((pf_b (Dj_ [] [[112,108,97,99,101],(gt p.places k.toNat).name,Fq_ (gt p.places k.toNat).label,itoB (A0_ x.D_),itoB (gt p.places k.toNat).bytes]) x).trans (pf_s _ p x)).trans (pf_0 p k x (16-0+1) 0 _ (by omega) (by omega))
 have h3:∀ (a b c:Bs) (l:List Bs),joinB (a::b::c::l) [32]=a++[32]++b++[32]++joinB (c::l) [32]:=λa b c l=>by
   rw[joinB.eq_3,joinB.eq_3]
   simp only[List.append_assoc]
 refine⟨joinB [Fq_ (gt p.places k.toNat).label,itoB (A0_ x.D_),itoB (gt p.places k.toNat).bytes] [32],z,h1.trans ?_,by omega⟩
 show ([]++[joinB _ [32]])++z=_
 rw[List.nil_append,List.singleton_append,h3]
 simp only[List.append_assoc,List.cons_append,List.nil_append]
theorem qu_len (s:F_):(X_ s).length=s.rows.length:=by rw[Zj_,List.length_map]
theorem al_len (n:B7_):(Dq_ n).length=n.kept.length:=rfl
theorem bi_len (b:Ap_):(Cm_ b).length=b.binds.length:=by rw[Jj_]
theorem lines_pos (p:C_) (k:Int) (x:U_):0<(Fv_ p k x).length:=by
 obtain⟨w,z,h,_⟩:=lines_pf p k x
 rw[h];simp
inductive EqL {α:Type _} (F G:Nat->α):List Nat->Prop
 |nil:EqL F G []
 |cons {k:Nat} {l:List Nat}:F k=G k->EqL F G l->EqL F G (k::l)
theorem EqL.map {α:Type _} {F G:Nat->α}:∀ {l:List Nat},EqL F G l->l.map F=l.map G
 |[],_=>rfl
 |k::l, .cons h hl=>by rw[List.map_cons,List.map_cons,h,hl.map]
variable {P:Program} {n:Nat} {N:Rest} {H0:Env} {fF:Nat->PV} {fL:Nat->Blk}
theorem nZ {ι:Type _} {keep kL:List Nat} {G:Nat->PV} {GL:Nat->Blk} {lv:ι->List (Nat×PV)} {lL:ι->List (Nat×Blk)} {Φ:ι->Prop} {μ:ι->Nat} {m:Nat} {ks:List Kt} {Q:Qs} (x':ι) (hΦ:Φ x') (h3:AllF fF (lv x')) (h4:AllL fL (lL x'))
   (h1:EqL fF G keep:=by ((repeat' (first|exact EqL.nil|refine EqL.cons ?_ ?_))<;>(conv=>lhs;whnf)<;>(conv=>rhs;whnf)<;>exact rfl))
   (h2:EqL fL GL kL:=by ((repeat' (first|exact EqL.nil|refine EqL.cons ?_ ?_))<;>(conv=>lhs;whnf)<;>(conv=>rhs;whnf)<;>exact rfl))
   (hm:μ x'<m:=by decide):Hd P n N H0 Q (.ex .normal) (.lp (LJ (λx=>⟨mkF (lv x) keep G,mkL (lL x) kL GL⟩) Φ μ m)::ks) ⟨fF,fL⟩:=next x' h1.map h2.map h3 h4 hm hΦ
theorem nY {ι:Type _} {keep kL:List Nat} {G:Nat->PV} {GL:Nat->Blk} {lv:ι->List (Nat×PV)} {lL:ι->List (Nat×Blk)} {Φ:ι->Prop} {μ:ι->Nat} {m:Nat} {ks:List Kt} {Q:Qs} (x':ι) (h3:AllF fF (lv x')) (h4:AllL fL (lL x')) (hm:μ x'<m) (hΦ:Φ x')
   (h1:EqL fF G keep:=by ((repeat' (first|exact EqL.nil|refine EqL.cons ?_ ?_))<;>(conv=>lhs;whnf)<;>(conv=>rhs;whnf)<;>exact rfl))
   (h2:EqL fL GL kL:=by ((repeat' (first|exact EqL.nil|refine EqL.cons ?_ ?_))<;>(conv=>lhs;whnf)<;>(conv=>rhs;whnf)<;>exact rfl)):Hd P n N H0 Q (.ex .normal) (.lp (LJ (λx=>⟨mkF (lv x) keep G,mkL (lL x) kL GL⟩) Φ μ m)::ks) ⟨fF,fL⟩:=next x' h1.map h2.map h3 h4 hm hΦ
end Go.SW.V
set_option maxHeartbeats 6400000
namespace Go.Proofs
open Go.Shelf
def Tryz.lays156_ren:Go.Shelf.Ren:=⟨λ|156=>143|165=>213|166=>214|169=>126|240=>204|241=>253|276=>249|277=>278|n=>n,λ|31=>86|9=>9|3=>3|4=>4|0=>0|20=>20|72=>220|76=>304|70=>218|37=>216|75=>222|127=>294|164=>334|5=>5|80=>140|n=>n,λ|n=>n⟩
theorem Tryz.lays156:Go.Proofs.Lays.n156 prog Tryz.lays156_ren:={
 mixed:=by kernel_rfl
 f156:=func143.trans (congrArg some (by kernel_rfl))
 f165:=func213.trans (congrArg some (by kernel_rfl))
 f166:=func214.trans (congrArg some (by kernel_rfl))
 f169:=func126.trans (congrArg some (by kernel_rfl))
 f240:=func204.trans (congrArg some (by kernel_rfl))
 f241:=func253.trans (congrArg some (by kernel_rfl))
 f276:=func249.trans (congrArg some (by kernel_rfl))
 f277:=func278.trans (congrArg some (by kernel_rfl))
 t0:=underlying0
 a0:=isAgg0
 z0:=sizeOf0
 v0:=zeroValue0
 t3:=underlying3
 a3:=isAgg3
 z3:=sizeOf3
 v3:=zeroValue3
 t4:=underlying4
 a4:=isAgg4
 z4:=sizeOf4
 v4:=zeroValue4
 t9:=underlying9
 a9:=isAgg9
 z9:=sizeOf9
 v9:=zeroValue9
 t20:=underlying20
 a20:=isAgg20
 z20:=sizeOf20
 v20:=zeroValue20
 t31:=underlying86
 a31:=isAgg86
 z31:=sizeOf86
 v31:=zeroValue86
 t37:=underlying216
 a37:=isAgg216
 z37:=sizeOf216
 v37:=zeroValue216
 t70:=underlying218
 a70:=isAgg218
 z70:=sizeOf218
 v70:=zeroValue218
 t72:=underlying220
 a72:=isAgg220
 z72:=sizeOf220
 v72:=zeroValue220
 t75:=underlying222
 a75:=isAgg222
 z75:=sizeOf222
 v75:=zeroValue222
 t76:=underlying304
 a76:=isAgg304
 z76:=sizeOf304
 v76:=zeroValue304
 t127:=underlying294
 a127:=isAgg294
 z127:=sizeOf294
 v127:=zeroValue294
 t164:=underlying334
 a164:=isAgg334
 z164:=sizeOf334
 v164:=zeroValue334}
theorem Tryz.Builder_Extra_156:Builder.Extra prog Tryz.lays156_ren:={
 sizeBuilder:=by kernel_rfl
 liesBuilder:=by kernel_rfl
 t5:=underlying5
 a5:=isAgg5
 z5:=sizeOf5
 v5:=zeroValue5
 infoByte:=by kernel_rfl
 cellsByte:=by kernel_rfl
 sizeByte:=by kernel_rfl
 neB5:=by decide}
theorem Tryz.strings_Join_none (a:Option Addr) (c:Nat) (sep:ByteArray) (w:World) :
   Calls prog 143 #[.slice a 0 c, .string sep] w λe w'=>e = .returned (.string ⟨#[]⟩)/\w'=w:=Any.strings_Join_none Tryz.lays156 Tryz.Builder_Extra_156 a c sep w
open Go.RowKit in
theorem Tryz.strings_Join (bk o c:Nat) (xs:List ByteArray) (sep:ByteArray) (w:World) (hcells:∀ (j:Nat) x,xs[j]? = some x->w.cell? ⟨bk,o+j,none⟩=some (.string x)) (hbk:bk<w.heap.size) (hN:xs.length<=140737488355328) (hcap:xs.length<=c) (hlen:(Lib.join (xs.map (·.data.toList)) sep.data.toList).length<=140737488355328) :
   Calls prog 143 #[.slice (some ⟨bk,o,none⟩) xs.length c, .string sep] w λe w'=>e = .returned (.string ⟨(Lib.join (xs.map (·.data.toList)) sep.data.toList).toArray⟩)/\Below w.heap.size w w':=Any.strings_Join Tryz.lays156 Tryz.Builder_Extra_156 bk o c xs sep w hcells hbk hN hcap hlen
def Tryz.lays283_ren:Go.Shelf.Ren:=⟨λ|283=>254|n=>n,λ|3=>3|9=>9|4=>4|n=>n,λ|n=>n⟩
theorem Tryz.lays283:Go.Proofs.Lays.n283 prog Tryz.lays283_ren:={
 mixed:=by kernel_rfl
 f283:=func254.trans (congrArg some (by kernel_rfl))
 t3:=underlying3
 a3:=isAgg3
 z3:=sizeOf3
 v3:=zeroValue3
 t4:=underlying4
 a4:=isAgg4
 z4:=sizeOf4
 v4:=zeroValue4
 t9:=underlying9
 a9:=isAgg9
 z9:=sizeOf9
 v9:=zeroValue9}
open Go.Lib in
theorem Tryz.internal_strconv_small (i:Nat) (h:i<100) (w:World) :
   Calls prog 254 #[.int .i64 i] w λe w'=>e = .returned (.string ⟨(Lib.decDigits i).toArray⟩)/\w'=w:=Any.internal_strconv_small Tryz.lays283 i h w
def Tryz.laysM284_ren:Go.Shelf.Ren:=⟨λ|284=>255|129=>280|317=>279|318=>281|n=>n,λ|53=>36|3=>3|212=>359|0=>0|4=>4|46=>217|5=>5|9=>9|n=>n,λ|17=>0|n=>n⟩
theorem Tryz.laysM284:Go.Proofs.LaysM.n284 prog Tryz.laysM284_ren:={
 mixed:=by kernel_rfl
 f129:=func280.trans (congrArg some (by kernel_rfl))
 f284:=func255.trans (congrArg some (by kernel_rfl))
 f317:=func279.trans (congrArg some (by kernel_rfl))
 f318:=func281.trans (congrArg some (by kernel_rfl))
 t0:=underlying0
 a0:=isAgg0
 z0:=sizeOf0
 v0:=zeroValue0
 t3:=underlying3
 a3:=isAgg3
 z3:=sizeOf3
 v3:=zeroValue3
 t4:=underlying4
 a4:=isAgg4
 z4:=sizeOf4
 v4:=zeroValue4
 t5:=underlying5
 a5:=isAgg5
 z5:=sizeOf5
 v5:=zeroValue5
 t9:=underlying9
 a9:=isAgg9
 z9:=sizeOf9
 v9:=zeroValue9
 t46:=underlying217
 a46:=isAgg217
 z46:=sizeOf217
 v46:=zeroValue217
 t53:=underlying36
 a53:=isAgg36
 z53:=sizeOf36
 v53:=zeroValue36
 t212:=underlying359
 a212:=isAgg359
 z212:=sizeOf359
 v212:=zeroValue359
 g17:=by kernel_rfl
 i0:=by kernel_rfl
 i3:=by kernel_rfl
 i4:=by kernel_rfl
 i5:=by kernel_rfl
 i9:=by kernel_rfl
 i46:=by kernel_rfl
 i53:=by kernel_rfl
 i212:=by kernel_rfl
 m17:=by kernel_rfl}
open Go.Lib in
theorem Tryz.internal_strconv_numDigits (u:Nat) (h1:1<=u) (h2:u<18446744073709551616) (w:World) (htab:Lib.TabIs prog w "internal/strconv.uint64pow10" .u64 Lib.pow10Tab) :
   Calls prog 255 #[.int .u64 u] w λe w'=>e = .returned (.int .i64 (Lib.nDigits u))/\w'=w:=Any.internal_strconv_numDigits Tryz.laysM284 u h1 h2 w htab
def Tryz.lays285_ren:Go.Shelf.Ren:=⟨λ|285=>256|n=>n,λ|37=>216|53=>36|3=>3|4=>4|51=>95|9=>9|5=>5|0=>0|n=>n,λ|n=>n⟩
theorem Tryz.lays285:Go.Proofs.Lays.n285 prog Tryz.lays285_ren:={
 mixed:=by kernel_rfl
 f285:=func256.trans (congrArg some (by kernel_rfl))
 t0:=underlying0
 a0:=isAgg0
 z0:=sizeOf0
 v0:=zeroValue0
 t3:=underlying3
 a3:=isAgg3
 z3:=sizeOf3
 v3:=zeroValue3
 t4:=underlying4
 a4:=isAgg4
 z4:=sizeOf4
 v4:=zeroValue4
 t5:=underlying5
 a5:=isAgg5
 z5:=sizeOf5
 v5:=zeroValue5
 t9:=underlying9
 a9:=isAgg9
 z9:=sizeOf9
 v9:=zeroValue9
 t37:=underlying216
 a37:=isAgg216
 z37:=sizeOf216
 v37:=zeroValue216
 t51:=underlying95
 a51:=isAgg95
 z51:=sizeOf95
 v51:=zeroValue95
 t53:=underlying36
 a53:=isAgg36
 z53:=sizeOf36
 v53:=zeroValue36}
open Go.RowKit Go.Sort Go.Lib in
theorem Tryz.internal_strconv_formatBase10 (blk off cap:Nat) (u:Nat) (d:Array UInt8) (w:World) (hH:Holds (λ(b:UInt8)=>Value.int .u8 (b.toNat:Int)) w blk off d) (hu:u<10 ^ d.size) (hu64:u<18446744073709551616) (hsz:d.size<4611686018427387904) :
   Calls prog 256 #[.slice (some ⟨blk,off,none⟩) d.size cap, .int .u64 u] w λe w'=>
     e = .returned (.tuple #[])/\∃ (n v':Nat) (dk:Array UInt8),w'=(putRow (λ(b:UInt8)=>Value.int .u8 (b.toNat:Int)) w blk off dk).drewN n/\FmtInv d.size u 0 v' dk:=Any.internal_strconv_formatBase10 Tryz.lays285 blk off cap u d w hH hu hu64 hsz
def Tryz.laysM171_ren:Go.Shelf.Ren:=⟨λ|171=>71|243=>144|246=>215|283=>254|284=>255|285=>256|286=>257|129=>280|317=>279|318=>281|319=>282|320=>283|337=>296|338=>297|n=>n,λ|3=>3|9=>9|2=>2|4=>4|171=>338|0=>0|53=>36|37=>216|5=>5|173=>340|212=>359|51=>95|20=>20|213=>360|46=>217|232=>377|233=>378|n=>n,λ|17=>0|18=>2|19=>3|n=>n⟩
theorem Tryz.laysM171:Go.Proofs.LaysM.n171 prog Tryz.laysM171_ren:={
 mixed:=by kernel_rfl
 f129:=func280.trans (congrArg some (by kernel_rfl))
 f171:=func71.trans (congrArg some (by kernel_rfl))
 f243:=func144.trans (congrArg some (by kernel_rfl))
 f246:=func215.trans (congrArg some (by kernel_rfl))
 f283:=func254.trans (congrArg some (by kernel_rfl))
 f284:=func255.trans (congrArg some (by kernel_rfl))
 f285:=func256.trans (congrArg some (by kernel_rfl))
 f286:=func257.trans (congrArg some (by kernel_rfl))
 f317:=func279.trans (congrArg some (by kernel_rfl))
 f318:=func281.trans (congrArg some (by kernel_rfl))
 f319:=func282.trans (congrArg some (by kernel_rfl))
 f320:=func283.trans (congrArg some (by kernel_rfl))
 f337:=func296.trans (congrArg some (by kernel_rfl))
 f338:=func297.trans (congrArg some (by kernel_rfl))
 t0:=underlying0
 a0:=isAgg0
 z0:=sizeOf0
 v0:=zeroValue0
 t2:=underlying2
 a2:=isAgg2
 z2:=sizeOf2
 v2:=zeroValue2
 t3:=underlying3
 a3:=isAgg3
 z3:=sizeOf3
 v3:=zeroValue3
 t4:=underlying4
 a4:=isAgg4
 z4:=sizeOf4
 v4:=zeroValue4
 t5:=underlying5
 a5:=isAgg5
 z5:=sizeOf5
 v5:=zeroValue5
 t9:=underlying9
 a9:=isAgg9
 z9:=sizeOf9
 v9:=zeroValue9
 t20:=underlying20
 a20:=isAgg20
 z20:=sizeOf20
 v20:=zeroValue20
 t37:=underlying216
 a37:=isAgg216
 z37:=sizeOf216
 v37:=zeroValue216
 t46:=underlying217
 a46:=isAgg217
 z46:=sizeOf217
 v46:=zeroValue217
 t51:=underlying95
 a51:=isAgg95
 z51:=sizeOf95
 v51:=zeroValue95
 t53:=underlying36
 a53:=isAgg36
 z53:=sizeOf36
 v53:=zeroValue36
 t171:=underlying338
 a171:=isAgg338
 z171:=sizeOf338
 v171:=zeroValue338
 t173:=underlying340
 a173:=isAgg340
 z173:=sizeOf340
 v173:=zeroValue340
 t212:=underlying359
 a212:=isAgg359
 z212:=sizeOf359
 v212:=zeroValue359
 t213:=underlying360
 a213:=isAgg360
 z213:=sizeOf360
 t232:=underlying377
 a232:=isAgg377
 z232:=sizeOf377
 v232:=zeroValue377
 t233:=underlying378
 a233:=isAgg378
 z233:=sizeOf378
 v233:=zeroValue378
 g17:=by kernel_rfl
 g18:=by kernel_rfl
 g19:=by kernel_rfl
 i0:=by kernel_rfl
 i2:=by kernel_rfl
 i3:=by kernel_rfl
 i4:=by kernel_rfl
 i5:=by kernel_rfl
 i9:=by kernel_rfl
 i20:=by kernel_rfl
 i37:=by kernel_rfl
 i46:=by kernel_rfl
 i51:=by kernel_rfl
 i53:=by kernel_rfl
 i171:=by kernel_rfl
 i173:=by kernel_rfl
 i212:=by kernel_rfl
 i232:=by kernel_rfl
 i233:=by kernel_rfl
 m17:=by kernel_rfl
 m18:=by kernel_rfl
 m19:=by kernel_rfl}
open Go.RowKit Go.Sort Go.Lib in
theorem Tryz.strconv_Itoa (n:Int) (h0:-9223372036854775808<=n) (h1:n<=9223372036854775807) (w:World) (htab:Lib.TabIs prog w "internal/strconv.uint64pow10" .u64 Lib.pow10Tab) :
   Calls prog 71 #[.int .i64 n] w λe w'=>e = .returned (.string ⟨(Lib.itoa n).toArray⟩)/\∃ k os,w'=grow (w.drewN k) os:=Any.strconv_Itoa Tryz.laysM171 n h0 h1 w htab
open Go.RowKit Go.Sort Go.Lib
theorem Tryz.FU0 (u:Nat) (hu64:u<18446744073709551616) (w:World) (htab:Lib.TabIs prog w "internal/strconv.uint64pow10" .u64 Lib.pow10Tab) :
   Calls prog 217 #[.int .u64 u, .int .i64 10] w λe w'=>e = .returned (.string ⟨(Lib.decDigits u).toArray⟩)/\∃ k os,w'=grow (w.drewN k) os:=by
 have t3:=underlying3;have a3:=isAgg3;have z3:=sizeOf3;have v3:=zeroValue3
 have t4:=underlying4;have a4:=isAgg4;have z4:=sizeOf4;have v4:=zeroValue4
 have t5:=underlying5;have a5:=isAgg5;have z5:=sizeOf5;have v5:=zeroValue5
 have t9:=underlying9;have a9:=isAgg9;have z9:=sizeOf9;have v9:=zeroValue9
 have t22:=underlying22;have a22:=isAgg22;have z22:=sizeOf22;have v22:=zeroValue22
 have t216:=underlying216;have a216:=isAgg216;have z216:=sizeOf216;have v216:=zeroValue216
 have t338:=underlying338;have a338:=isAgg338;have z338:=sizeOf338;have v338:=zeroValue338
 have e254:∀ args w,(callFunc 254 args).run prog w = .ok (.enter 254 args) w:=enters_of func254 (by kernel_rfl) rfl
 have e255:∀ args w,(callFunc 255 args).run prog w = .ok (.enter 255 args) w:=enters_of func255 (by kernel_rfl) rfl
 have e256:∀ args w,(callFunc 256 args).run prog w = .ok (.enter 256 args) w:=enters_of func256 (by kernel_rfl) rfl
 by_cases hs:u<100
 . go_enter func217,ntmps217
   go_wp2_with (go_at_fn 254;refine (Tryz.internal_strconv_small u hs _).mono ?_;rintro e w' ⟨rfl,rfl⟩)
   go_ret
   exact⟨rfl,0,#[],by simp[World.drewN_zero]⟩
 . have hu1:1<=u:=by omega
   have hnd20:Lib.nDigits u<=20:=Lib.nDigits_le20 u hu64
   have hb3:Lib.nDigits u<=24:=by omega
   have hal:prog.arrayLen 338=24:=by simp[Program.arrayLen,underlying338]
   have hsl1:∀ W,(Instr.sliceAt 338 (.pointer (some ⟨w.heap.size,0,none⟩)) none (some (.int .i64 (Lib.nDigits u:Int))) none).run prog W = .ok (.slice (some ⟨w.heap.size,0,none⟩) (Lib.nDigits u) 24) W:=λW=>by
     rw[run_sliceAt_array_h W 338 ⟨w.heap.size,0,none⟩ (by simp[Program.arrayLen,Program.elem,underlying338]) .i64 (Lib.nDigits u:Int) (by omega) (by rw[hal];omega)]
     go_simp
   have hH0:=Lib.holds_zero0 w 338 (Lib.nDigits u) (by omega)
   have hfmt:=Tryz.internal_strconv_formatBase10 w.heap.size 0 24 u (Array.replicate (Lib.nDigits u) 0) (w.alloc (.cells Lib.zeros24 338)) hH0 (by rw[Array.size_replicate];exact Lib.lt_pow_nDigits u) hu64 (by rw[Array.size_replicate];omega)
   rw[Array.size_replicate] at hfmt
   have HH0:=Lib.hid hH0
   clear hH0 hal
   go_enter func217,ntmps217
   go_wp2_with (first
     |(go_at_fn 255;refine (Tryz.internal_strconv_numDigits u hu1 hu64 _ (Lib.tabIs_alloc htab _)).mono ?_;rintro e w' ⟨rfl,rfl⟩))
   go_at_fn 256
   refine hfmt.mono ?_
   rintro e w' ⟨rfl,k,v',dk,rfl,hF⟩
   have hcv:(convert 216 9 (.slice (some ⟨w.heap.size,0,none⟩) (Lib.nDigits u) 24)).run prog ((putRow (λ(b:UInt8)=>Value.int .u8 (b.toNat:Int)) (w.alloc (.cells Lib.zeros24 338)) w.heap.size 0 dk).drewN k) = .ok (.string ⟨(Lib.decDigits u).toArray⟩) ((putRow (λ(b:UInt8)=>Value.int .u8 (b.toNat:Int)) (w.alloc (.cells Lib.zeros24 338)) w.heap.size 0 dk).drewN k):=by
     have h:=run_convert_bytes_back (P:=prog) ((putRow (λ(b:UInt8)=>Value.int .u8 (b.toNat:Int)) (w.alloc (.cells Lib.zeros24 338)) w.heap.size 0 dk).drewN k) 216 9 5 ⟨w.heap.size,0,none⟩ 24 (Lib.decDigits u) underlying216 underlying5 underlying9 (λj hj=>by
       rw[Lib.row_is_numeral hF j hj,Lib.add_plain,World.cell?_drewN]
       exact cell?_putRow (λ(b:UInt8)=>Value.int .u8 (b.toNat:Int)) _ w.heap.size 0 _ dk HH0.out (by rw[hF.size,Array.size_replicate]) j (by rw[hF.size];rw[Lib.decDigits_length] at hj;exact hj))
     rw[Lib.decDigits_length] at h
     exact h
   go_wp2
   go_ret
   obtain⟨os,eo⟩:=Lib.fin_at w (.cells Lib.zeros24 338) dk k 0
   exact⟨rfl,k,os,eo⟩
theorem Tryz.FU (u:Nat) (hu64:u<18446744073709551616) (w:World) (htab:Lib.TabIs prog w "internal/strconv.uint64pow10" .u64 Lib.pow10Tab) :
   Calls prog 152 #[.int .u64 u, .int .i64 10] w λe w'=>e = .returned (.string ⟨(Lib.decDigits u).toArray⟩)/\∃ k os,w'=grow (w.drewN k) os:=by
 have e217:∀ args w,(callFunc 217 args).run prog w = .ok (.enter 217 args) w:=enters_of func217 (by kernel_rfl) rfl
 go_enter func152,ntmps152
 go_wp2_with (go_at_fn 217;refine (Tryz.FU0 u hu64 _ htab).mono ?_;rintro e w' ⟨rfl,k,os,rfl⟩)
 go_ret
 exact⟨rfl,k,os,rfl⟩
end Go.Proofs
namespace Go.SW
open Go.Proofs Go.RowKit
theorem strconv_FUC (n:Int) {H:Hp} (hg:GPow H 0) (hr:0<=n/\n<=18446744073709551615) {N:Rest} {L:Ls} {w:World} (hm:Mem N H L w):Calls prog 152 #[.int .u64 n, .int .i64 10] w λe w'=>e = .returned (str (V.decB n))/\Below w.heap.size w w':=by
 obtain⟨u,rfl⟩:∃ u:Nat,n=u:=⟨n.toNat,by omega⟩
 refine (Tryz.FU u (by omega) w (hg.tab hm (by kernel_rfl))).mono λe w' ⟨he,k,os,hw⟩=>⟨?_,hw ▸ Lib.below_grow _ _ (Nat.le_refl _) _ _⟩
 rw[he,V.decB_eq,if_pos hr,Int.toNat_natCast];rfl
theorem strconv_IAC (n:Int) {H:Hp} (hg:GPow H 0) (hr:-9223372036854775808<=n/\n<=9223372036854775807) {N:Rest} {L:Ls} {w:World} (hm:Mem N H L w):Calls prog 71 #[.int .i64 n] w λe w'=>e = .returned (str (V.itoB n))/\Below w.heap.size w w':=by
 refine (Tryz.strconv_Itoa n hr.1 hr.2 w (hg.tab hm (by kernel_rfl))).mono λe w' ⟨he,k,os,hw⟩=>⟨?_,hw ▸ Lib.below_grow _ _ (Nat.le_refl _) _ _⟩
 rw[he,V.itoB_eq,if_pos hr];rfl
end Go.SW
namespace Go.Proofs
open Go.Shelf
def Tryz.lays229_ren:Go.Shelf.Ren:=⟨λ|229=>299|n=>n,λ|9=>9|40=>370|31=>86|152=>381|3=>3|0=>0|4=>4|21=>21|154=>383|n=>n,λ|n=>n⟩
theorem Tryz.lays229:Go.Proofs.Lays.n229 prog Tryz.lays229_ren:={
 mixed:=by kernel_rfl
 f229:=func299.trans (congrArg some (by kernel_rfl))
 t0:=underlying0
 a0:=isAgg0
 z0:=sizeOf0
 v0:=zeroValue0
 t3:=underlying3
 a3:=isAgg3
 z3:=sizeOf3
 v3:=zeroValue3
 t4:=underlying4
 a4:=isAgg4
 z4:=sizeOf4
 v4:=zeroValue4
 t9:=underlying9
 a9:=isAgg9
 z9:=sizeOf9
 v9:=zeroValue9
 t21:=underlying21
 a21:=isAgg21
 z21:=sizeOf21
 v21:=zeroValue21
 t31:=underlying86
 a31:=isAgg86
 z31:=sizeOf86
 v31:=zeroValue86
 t40:=underlying370
 a40:=isAgg370
 z40:=sizeOf370
 v40:=zeroValue370
 t152:=underlying381
 a152:=isAgg381
 z152:=sizeOf381
 v152:=zeroValue381
 t154:=underlying383
 a154:=isAgg383
 z154:=sizeOf383
 v154:=zeroValue383}
open Go.RowKit Go.Lib in
theorem Tryz.strings_FieldsFunc (g:Nat) (lb:Array Value) (eg:∀ args w,(callFunc g args).run prog w = .ok (.enter g args) w) (p:Nat->Bool) (s:ByteArray) (w:World) (hs:s.size<=4294967296) (hp:PredAt prog g lb encR p w) :
   Calls prog 299 #[.string s, .func (.func g) #[] lb] w λe w'=>∃ A,e = .returned (.slice (some ⟨A,0,none⟩) (Lib.goFieldsP p s).length (Lib.goFieldsP p s).length)/\w.heap.size<=A /\
     w'.ownsRow w.heap.size 9 1 (.slice (some ⟨A,0,none⟩) (Lib.goFieldsP p s).length (Lib.goFieldsP p s).length) (Lib.goFieldsP p s).length ((Lib.goFieldsP p s).map Value.string)/\Below w.heap.size w w':=Any.strings_FieldsFunc Tryz.lays229 g lb eg p s w hs hp (by kernel_rfl) (by kernel_rfl)
def Tryz.laysPu14_ren:Go.Shelf.Ren:=⟨λ|14=>327|16=>338|17=>339|19=>342|20=>343|21=>344|22=>345|23=>346|24=>347|25=>348|27=>71|26=>349|28=>144|29=>215|30=>254|31=>255|32=>256|33=>257|35=>280|34=>279|36=>281|37=>282|38=>283|39=>296|40=>297|n=>n,λ|9=>9|3=>3|22=>36|24=>222|25=>393|4=>4|34=>405|5=>5|36=>217|37=>216|0=>0|39=>407|21=>21|44=>411|47=>294|50=>415|48=>413|2=>2|52=>338|55=>340|59=>359|60=>95|20=>20|61=>360|65=>377|66=>378|67=>140|n=>n,λ|0=>6|1=>7|2=>0|3=>2|4=>3|n=>n⟩
theorem Tryz.laysPu14:Go.Proofs.LaysPu.n14 prog Tryz.laysPu14_ren:={
 mixed:=by kernel_rfl
 f14:=func327.trans (congrArg some (by kernel_rfl))
 f16:=func338.trans (congrArg some (by kernel_rfl))
 f17:=func339.trans (congrArg some (by kernel_rfl))
 f19:=func342.trans (congrArg some (by kernel_rfl))
 f20:=func343.trans (congrArg some (by kernel_rfl))
 f21:=func344.trans (congrArg some (by kernel_rfl))
 f22:=func345.trans (congrArg some (by kernel_rfl))
 f23:=func346.trans (congrArg some (by kernel_rfl))
 f24:=func347.trans (congrArg some (by kernel_rfl))
 f25:=func348.trans (congrArg some (by kernel_rfl))
 f26:=func349.trans (congrArg some (by kernel_rfl))
 f27:=func71.trans (congrArg some (by kernel_rfl))
 f28:=func144.trans (congrArg some (by kernel_rfl))
 f29:=func215.trans (congrArg some (by kernel_rfl))
 f30:=func254.trans (congrArg some (by kernel_rfl))
 f31:=func255.trans (congrArg some (by kernel_rfl))
 f32:=func256.trans (congrArg some (by kernel_rfl))
 f33:=func257.trans (congrArg some (by kernel_rfl))
 f34:=func279.trans (congrArg some (by kernel_rfl))
 f35:=func280.trans (congrArg some (by kernel_rfl))
 f36:=func281.trans (congrArg some (by kernel_rfl))
 f37:=func282.trans (congrArg some (by kernel_rfl))
 f38:=func283.trans (congrArg some (by kernel_rfl))
 f39:=func296.trans (congrArg some (by kernel_rfl))
 f40:=func297.trans (congrArg some (by kernel_rfl))
 t0:=underlying0
 a0:=isAgg0
 z0:=sizeOf0
 v0:=zeroValue0
 i0:=by kernel_rfl
 t2:=underlying2
 a2:=isAgg2
 z2:=sizeOf2
 v2:=zeroValue2
 i2:=by kernel_rfl
 t3:=underlying3
 a3:=isAgg3
 z3:=sizeOf3
 v3:=zeroValue3
 i3:=by kernel_rfl
 t4:=underlying4
 a4:=isAgg4
 z4:=sizeOf4
 v4:=zeroValue4
 i4:=by kernel_rfl
 t5:=underlying5
 a5:=isAgg5
 z5:=sizeOf5
 v5:=zeroValue5
 i5:=by kernel_rfl
 t9:=underlying9
 a9:=isAgg9
 z9:=sizeOf9
 v9:=zeroValue9
 i9:=by kernel_rfl
 t20:=underlying20
 a20:=isAgg20
 z20:=sizeOf20
 v20:=zeroValue20
 i20:=by kernel_rfl
 t21:=underlying21
 a21:=isAgg21
 z21:=sizeOf21
 v21:=zeroValue21
 i21:=by kernel_rfl
 t22:=underlying36
 a22:=isAgg36
 z22:=sizeOf36
 v22:=zeroValue36
 i22:=by kernel_rfl
 t24:=underlying222
 a24:=isAgg222
 z24:=sizeOf222
 v24:=zeroValue222
 i24:=by kernel_rfl
 t25:=underlying393
 a25:=isAgg393
 z25:=sizeOf393
 v25:=zeroValue393
 i25:=by kernel_rfl
 t34:=underlying405
 a34:=isAgg405
 z34:=sizeOf405
 v34:=zeroValue405
 i34:=by kernel_rfl
 c34:=by kernel_rfl
 t36:=underlying217
 a36:=isAgg217
 z36:=sizeOf217
 v36:=zeroValue217
 i36:=by kernel_rfl
 t37:=underlying216
 a37:=isAgg216
 z37:=sizeOf216
 v37:=zeroValue216
 i37:=by kernel_rfl
 t39:=underlying407
 a39:=isAgg407
 z39:=sizeOf407
 v39:=zeroValue407
 i39:=by kernel_rfl
 t44:=underlying411
 a44:=isAgg411
 z44:=sizeOf411
 v44:=zeroValue411
 i44:=by kernel_rfl
 t47:=underlying294
 a47:=isAgg294
 z47:=sizeOf294
 v47:=zeroValue294
 i47:=by kernel_rfl
 t48:=underlying413
 a48:=isAgg413
 z48:=sizeOf413
 v48:=zeroValue413
 i48:=by kernel_rfl
 t50:=underlying415
 a50:=isAgg415
 z50:=sizeOf415
 v50:=zeroValue415
 i50:=by kernel_rfl
 t52:=underlying338
 a52:=isAgg338
 z52:=sizeOf338
 v52:=zeroValue338
 i52:=by kernel_rfl
 t55:=underlying340
 a55:=isAgg340
 z55:=sizeOf340
 v55:=zeroValue340
 i55:=by kernel_rfl
 t59:=underlying359
 a59:=isAgg359
 z59:=sizeOf359
 v59:=zeroValue359
 i59:=by kernel_rfl
 t60:=underlying95
 a60:=isAgg95
 z60:=sizeOf95
 v60:=zeroValue95
 i60:=by kernel_rfl
 t61:=underlying360
 a61:=isAgg360
 z61:=sizeOf360
 t65:=underlying377
 a65:=isAgg377
 z65:=sizeOf377
 v65:=zeroValue377
 i65:=by kernel_rfl
 t66:=underlying378
 a66:=isAgg378
 z66:=sizeOf378
 v66:=zeroValue378
 i66:=by kernel_rfl
 t67:=underlying140
 a67:=isAgg140
 z67:=sizeOf140
 v67:=zeroValue140
 i67:=by kernel_rfl
 g0:=by kernel_rfl
 m0:=by kernel_rfl
 g1:=by kernel_rfl
 m1:=by kernel_rfl
 g2:=by kernel_rfl
 m2:=by kernel_rfl
 g3:=by kernel_rfl
 m3:=by kernel_rfl
 g4:=by kernel_rfl
 m4:=by kernel_rfl}
open Go.RowKit Go.Lib in
theorem Tryz.strconv_ParseUint_10_at64_ok (s:ByteArray) (hmax:s.size<=9223372036854775806) (u:Nat) (h:Lib.parseUintB 64 s.data.toList = .ok u) (w:World) :
   Calls prog 327 #[.string s, .int .i64 10, .int .i64 64] w λe w'=>e = .returned (.tuple #[.int .u64 u, .nilIface])/\(w'=w\/w'=Lib.bytesWorld w 5 s):=Any.strconv_ParseUint_10_at64_ok Tryz.laysPu14 s hmax u h w
open Go.RowKit Go.Lib in
theorem Tryz.isBlank (w:World):PredAt prog 300 #[] encR (λr=>decide ((r:Int)=32)) w:=λW r _=>by
 unfold FnGives
 go_enter func300,ntmps300
 go_wp2
 go_ret
 exact⟨rfl,0,rfl⟩
end Go.Proofs
namespace Go.SW
open Go.Proofs Go.RowKit
theorem strings_Flds (H:Hp) (s:Bs) (hs:s.length<=65536):Ph prog 299 #[str s, .func (.func 300) #[] #[]] H (λv H'=>∃ (a:Option Addr) (c:Nat),v = .slice a (flds s).length c/\SlH strE 1 H' (.slice a (flds s).length c) (flds s)):=by
 refine ph_rowB (T:=9) (flds_str s) (λw hw=>by have :=flds_piece s w hw;omega) λN L w hm=>?_
 have :=Tryz.strings_FieldsFunc 300 #[] (enters_of func300 (by kernel_rfl) rfl) _ ⟨s.toArray⟩ w (by simp[ByteArray.size];omega) (Tryz.isBlank w)
 refine this.mono λe w' ⟨A,h1,h2,h3,h4⟩=>⟨A,?_,h2,?_,h4⟩
 . rw[h1,List.length_map]
 . rw[List.length_map];exact h3
theorem strconv_PU (s:Bs) (hl:s.length<=19) (h0:0<s.length) (hd:Ie_ s=true) (w:World):Calls prog 327 #[str s, .int .i64 10, .int .i64 64] w λe w'=>e = .returned (.tuple #[.int .u64 (dec s:Int), .nilIface])/\Below w.heap.size w w':=by
 refine (Tryz.strconv_ParseUint_10_at64_ok ⟨s.toArray⟩ (by simp[ByteArray.size];omega) (dec s) (dec_ok hl h0 hd).1 w).mono λe w' ⟨he,hw⟩=>⟨he,?_⟩
 rcases hw with rfl|rfl
 . exact Below.refl _ _
 . exact Go.Joins.below_bytesWorld _ _ _ _ (Nat.le_refl _)
end Go.SW
namespace Go.Proofs
open Go.Shelf
def Tryz.lays146_ren:Go.Shelf.Ren:=⟨λ|146=>284|221=>298|268=>313|138=>314|143=>315|195=>323|197=>324|218=>325|219=>326|260=>333|217=>334|225=>335|224=>336|267=>337|266=>340|314=>341|n=>n,λ|9=>9|31=>86|3=>3|4=>4|0=>0|105=>390|21=>21|5=>5|46=>217|119=>399|139=>402|138=>401|146=>403|51=>95|n=>n,λ|1=>1|3=>4|4=>5|n=>n⟩
theorem Tryz.lays146:Go.Proofs.Lays.n146 prog Tryz.lays146_ren:={
 mixed:=by kernel_rfl
 f138:=func314.trans (congrArg some (by kernel_rfl))
 f143:=func315.trans (congrArg some (by kernel_rfl))
 f146:=func284.trans (congrArg some (by kernel_rfl))
 f195:=func323.trans (congrArg some (by kernel_rfl))
 f197:=func324.trans (congrArg some (by kernel_rfl))
 f217:=func334.trans (congrArg some (by kernel_rfl))
 f218:=func325.trans (congrArg some (by kernel_rfl))
 f219:=func326.trans (congrArg some (by kernel_rfl))
 f221:=func298.trans (congrArg some (by kernel_rfl))
 f224:=func336.trans (congrArg some (by kernel_rfl))
 f225:=func335.trans (congrArg some (by kernel_rfl))
 f260:=func333.trans (congrArg some (by kernel_rfl))
 f266:=func340.trans (congrArg some (by kernel_rfl))
 f267:=func337.trans (congrArg some (by kernel_rfl))
 f268:=func313.trans (congrArg some (by kernel_rfl))
 f314:=func341.trans (congrArg some (by kernel_rfl))
 t0:=underlying0
 a0:=isAgg0
 z0:=sizeOf0
 v0:=zeroValue0
 t3:=underlying3
 a3:=isAgg3
 z3:=sizeOf3
 v3:=zeroValue3
 t4:=underlying4
 a4:=isAgg4
 z4:=sizeOf4
 v4:=zeroValue4
 t5:=underlying5
 a5:=isAgg5
 z5:=sizeOf5
 v5:=zeroValue5
 t9:=underlying9
 a9:=isAgg9
 z9:=sizeOf9
 v9:=zeroValue9
 t21:=underlying21
 a21:=isAgg21
 z21:=sizeOf21
 v21:=zeroValue21
 t31:=underlying86
 a31:=isAgg86
 z31:=sizeOf86
 v31:=zeroValue86
 t46:=underlying217
 a46:=isAgg217
 z46:=sizeOf217
 v46:=zeroValue217
 t51:=underlying95
 a51:=isAgg95
 z51:=sizeOf95
 v51:=zeroValue95
 t105:=underlying390
 a105:=isAgg390
 z105:=sizeOf390
 v105:=zeroValue390
 t119:=underlying399
 a119:=isAgg399
 z119:=sizeOf399
 t138:=underlying401
 a138:=isAgg401
 z138:=sizeOf401
 v138:=zeroValue401
 t139:=underlying402
 a139:=isAgg402
 z139:=sizeOf402
 v139:=zeroValue402
 t146:=underlying403
 a146:=isAgg403
 z146:=sizeOf403
 v146:=zeroValue403
 g1:=by kernel_rfl
 g3:=by kernel_rfl
 g4:=by kernel_rfl}
open Go.RowKit Go.Lib in
theorem Tryz.strings_Split (s sep:ByteArray) (m:Int) (w:World) (hs:s.size<4294967281) (hm:w.cell? ⟨1,0,none⟩=some (.int .i64 m)) (h1:1<=sep.size) :
   Calls prog 284 #[.string s, .string sep] w λe w'=>
     e = .returned (.slice (some ⟨w.heap.size,0,none⟩) (Lib.countB s sep+1) (Lib.countB s sep+1))/\w'=w.alloc (.cells ((Lib.splitB sep 0 (Lib.countB s sep) s).map Value.string).toArray 9):=Any.strings_Split Tryz.lays146 (by kernel_rfl) s sep m w hs hm h1
end Go.Proofs
namespace Go.SW
open Go.Proofs
theorem strings_Split (H:Hp) (s p:Bs) (hp:p=[46]) (hML:GInt H 1) (hs:s.length<4294967281):Ph prog 284 #[str s,str p] H (λv H'=>∃ (a:Option Addr) (c:Nat),v = .slice a (dots s).length c/\SlH strE 1 H' (.slice a (dots s).length c) (dots s)):=by
 subst hp
 refine ph_strs (T:=9) (λw hw=>by have :=Qn_ s w hw;omega) λN L w hm=>?_
 obtain⟨m,hc⟩:=hML.cell hm
 refine (Tryz.strings_Split ⟨s.toArray⟩ ⟨#[46]⟩ m w (by simpa [K6_] using hs) hc (by decide)).mono λe w' ⟨he,hw⟩=>⟨?_,?_⟩
 . rw[he,Vn_]
 . rw[hw,T8_]
theorem strings_SplitL (H:Hp) (s p:Bs) (hp:p=[10]) (hML:GInt H 1) (hs:s.length<4294967281):Ph prog 284 #[str s,str p] H (λv H'=>∃ (a:Option Addr) (c:Nat),v = .slice a (cuts 10 s).length c/\SlH strE 1 H' (.slice a (cuts 10 s).length c) (cuts 10 s)):=by
 subst hp
 refine ph_strs (T:=9) (λw hw=>by have :=Qm_ 10 s w hw;omega) λN L w hm=>?_
 obtain⟨m,hc⟩:=hML.cell hm
 refine (Tryz.strings_Split ⟨s.toArray⟩ ⟨#[10]⟩ m w (by simpa [K6_] using hs) hc (by decide)).mono λe w' ⟨he,hw⟩=>⟨?_,?_⟩
 . rw[he,splitB_clen]
 . rw[hw,T7_]
theorem ag218:Ag prog 218 false:=λw=>by kernel_rfl
theorem ag9:Ag prog 9 false:=λw=>by kernel_rfl
theorem cb204:Ad_ prog 204:=Aa_ func204 (by kernel_rfl) (by kernel_rfl)
theorem fl220_0:Fld prog 220 0 0:=λb o w=>by kernel_rfl
theorem la220_220:liesAt prog prog.depth 220 (2/prog.cellsOf 220) 0 220 1=true:=by kernel_rfl
theorem ne249:NoEsc prog 249:=noEsc_of func249 (by kernel_rfl) (by kernel_rfl) (by kernel_rfl) (by kernel_rfl)
theorem sz218:Sz prog 218 1:=λw=>by kernel_rfl
theorem sz9:Sz prog 9 1:=λw=>by kernel_rfl
theorem ti220:∃ j,prog.info? 220=some j:=Option.isSome_iff_exists.1 (by kernel_rfl)
theorem tz220:∃ j,prog.info? 220=some j/\j.size≠0:=exInfo (by kernel_rfl)
set_option maxRecDepth 100000 in
theorem copyCheck {n:Nat} {N:Rest} {F:Fr} {H:Hp} {L:Ls} {ops:List Oper} {ty d:Nat} {pos:String} {af:Array Edge} {K:Fr->Hp->Ls->Prop} {x:Operand} {ats:Array TypeId} {b:Nat} {p v:Value} (i:Nat) (hx:ev F x = .pointer (some ⟨b,0,none⟩)) (hi:L i=some (b,bx 220 [p,v]))
   (hp:p = .pointer none\/p = .pointer (some ⟨b,0,none⟩)) (hd:Nat.blt d n=true) (k:K (upd F d (.tuple #[])) H (lupd L i (some (b,bx 220 [.pointer (some ⟨b,0,none⟩),v])))):Op1 prog n N ops ⟨some d, .call ⟨.value (.func 204),#[x],ats⟩,ty,pos,af,none⟩ K F H L:=by
 refine op1_in (en_f (vs:=[.pointer (some ⟨b,0,none⟩)]) cb204 (by simp[evs,hx])) func204 rfl ntmps204 rfl hd (Ju_ (F4_ (ol rfl (J0_ (v:= .pointer (some ⟨_,_,none⟩)) rfl) (ol rfl (Hc_ rfl) (ol rfl (Fe_ rfl fl220_0) ?_)))))
 refine ol rfl (Ky_ (i:=i) (v:=p) rfl ag218 hi rfl) ?_
 rcases hp with rfl|rfl
 . refine ol rfl (lo_pnil rfl rfl underlying218) (Ke_ (Jx_ (cw_cond_t rfl rfl (F4_ (ol rfl (J0_ (v:= .pointer (some ⟨_,_,none⟩)) rfl) ?_)))))
   refine ol rfl (J0_ (v:= .pointer (some ⟨_,_,none⟩)) rfl) (ol rfl (lo_toUnsafe (i:=i) rfl hi rfl underlying218 underlying334 (tz220).choose_spec.1 (tz220).choose_spec.2) (ol rfl (lo_noEsc (v:= .pointer (some ⟨_,_,none⟩)) ne249 rfl) (ol rfl (W4_ (i:=i) rfl hi underlying334 underlying218 (ti220).choose_spec la220_220) (ol rfl (Hc_ rfl) (ol rfl (Fe_ rfl fl220_0) ?_)))))
   refine ow1 (K5_ (i:=i) (v:= .pointer (some ⟨_,_,none⟩)) rfl rfl rfl sz218 hi rfl ?_)
   refine Ke_ ?_
   exact fnK_n (res0 rfl) (.refl _) k
 . refine ol rfl (Va_ rfl rfl underlying218) (Ke_ (Jx_ (Xu_ rfl rfl (Ju_ (F4_ ?_)))))
   refine ol rfl (J0_ (v:= .pointer (some ⟨_,_,none⟩)) rfl) (ol rfl (Hc_ rfl) (ol rfl (Fe_ rfl fl220_0) (ol rfl (Ky_ (i:=i) (v:= .pointer (some ⟨b,0,none⟩)) rfl ag218 hi rfl) (ol rfl (J0_ (v:= .pointer (some ⟨_,_,none⟩)) rfl) (ol rfl (lo_pne_self rfl rfl underlying218 (ti220).choose_spec) ?_)))))
   refine Ke_ (Jx_ (Xu_ rfl rfl (cw_skip (fnK_n (res0 rfl) (.refl _) ?_))))
   rwa [lupd_eta hi] at k
theorem sz5:Sz prog 5 1:=λw=>by kernel_rfl
theorem ag134:Ag prog 134 true:=λw=>by kernel_rfl
theorem ag216:Ag prog 216 false:=λw=>by kernel_rfl
theorem by5:By prog 5 1:=by_of (by kernel_rfl)
theorem cb125:Ad_ prog 125:=Aa_ func125 (by kernel_rfl) (by kernel_rfl)
theorem cb126:Ad_ prog 126:=Aa_ func126 (by kernel_rfl) (by kernel_rfl)
theorem co5:prog.cellsOf 5=1:=by kernel_rfl
theorem fl134_0:Fld prog 134 0 0:=λb o w=>by kernel_rfl
theorem We_:Fld prog 220 1 1:=λb o w=>by kernel_rfl
theorem mixd:prog.follows .mixedOrders=true:=by kernel_rfl
theorem sz134:Sz prog 134 2:=λw=>by kernel_rfl
theorem sz216:Sz prog 216 1:=λw=>by kernel_rfl
theorem zr134:Zr prog 134 [str [], .int .i64 0]:=λw=>⟨.agg #[str [], .int .i64 0],by kernel_rfl,rfl⟩
theorem zr220:Zr prog 220 [.pointer none, .slice none 0 0]:=λw=>⟨.agg #[.pointer none, .slice none 0 0],by kernel_rfl,rfl⟩
theorem zr5:Zr prog 5 [.int .u8 0]:=λw=>⟨.int .u8 0,by kernel_rfl,rfl⟩
theorem zx5:∃ z,∀ w,(zeroValue 5).run prog w = .ok z w:=⟨.int .u8 0,λw=>by kernel_rfl⟩
theorem out_Num (H:Hp) (o:Out) (n:Int) (n_r:0<=n/\n<=18446744073709551615) (bytes:Int) (bytes_r:-9223372036854775808<=bytes/\bytes<=9223372036854775807) (hlen:o.s.length<=4611686018427387904):Pr prog 52 #[.agg (Out.cells o).toArray, .int .u64 n, .int .i64 bytes] H (.agg (Out.cells (B_ o n bytes)).toArray):=by
 refine pr_cw func52 rfl ntmps52 rfl (λN=>?_)
 refine Ju_ (F4_ (ow1 (op1_box (cs:=[_,_]) 0 rfl rfl (λb1=>?_))))
 refine ow1 (Tt_ 1 rfl zr134 (λb2=>?_))
 refine Ke_ (Jx_ (Ju_ (F4_ (ow1 (Tt_ 2 rfl zr220 (λb3=>?_))))))
 refine Ke_ (Jx_ (Ju_ (Ju_ (F4_ (omi rfl rfl ?_)))))
 refine ol rfl (lo_max rfl rfl) (ol rfl (lo_min rfl rfl) (ol rfl (lo_sub rfl rfl (Rg_ (by omega))) (oai rfl rfl (Ke_ (Jx_ ?_)))))
 refine Vx_ ?_
 refine cw_loop5 [8,13,14,15,16,17,18,19,20,21,22] [2,3,4] (λ(j:Nat) (bs:Bs) (p:Value) (v:Value) (en:Option (Nat×Obj)) G=>upd (G) 8 (.int .i64 ((j:Int)-1))) (λ(j:Nat) (bs:Bs) (p:Value) (v:Value) (en:Option (Nat×Obj)) G=>lupd (lupd (G) 2 (some (b3,bx 220 [p,v]))) 3 (en)) (λ(j:Nat) (bs:Bs) (p:Value) (v:Value) (en:Option (Nat×Obj)) H'=>bs++numB j n.toNat=numB (numK bytes) n.toNat/\bs.length+j=numK bytes/\OwnV 1 5 v en bs.length (bs.map u8v)/\(bs.length=0->v = .slice none 0 0)/\(p = .pointer none\/p = .pointer (some ⟨b3,0,none⟩))) (λ(j:Nat) (bs:Bs) (p:Value) (v:Value) (en:Option (Nat×Obj))=>j) (numK bytes) [] (.pointer none) (.slice none 0 0) none (Z2_ (Vb_ (by first|exact off_refl|(repeat (first|exact off_mask|refine off_upd rfl ?_|refine Zf_ rfl ?_)))) (congrArg (Value.int .i64) (show min (max bytes 0) 8-1=((numK bytes:Nat):Int)-1 by unfold numK;omega))) (Oj_ (Oj_ (Th_ Zg_) rfl) rfl) ?_ ?_
 . exact⟨rfl,by simp,Qb_,λ_=>rfl, .inl rfl⟩
 intro j bs p v en J5 JL5 H5 hp4 hl5
 obtain⟨hk1,hk2,ho,hz,hpp⟩:=hp4
 have hk8:numK bytes<=8:=by unfold numK;omega
 refine Ju_ (Ju_ (F4_ (omi rfl rfl (ol rfl (lo_geq rfl rfl) (Ke_ ?_)))))
 refine Jx_ (Vy_ rfl (λh6=>?_) (λh6=>?_))
 . have p7:=dt h6
   refine cw_skip (Jx_ (Ju_ (Vx_ (F4_ (omi rfl rfl ?_)))))
   refine omi rfl rfl (ol rfl (lo_mul rfl rfl (Rg_ (by omega))) (ol rfl (lo_shr rfl rfl (by omega)) ?_))
   have :=wr_u8 (Int.fdiv n (2 ^ (min ((8*((j:Int)-1)):Int).toNat (IntKind.bits .u64))))
   refine ol rfl (lo_conv rfl (by rw[underlying36];rfl) underlying5) ?_
   refine ow1 (op1_in (en_f cb125 rfl) func125 rfl ntmps125 rfl rfl ?_)
   refine Ju_ (F4_ (ol rfl (Ld_ rfl) (Ke_ (Jx_ (Ju_ ?_)))))
   refine F4_ (ol rfl (J0_ (v:= .pointer (some ⟨_,_,none⟩)) rfl) ?_)
   refine ow1 (copyCheck 2 rfl rfl hpp rfl ?_)
   refine Ke_ (Jx_ (Ju_ (F4_ (ol rfl (J0_ (v:= .pointer (some ⟨_,_,none⟩)) rfl) (ol rfl (J0_ (v:= .pointer (some ⟨_,_,none⟩)) rfl) ?_)))))
   refine ol rfl (Hc_ rfl) (ol rfl (Fe_ rfl We_) (ol rfl (Ky_ (i:=2) rfl ag216 rfl rfl) (omi rfl rfl ?_)))
   refine ow1 (Vd_ (cs:=[_]) 4 rfl underlying216 sz5 zx5 rfl ⟨rfl,rfl,trivial⟩ rfl rfl (by decide) (λb8=>?_))
   refine ow1 (op1_app 3 rfl rfl underlying216 underlying216 rfl sz5 by5 (by decide) zr5 ho (src_bx (i:=4) rfl rfl) (List.all_eq_true.1 rfl) rfl (by omega) rfl (λv9 en10 ho11=>?_))
   have ho12:=byte_app (bs:=bs) ho11 (by first|rfl|simp) (wrap8r _)
   refine ol rfl (Hc_ rfl) (ol rfl (Fe_ rfl We_) ?_)
   refine ow1 (K5_ (i:=2) rfl rfl (ownV_one ho12) sz216 rfl rfl ?_)
   refine Ke_ (Jx_ (Ju_ (F4_ (ol rfl (Ld_ rfl) (Ke_ ?_)))))
   refine Jx_ (cw_ret (fnK_r (res1 rfl (rv_t rfl)) (.refl _) (Ke_ (blkK_n (Jx_ ?_)))))
   refine F4_ (omi rfl rfl (ol rfl (lo_sub rfl rfl (Rg_ (by omega))) (oai rfl rfl (Ke_ ?_))))
   refine next5 (j-1) (bs++[UInt8.ofNat ((IntKind.wrap .u8 (Int.fdiv n (2 ^ (min ((8*((j:Int)-1)):Int).toNat (IntKind.bits .u64)))))).toNat]) (.pointer (some ⟨b3,0,none⟩)) v9 en10 (Z2_ (Vb_ (by first|exact off_refl|(repeat (first|exact off_mask|refine off_upd rfl ?_|refine Zf_ rfl ?_)))) (congrArg (Value.int .i64) (show ((j:Int)-1)-1=((j-1:Nat):Int)-1 by omega))) (Oj_ (Oj_ (Th_ (by first|exact Zg_|(repeat (first|exact offl_mask|refine offl_upd rfl ?_|refine offl_mask2 rfl ?_)))) rfl) rfl) hl5 ?_ ?_
   . refine⟨?_,?_,ho12,(nz_of ho12 (by simp)), .inr rfl⟩
     . rw[byte_of n_r.1 (by omega) (by omega),List.append_assoc,<- hk1]
       obtain⟨q,rfl⟩:∃ q,j=q+1:=⟨j-1,by omega⟩
       simp[numB]
     simp;omega
   omega
 have p13:=df h6
 refine cw_exit (seqK_e (loopK_e (blkK_hit (Jx_ (Ju_ ?_)))))
 refine cw_anyX 3 mixd (vw_q 0 rfl (by kernel_rfl) (by repeat (first|exact Jv_|exact LLe.refl _|exact G2_|refine Kd_ ?_ rfl)) (λ_ _ hh hl=>Fe_ rfl fl134_0) ?_)
 refine vw_q 1 rfl (by kernel_rfl) (by repeat (first|exact Jv_|exact LLe.refl _|exact G2_|refine Kd_ ?_ rfl)) (λ_ _ hh hl=>Ky_ (i:=0) (v:=str _) rfl ag9 (hl _ _ rfl) rfl) ?_
 refine vw_e 2 rfl (by kernel_rfl) (op1_in (en_f cb126 rfl) func126 rfl ntmps126 rfl rfl ?_)
 refine Ju_ (F4_ (ol rfl (Ld_ (v:=str _) rfl) (Ke_ (Jx_ (Ju_ ?_)))))
 refine cw_anyX 3 mixd ?_
 refine vw_q 0 rfl (by kernel_rfl) (by repeat (first|exact Jv_|exact LLe.refl _|exact G2_|refine Kd_ ?_ rfl)) (λ_ _ hh hl=>J0_ (v:= .pointer (some ⟨_,_,none⟩)) rfl) ?_
 refine vw_q 1 rfl (by kernel_rfl) (by repeat (first|exact Jv_|exact LLe.refl _|exact G2_|refine Kd_ ?_ rfl)) (λ_ _ hh hl=>Hc_ rfl) ?_
 refine vw_q 2 rfl (by kernel_rfl) (by repeat (first|exact Jv_|exact LLe.refl _|exact G2_|refine Kd_ ?_ rfl)) (λ_ _ hh hl=>Fe_ rfl We_) ?_
 refine vw_q 3 rfl (by kernel_rfl) (by repeat (first|exact Jv_|exact LLe.refl _|exact G2_|refine Kd_ ?_ rfl)) (λ_ _ hh hl=>Ky_ (i:=2) rfl ag216 (hl _ _ rfl) rfl) ?_
 refine vw_q 4 rfl (by kernel_rfl) (by repeat (first|exact Jv_|exact LLe.refl _|exact G2_|refine Kd_ ?_ rfl)) (λ_ _ hh hl=>lo_usd rfl ho hz) ?_
 refine vw_q 5 rfl (by kernel_rfl) (by repeat (first|exact Jv_|exact LLe.refl _|exact G2_|refine Kd_ ?_ rfl)) (λ_ _ hh hl=>J0_ (v:= .pointer (some ⟨_,_,none⟩)) rfl) ?_
 refine vw_q 6 rfl (by kernel_rfl) (by repeat (first|exact Jv_|exact LLe.refl _|exact G2_|refine Kd_ ?_ rfl)) (λ_ _ hh hl=>Hc_ rfl) ?_
 refine vw_q 7 rfl (by kernel_rfl) (by repeat (first|exact Jv_|exact LLe.refl _|exact G2_|refine Kd_ ?_ rfl)) (λ_ _ hh hl=>Fe_ rfl We_) ?_
 refine vw_q 8 rfl (by kernel_rfl) (by repeat (first|exact Jv_|exact LLe.refl _|exact G2_|refine Kd_ ?_ rfl)) (λ_ _ hh hl=>Ky_ (i:=2) rfl ag216 (hl _ _ rfl) rfl) ?_
 refine vw_q 9 rfl (by kernel_rfl) (by repeat (first|exact Jv_|exact LLe.refl _|exact G2_|refine Kd_ ?_ rfl)) (λ_ _ hh hl=>U9_ rfl ho underlying216) ?_
 refine vw_e 10 rfl (by kernel_rfl) (op1_ustr (l:=bs) 3 rfl rfl underlying294 co5 ho hz (by have hq:=Aw_ (numK bytes) n.toNat;simp[numK] at *;omega) rfl ?_)
 refine⟨⟨(.refl _),(by repeat (first|exact Jv_|exact LLe.refl _|exact G2_|refine Kd_ ?_ rfl))⟩,?_⟩
 refine vw_q 11 rfl (by kernel_rfl) (by repeat (first|exact Jv_|exact LLe.refl _|exact G2_|refine Kd_ ?_ rfl)) (λ_ _ hh hl=>Ld_ (v:=str _) rfl) ?_
 refine vw_done (by kernel_rfl) (Jx_ (cw_ret (fnK_r (res1 rfl (rv_t (v:=str _) rfl)) (.refl _) ?_)))
 refine⟨⟨(.refl _),(by repeat (first|exact Jv_|exact LLe.refl _|exact G2_|refine Kd_ ?_ rfl))⟩,?_⟩
 refine vw_q 3 rfl (by kernel_rfl) (by repeat (first|exact Jv_|exact LLe.refl _|exact G2_|refine Kd_ ?_ rfl)) (λ_ _ hh hl=>lo_cat rfl rfl (by have hq:=Aw_ (numK bytes) n.toNat;simp[numK] at *;omega)) ?_
 refine vw_q 4 rfl (by kernel_rfl) (by repeat (first|exact Jv_|exact LLe.refl _|exact G2_|refine Kd_ ?_ rfl)) (λ_ _ hh hl=>Fe_ rfl fl134_0) ?_
 refine vw_t 5 rfl (by kernel_rfl) (by kernel_rfl) (K5_ (i:=0) (v:=str _) rfl rfl rfl sz9 rfl rfl ?_)
 refine vw_done (by kernel_rfl) (Jx_ (Ju_ (F4_ (ol rfl (Rx_ (i:=0) (vs:=[_,_]) rfl ag134 sz134 rfl rfl rfl) ?_))))
 refine ow1 (Ve_ (i:=1) (vs:=[_,_]) rfl rfl rfl sz134 rfl rfl rfl ?_)
 refine Ke_ (Jx_ (cw_ret (fnK_r (res1 rfl (rv_c (i:=1) (vs:=[_,_]) rfl ag134 sz134 rfl rfl rfl)) ((HLe.refl _).trans hl5) ?_)))
 obtain rfl :j=0:=by omega
 simp only[numB,List.append_nil] at hk1
 subst hk1
 rfl
end Go.SW
namespace Go.SW.V
open Go.SW Go.Proofs
abbrev ty9:TI:=⟨.str,1,16,[.str []]⟩
abbrev ty3:TI:=⟨.int .i64,1,8,[.int .i64 0]⟩
abbrev ty36:TI:=⟨.int .u64,1,8,[.int .u64 0]⟩
abbrev ty71:TI:=⟨.int .i64,1,8,[.int .i64 0]⟩
abbrev ty134:TI:=⟨.agg [(0,1),(1,1)],2,24,[.str [], .int .i64 0]⟩
abbrev ty211:TI:=⟨.agg [(0,1),(1,1)],2,24,[.str [], .int .i64 0]⟩
abbrev ty86:TI:=⟨.slc 9,1,24,[.sl strc []]⟩
abbrev ty2:TI:=⟨.int .i64,1,8,[.int .i64 0]⟩
abbrev ty5:TI:=⟨.int .u8,1,1,[.int .u8 0]⟩
abbrev ty60:TI:=⟨.slc 225,1,24,[.sl Pair.pc []]⟩
abbrev ty225:TI:=⟨.agg [(0,1),(1,1),(2,1),(3,1)],4,48,[.str [], .int .u8 0, .int .i64 0, .str []]⟩
abbrev ty4:TI:=⟨.bool,1,1,[.bool false]⟩
abbrev ty62:TI:=⟨.agg [(0,1),(1,1),(2,1),(3,1),(4,1),(5,1)],6,88,[.str [], .str [], .bool false, .str [], .sl Pair.pc [], .bool false]⟩
abbrev ty216:TI:=⟨.slc 5,1,24,[.sl u8c []]⟩
abbrev ty57:TI:=⟨.agg [(0,1),(1,1),(2,1)],3,40,[.str [], .int .u8 0, .str []]⟩
abbrev ty59:TI:=⟨.agg [(0,1),(1,1),(2,1),(3,1)],4,48,[.str [], .int .u64 0, .int .u64 0, .str []]⟩
abbrev ty64:TI:=⟨.agg [(0,1),(1,1),(2,1),(3,1),(4,1),(5,1),(6,1)],7,96,[.int .u64 0, .str [], .str [], .sl Pair.pc [], .str [], .int .u64 0, .int .u8 0]⟩
abbrev ty66:TI:=⟨.agg [(0,1),(1,1),(2,3),(5,4),(9,6),(15,1),(16,1),(17,1),(18,1),(19,1),(20,1),(21,7),(28,1)],29,344,[.int .u8 0, .int .u64 0, .str [], .int .u8 0, .str [], .str [], .int .u64 0, .int .u64 0, .str [], .str [], .str [], .bool false, .str [], .sl Pair.pc [], .bool false, .str [], .int .u64 0, .int .u8 0, .int .u8 0, .int .u8 0, .int .u64 0, .int .u64 0, .str [], .str [], .sl Pair.pc [], .str [], .int .u64 0, .int .u8 0, .str []]⟩
abbrev ty250:TI:=⟨.slc 71,1,24,[.sl i64c []]⟩
abbrev ty289:TI:=⟨.agg [(0,1),(1,1),(2,1),(3,1)],4,56,[.int .u8 0, .str [], .sl Pair.pc [], .bool false]⟩
abbrev ty32:TI:=⟨.slc 57,1,24,[.sl W_.pc []]⟩
abbrev ty35:TI:=⟨.agg [(0,1),(1,1)],2,48,[.sl W_.pc [], .sl P_.pc []]⟩
abbrev ty33:TI:=⟨.slc 62,1,24,[.sl P_.pc []]⟩
abbrev ty328:TI:=⟨.slc 32,1,24,[.sl (slc W_.pc) []]⟩
abbrev ty331:TI:=⟨.slc 33,1,24,[.sl (slc P_.pc) []]⟩
abbrev ty27:TI:=⟨.slc 66,1,24,[.sl L_.pc []]⟩
abbrev ty22:TI:=⟨.slc 99,1,24,[.sl A3_.pc []]⟩
abbrev ty23:TI:=⟨.slc 3,1,24,[.sl i64c []]⟩
abbrev ty24:TI:=⟨.slc 145,1,24,[.sl B0_.pc []]⟩
abbrev ty26:TI:=⟨.agg [(0,1),(1,1),(2,1),(3,1),(4,1)],5,88,[.int .i64 0, .int .i64 0, .sl A3_.pc [], .sl i64c [], .sl B0_.pc []]⟩
abbrev ty37:TI:=⟨.slc 167,1,24,[.sl Gi_.pc []]⟩
abbrev ty38:TI:=⟨.slc 64,1,24,[.sl Mail.pc []]⟩
abbrev ty44:TI:=⟨.slc 120,1,24,[.sl D5_.pc []]⟩
abbrev ty46:TI:=⟨.agg [(0,1),(1,1)],2,32,[.int .u64 0, .sl D5_.pc []]⟩
abbrev ty68:TI:=⟨.agg [(0,7),(7,1),(8,1)],9,104,[.int .u64 0, .str [], .str [], .sl Pair.pc [], .str [], .int .u64 0, .int .u8 0, .bool false, .bool false]⟩
abbrev ty95:TI:=⟨.int .u32,1,4,[.int .u32 0]⟩
abbrev ty97:TI:=⟨.agg [(0,1),(1,1)],2,8,[.int .u8 0, .int .u32 0]⟩
abbrev ty99:TI:=⟨.agg [(0,1),(1,2),(3,1),(4,1)],5,40,[.str [], .int .u8 0, .int .u32 0, .int .i64 0, .int .u64 0]⟩
abbrev ty120:TI:=⟨.agg [(0,1),(1,1),(2,1)],3,32,[.int .u64 0, .int .u8 0, .str []]⟩
abbrev ty145:TI:=⟨.agg [(0,1),(1,1),(2,1)],3,24,[.int .i64 0, .int .i64 0, .int .i64 0]⟩
abbrev ty163:TI:=⟨.slc 68,1,24,[.sl M_.pc []]⟩
abbrev ty165:TI:=⟨.agg [(0,1)],1,24,[.sl M_.pc []]⟩
abbrev ty167:TI:=⟨.agg [(0,4),(4,1)],5,72,[.str [], .int .u64 0, .int .u64 0, .str [], .sl M_.pc []]⟩
abbrev ty174:TI:=⟨.oth,1,8,[.val .nilFunc]⟩
abbrev ty279:TI:=⟨.slc 44,1,24,[.sl (slc D5_.pc) []]⟩
abbrev ty313:TI:=⟨.slc 37,1,24,[.sl (slc Gi_.pc) []]⟩
abbrev ty354:TI:=⟨.slc 163,1,24,[.sl (slc M_.pc) []]⟩
abbrev ty365:TI:=⟨.slc 38,1,24,[.sl (slc Mail.pc) []]⟩
abbrev ty40:TI:=⟨.agg [(0,1),(1,1)],2,32,[.int .u64 0, .sl Mail.pc []]⟩
abbrev ty43:TI:=⟨.agg [(0,1),(1,1),(2,1),(3,32)],35,552,[.int .u64 0, .int .i64 0, .sl Gi_.pc [], .int .u64 0, .sl Mail.pc [], .int .u64 0, .sl Mail.pc [], .int .u64 0, .sl Mail.pc [], .int .u64 0, .sl Mail.pc [], .int .u64 0, .sl Mail.pc [], .int .u64 0, .sl Mail.pc [], .int .u64 0, .sl Mail.pc [], .int .u64 0, .sl Mail.pc [], .int .u64 0, .sl Mail.pc [], .int .u64 0, .sl Mail.pc [], .int .u64 0, .sl Mail.pc [], .int .u64 0, .sl Mail.pc [], .int .u64 0, .sl Mail.pc [], .int .u64 0, .sl Mail.pc [], .int .u64 0, .sl Mail.pc [], .int .u64 0, .sl Mail.pc []]⟩
abbrev ty41:TI:=⟨.arr,32,512,[.int .u64 0, .sl Mail.pc [], .int .u64 0, .sl Mail.pc [], .int .u64 0, .sl Mail.pc [], .int .u64 0, .sl Mail.pc [], .int .u64 0, .sl Mail.pc [], .int .u64 0, .sl Mail.pc [], .int .u64 0, .sl Mail.pc [], .int .u64 0, .sl Mail.pc [], .int .u64 0, .sl Mail.pc [], .int .u64 0, .sl Mail.pc [], .int .u64 0, .sl Mail.pc [], .int .u64 0, .sl Mail.pc [], .int .u64 0, .sl Mail.pc [], .int .u64 0, .sl Mail.pc [], .int .u64 0, .sl Mail.pc [], .int .u64 0, .sl Mail.pc []]⟩
abbrev ty90:TI:=⟨.slc 59,1,24,[.sl Q_.pc []]⟩
abbrev ty52:TI:=⟨.agg [(0,2),(2,35),(37,2),(39,16),(55,16)],71,888,[.sl W_.pc [], .sl P_.pc [], .int .u64 0, .int .i64 0, .sl Gi_.pc [], .int .u64 0, .sl Mail.pc [], .int .u64 0, .sl Mail.pc [], .int .u64 0, .sl Mail.pc [], .int .u64 0, .sl Mail.pc [], .int .u64 0, .sl Mail.pc [], .int .u64 0, .sl Mail.pc [], .int .u64 0, .sl Mail.pc [], .int .u64 0, .sl Mail.pc [], .int .u64 0, .sl Mail.pc [], .int .u64 0, .sl Mail.pc [], .int .u64 0, .sl Mail.pc [], .int .u64 0, .sl Mail.pc [], .int .u64 0, .sl Mail.pc [], .int .u64 0, .sl Mail.pc [], .int .u64 0, .sl Mail.pc [], .int .u64 0, .sl Mail.pc [], .int .u64 0, .sl D5_.pc [], .int .u64 0, .int .u64 0, .int .u64 0, .int .u64 0, .int .u64 0, .int .u64 0, .int .u64 0, .int .u64 0, .int .u64 0, .int .u64 0, .int .u64 0, .int .u64 0, .int .u64 0, .int .u64 0, .int .u64 0, .int .u64 0, .int .u64 0, .int .i64 0, .int .u64 0, .int .i64 0, .int .u64 0, .int .i64 0, .int .u64 0, .int .i64 0, .int .u64 0, .int .i64 0, .int .u64 0, .int .i64 0, .int .u64 0, .int .i64 0, .int .u64 0, .int .i64 0]⟩
abbrev ty54:TI:=⟨.agg [(0,71),(71,5),(76,1)],77,984,[.sl W_.pc [], .sl P_.pc [], .int .u64 0, .int .i64 0, .sl Gi_.pc [], .int .u64 0, .sl Mail.pc [], .int .u64 0, .sl Mail.pc [], .int .u64 0, .sl Mail.pc [], .int .u64 0, .sl Mail.pc [], .int .u64 0, .sl Mail.pc [], .int .u64 0, .sl Mail.pc [], .int .u64 0, .sl Mail.pc [], .int .u64 0, .sl Mail.pc [], .int .u64 0, .sl Mail.pc [], .int .u64 0, .sl Mail.pc [], .int .u64 0, .sl Mail.pc [], .int .u64 0, .sl Mail.pc [], .int .u64 0, .sl Mail.pc [], .int .u64 0, .sl Mail.pc [], .int .u64 0, .sl Mail.pc [], .int .u64 0, .sl Mail.pc [], .int .u64 0, .sl D5_.pc [], .int .u64 0, .int .u64 0, .int .u64 0, .int .u64 0, .int .u64 0, .int .u64 0, .int .u64 0, .int .u64 0, .int .u64 0, .int .u64 0, .int .u64 0, .int .u64 0, .int .u64 0, .int .u64 0, .int .u64 0, .int .u64 0, .int .u64 0, .int .i64 0, .int .u64 0, .int .i64 0, .int .u64 0, .int .i64 0, .int .u64 0, .int .i64 0, .int .u64 0, .int .i64 0, .int .u64 0, .int .i64 0, .int .u64 0, .int .i64 0, .int .u64 0, .int .i64 0, .int .i64 0, .int .i64 0, .sl A3_.pc [], .sl i64c [], .sl B0_.pc [], .int .i64 0]⟩
abbrev ty49:TI:=⟨.agg [(0,1),(1,1)],2,16,[.int .u64 0, .int .i64 0]⟩
abbrev ty70:TI:=⟨.agg [(0,9),(9,1),(10,1)],11,120,[.int .u64 0, .str [], .str [], .sl Pair.pc [], .str [], .int .u64 0, .int .u8 0, .bool false, .bool false, .int .i64 0, .int .i64 0]⟩
abbrev ty185:TI:=⟨.slc 199,1,24,[.sl Hp_.pc []]⟩
abbrev ty199:TI:=⟨.agg [(0,1),(1,7)],8,112,[.str [], .int .u64 0, .str [], .str [], .sl Pair.pc [], .str [], .int .u64 0, .int .u8 0]⟩
abbrev ty103:TI:=⟨.slc 169,1,24,[.sl A3_.pc []]⟩
abbrev ty104:TI:=⟨.slc 171,1,24,[.sl B0_.pc []]⟩
abbrev ty106:TI:=⟨.agg [(0,1),(1,1),(2,1),(3,1),(4,1)],5,88,[.int .i64 0, .int .i64 0, .sl A3_.pc [], .sl i64c [], .sl B0_.pc []]⟩
abbrev ty169:TI:=⟨.agg [(0,1),(1,2),(3,1),(4,1)],5,40,[.str [], .int .u8 0, .int .u32 0, .int .i64 0, .int .u64 0]⟩
abbrev ty171:TI:=⟨.agg [(0,1),(1,1),(2,1)],3,24,[.int .i64 0, .int .i64 0, .int .i64 0]⟩
abbrev ty47:TI:=⟨.arr,16,128,[.int .u64 0, .int .u64 0, .int .u64 0, .int .u64 0, .int .u64 0, .int .u64 0, .int .u64 0, .int .u64 0, .int .u64 0, .int .u64 0, .int .u64 0, .int .u64 0, .int .u64 0, .int .u64 0, .int .u64 0, .int .u64 0]⟩
abbrev ty50:TI:=⟨.arr,16,128,[.int .u64 0, .int .i64 0, .int .u64 0, .int .i64 0, .int .u64 0, .int .i64 0, .int .u64 0, .int .i64 0, .int .u64 0, .int .i64 0, .int .u64 0, .int .i64 0, .int .u64 0, .int .i64 0, .int .u64 0, .int .i64 0]⟩
abbrev ty152:TI:=⟨.agg [(0,1)],1,24,[.sl strc []]⟩
abbrev ty125:TI:=⟨.agg [(0,1),(1,1)],2,32,[.val (.pointer none), .sl L_.pc []]⟩
def tbu:Tb:=[(9,ty9),(36,ty36),(5,ty5),(3,ty3),(64,ty64),(59,ty59),(57,ty57),(26,ty26),(68,ty68),(99,ty99),(4,ty4),(43,ty43),(22,ty22),(165,ty165),(60,ty60),(62,ty62),(46,ty46),(120,ty120),(37,ty37),(167,ty167),(163,ty163),(66,ty66),(32,ty32),(97,ty97),(24,ty24),(40,ty40),(35,ty35),(23,ty23),(38,ty38),(52,ty52),(134,ty134),(95,ty95),(145,ty145),(33,ty33),(86,ty86),(44,ty44),(54,ty54),(354,ty354),(365,ty365),(71,ty71),(313,ty313),(279,ty279),(250,ty250),(70,ty70),(225,ty225),(174,ty174),(185,ty185),(199,ty199),(90,ty90),(331,ty331),(2,ty2),(289,ty289),(328,ty328),(49,ty49),(41,ty41),(27,ty27),(103,ty103),(104,ty104),(106,ty106),(169,ty169),(171,ty171),(47,ty47),(50,ty50),(211,ty211),(216,ty216),(125,ty125),(152,ty152)]
theorem G_:tbB prog tbu=true:=by kernel_rfl
section
variable {n:Nat} {N:Rest} {H0:Env} {all:List Oper} {Q:Qs} {ks:List Kt} {fF:Nat->PV} {fL:Nat->Blk}
theorem kA (k:Nat) {c c':Cf} {ks':List Kt} {F':Nat->PV} {L':Nat->Blk} {az bs:List Nat} (next :Hd prog n N H0 Q c' ks' ⟨F',L'⟩) (h:run tbu n k c ks fF fL [] [] []=some ⟨c',ks',F',L',[],az,bs⟩:=by exact rfl) (he:az=bs:=by exact rfl):Hd prog n N H0 Q c ks ⟨fF,fL⟩:=gx G_ k next h he
theorem kB (k:Nat) (is:List Nat) {c c':Cf} {ks':List Kt} {F':(Nat->Nat)->Nat->PV} {L':(Nat->Nat)->Nat->Blk} {az bs:(Nat->Nat)->List Nat} (next :∀ B:Nat->Nat,Hd prog n N H0 Q c' ks' ⟨F' B,L' B⟩) (h:∀ B,runE tbu n k is B c ks fF fL [] [] []=some ⟨c',ks',F' B,L' B,[],az B,bs B⟩:=by exact λ_=>rfl) (he:∀ B,az B=bs B:=by exact λ_=>rfl):Hd prog n N H0 Q c ks ⟨fF,fL⟩:=gm G_ k is next h he
theorem kC (k:Nat) {c c':Cf} {ks':List Kt} {F':Nat->PV} {L':Nat->Blk} {ps:List Prop} {az bs:List Nat} (next :Hd prog n N H0 Q c' ks' ⟨F',L'⟩) (h:run tbu n k c ks fF fL [] [] []=some ⟨c',ks',F',L',ps,az,bs⟩:=by exact rfl) (he:az=bs:=by exact rfl) (hp:AllP ps:=by repeat' (first|exact trivial|refine And.intro ?_ ?_|exact λhc=>hc|exact rfl|exact λhc=>rfl|omega|(intro hc;omega)|(intro hc;rw[hc];rfl))):Hd prog n N H0 Q c ks ⟨fF,fL⟩:=gy G_ k next h he hp
theorem kD (k:Nat) (is:List Nat) {c c':Cf} {ks':List Kt} {F':(Nat->Nat)->Nat->PV} {L':(Nat->Nat)->Nat->Blk} {ps:(Nat->Nat)->List Prop} {az bs:(Nat->Nat)->List Nat} (next :∀ B:Nat->Nat,Hd prog n N H0 Q c' ks' ⟨F' B,L' B⟩) (h:∀ B,runE tbu n k is B c ks fF fL [] [] []=some ⟨c',ks',F' B,L' B,ps B,az B,bs B⟩:=by exact λ_=>rfl) (he:∀ B,az B=bs B:=by exact λ_=>rfl) (hp:∀ B,AllP (ps B):=by intro B;repeat' (first|exact trivial|refine And.intro ?_ ?_|exact λhc=>hc|exact rfl|exact λhc=>rfl|omega|(intro hc;omega)|(intro hc;rw[hc];rfl))):Hd prog n N H0 Q c ks ⟨fF,fL⟩:=gmy G_ k is next h he hp
theorem kE (order:List Nat) (f:Nat) {xs:Option (List Nat)} {fuel:Nat} {listed:Array Bool} {F':Nat->PV} {L':Nat->Blk} {az bs:List Nat} (next :Hv prog n N H0 Q xs all f (lst listed order) ks ⟨F',L'⟩) (hf:fuel=f+order.length:=by exact rfl) (hc:chkV n all order listed=true:=by kernel_rfl) (h:runV tbu xs all order fF fL [] [] []=some ⟨F',L',[],az,bs⟩:=by exact rfl) (he:az=bs:=by exact rfl):Hv prog n N H0 Q xs all fuel listed ks ⟨fF,fL⟩:=gX G_ order f next hf hc h he
theorem kF (order:List Nat) (f:Nat) {xs:Option (List Nat)} {fuel:Nat} {listed:Array Bool} {F':Nat->PV} {L':Nat->Blk} {ps:List Prop} {az bs:List Nat} (next :Hv prog n N H0 Q xs all f (lst listed order) ks ⟨F',L'⟩) (hf:fuel=f+order.length:=by exact rfl) (hc:chkV n all order listed=true:=by kernel_rfl) (h:runV tbu xs all order fF fL [] [] []=some ⟨F',L',ps,az,bs⟩:=by exact rfl) (he:az=bs:=by exact rfl) (hp:AllP ps:=by repeat' (first|exact trivial|refine And.intro ?_ ?_|exact λhc=>hc|exact rfl|exact λhc=>rfl|omega|(intro hc;omega)|(intro hc;rw[hc];rfl))):Hv prog n N H0 Q xs all fuel listed ks ⟨fF,fL⟩:=gXy G_ order f next hf hc h he hp
theorem kG {G:Gb} {m:Nat} {f:FuncId} {fn:Func} {c:Code} {args:List PV} {res:PV} (hf:prog.funcs[f]? = some fn) (hn:fn.ntmps=m) (h:PV.wfs args->∀ N H,G.p H->Hd prog m N ⟨H,G⟩ (rtK tbu fn.results.toList res) (.code c) [] ⟨Ni_ args,λ_=> .no⟩) (hb:fn.body=some c:=by exact rfl) (hs:Nat.ble args.length m=true:=by exact rfl) (h1:(fn.name == "runtime.NumGoroutine")=false:=by kernel_rfl) (h2:fn.body.isNone=false:=by kernel_rfl) (hno:res.noOsl=true:=by exact rfl) (hna:Cs_ args=true:=by exact rfl):Fn prog G f args res:=fC hf G_ hn h hb hs h1 h2 hno hna
theorem kI {T ty d:Nat} {rest:List Oper} {pos:String} {af:Array Edge} {x y:Operand} {α:Type} {ti te:TI} {e:TypeId} {enc:α->List PV} {xs:List α} {kk:IntKind} {i:Int} (m:Nat) {a:α} (hm:xs[m]? = some a) (k:(PV.el (enc a) 0).wf->Hd prog n N H0 Q (.ops all rest) ks ⟨updp fF d (.el (enc a) 0),fL⟩) (hx:evP fF x = .sl enc xs:=by exact rfl) (hy:evP fF y = .int kk i:=by exact rfl) (hi:i=m:=by exact rfl) (hti:lkT tbu T=some ti:=by exact rfl) (htk:ti.k = .slc e:=by exact rfl) (hte:lkT tbu e=some te:=by exact rfl) (hsz:te.size=(enc a).length:=by exact rfl) (hd:Nat.blt d n=true:=by exact rfl):Hd prog n N H0 Q (.ops all (⟨some d, .indexAddr T x y,ty,pos,af,none⟩::rest)) ks ⟨fF,fL⟩:=q1 (qidx G_ m hx hy hi hm hti htk hte hsz) hd k
end
def gb:Gb:=⟨λH=>GInt H 1/\GPow H 0,λH H' hl h=>⟨h.1.mono hl,h.2.mono hl⟩⟩
theorem gbML {H:Hp} (h:gb.p H):GInt H 1:=h.1
theorem gbPow {H:Hp} (h:gb.p H):GPow H 0:=h.2
theorem r4_letter (c:Int):Fn prog gb 160 [.int .u8 c] (.bool (letter c)):=by
 refine kG func160 ntmps160 λw N H hG=>?_;refine kC 33 ?_;refine rt1 rfl rfl (ple ?_)
 simp[letter, *]
theorem Ud_ (s:Bs):Fn prog gb 164 [.str s] (.bool (plain s)):=by
 refine kG func164 ntmps164 λw N H hG=>?_;have s_l:s.length<=9223372036854775807:=w.1;refine kA 14 ?_;refine loop (ι:=Nat) [0,5,6] [] (λk=>[(7, .int .i64 (k:Int))]) (λk=>[]) (λk=>k<=s.length/\(s.drop k).all (λc=>letter c.toNat)=plain s) (λk=>s.length-k) 0 ⟨rfl,trivial⟩ trivial ?_ ?_
 . exact⟨by omega,rfl⟩
 rintro k hp1;obtain⟨hk1,hk2⟩:=hp1;refine kA 6 ?_;refine cn rfl (λp3=>?_) λp21=>?_
 . have :=u8r (s.getD k 0);refine kA 14 ?_;refine q1 (sidx G_ k rfl rfl rfl rfl rfl (by omega)) rfl λw4=>kC 16 ?_;refine cnd rfl (λh5=>?_) (λh5=>?_)
   . have h6:=bl h5;have p7:=dt h6;have h8:=br h5;have p9:=dt h8;refine kA 2 ?_;refine cndT rfl h5 ?_;refine kC 8 ?_;refine next (k+1) rfl rfl ⟨rfl,trivial⟩ trivial ?_ ?_
     . omega
     exact⟨by omega,by rw[<- hk2,K8_ (k:=k) (by omega),List.all_cons];generalize ((s.getD k 0).toNat:Int)=z at *;simp[letter, *]⟩
   refine kC 11 ?_;refine cnd rfl (λh10=>?_) (λh10=>?_)
   . have h11:=bl h10;have p12:=dt h11;have h13:=br h10;have p14:=dt h13;refine kA 2 ?_;refine cndT rfl h10 ?_;refine kC 8 ?_;refine next (k+1) rfl rfl ⟨rfl,trivial⟩ trivial ?_ ?_
     . omega
     exact⟨by omega,by rw[<- hk2,K8_ (k:=k) (by omega),List.all_cons];generalize ((s.getD k 0).toNat:Int)=z at *;simp[letter, *]⟩
   refine kA 7 ?_;refine cnd rfl (λh15=>?_) (λh15=>?_)
   . have p16:=dt h15;refine kA 2 ?_;refine cndT rfl h15 ?_;refine kC 8 ?_;refine next (k+1) rfl rfl ⟨rfl,trivial⟩ trivial ?_ ?_
     . omega
     exact⟨by omega,by rw[<- hk2,K8_ (k:=k) (by omega),List.all_cons];generalize ((s.getD k 0).toNat:Int)=z at *;simp[letter, *]⟩
   have p17:=df h15;refine kA 6 ?_;refine cn rfl (λp19=>?_) λp20=>?_
   . refine kC 8 ?_;refine next (k+1) rfl rfl ⟨rfl,trivial⟩ trivial ?_ ?_
     . omega
     exact⟨by omega,by rw[<- hk2,K8_ (k:=k) (by omega),List.all_cons];generalize ((s.getD k 0).toNat:Int)=z at *;simp[letter, *]⟩
   refine kA 12 ?_;refine rt1 rfl rfl (ple ?_);refine congrArg PV.bool ?_;first|(rw[<- hk2,K8_ (k:=k) (by omega),List.all_cons];generalize ((s.getD k 0).toNat:Int)=z at *;simp[letter, *];done)|(rw[<- hk2,List.drop_of_length_le (by omega)];rfl)
 refine kA 11 ?_;refine rt1 rfl rfl (ple ?_);refine congrArg PV.bool ?_;first|(rw[<- hk2,K8_ (k:=k) (by omega),List.all_cons];generalize ((s.getD k 0).toNat:Int)=z at *;simp[letter, *];done)|(rw[<- hk2,List.drop_of_length_le (by omega)];rfl)
theorem Ey_ (s:Bs):Fn prog gb 91 [.str s] (.int .i64 (Ez_ s)):=by
 refine kG func91 ntmps91 λw N H hG=>?_;refine kA 14 ?_;refine cn rfl (λp2=>?_) λp3=>?_
 . refine kA 8 ?_;refine rt1 rfl rfl (ple ?_)
   simp[Ez_, *]<;>omega
 refine kA 8 ?_;refine cn rfl (λp5=>?_) λp6=>?_
 . refine kA 8 ?_;refine rt1 rfl rfl (ple ?_)
   simp[Ez_, *]<;>omega
 refine kA 3 ?_;refine call (Ud_ _) rfl rfl λw7=>kA 4 ?_;refine cnd rfl (λh8=>?_) (λh8=>?_)
 . have h9:=E7_ h8;refine kA 8 ?_;refine rt1 rfl rfl (ple ?_)
   simp[Ez_, *]<;>omega
 have h10:=Eu_ h8;refine kA 9 ?_;refine rt1 rfl rfl (ple ?_)
 simp[Ez_, *]<;>omega
theorem cb52:Ad_ prog 52:=Aa_ func52 (by kernel_rfl) (by kernel_rfl)
theorem out_Num (o:Out) (n bytes:Int) (hlen:o.s.length<=4611686018427387904):Fn prog gb 52 [.agg (Out.pc o), .int .u64 n, .int .i64 bytes] (.agg (Out.pc (B_ o n bytes))):=
 fn_of_pr (vs:=[.agg [str o.s, .int .i64 o.err].toArray, .int .u64 n, .int .i64 bytes]) (v:= .agg [str (B_ o n bytes).s, .int .i64 (B_ o n bytes).err].toArray) cb52 rfl rfl
   (λw H=>Sims.cons (Sim.toAgg (Sims.cons (Sim.str w.1.1) (Sims.cons (Sim.int w.1.2.1.1 w.1.2.1.2) Sims.nil))) (Sims.cons (Sim.int w.2.1.1 w.2.1.2) (Sims.cons (Sim.int w.2.2.1.1 w.2.2.1.2) Sims.nil)))
   (λw H=>Sim.toAgg (Sims.cons (Sim.str (by have :=R_ o n bytes;omega)) (Sims.cons (Sim.int w.1.2.1.1 w.1.2.1.2) Sims.nil)))
   (λw H hG=>SW.out_Num H o n w.2.1 bytes w.2.2.1 hlen)
theorem J3_ (o:Out) (s:Bs) (hlen:o.s.length+s.length<=4611686018427387904:=by ((try have :=hrl (by assumption));first|omega|(simp[B_,Aq_,Aw_,numK]<;>omega))):Fn prog gb 56 [.agg (Out.pc o), .str s] (.agg (Out.pc (Aq_ o s))):=by
 refine kG func56 ntmps56 λw N H hG=>?_;refine gmp G_ 23 [0,1] (λ_=>rfl) (λ_=>rfl) (λ_=>⟨(by first|omega|(simp<;>omega)),trivial⟩) λB2=>?_;refine rt1 rfl rfl (ple ?_)
 rfl
theorem Dz_ (o:Out):Fn prog gb 59 [.agg (Out.pc o)] (.str o.s):=by
 refine kG func59 ntmps59 λw N H hG=>?_;refine kB 14 [0] λB2=>?_;refine rt1 rfl rfl (ple ?_)
 rfl
theorem D7_ (o:Out) (s:Bs) (hlen:o.s.length+s.length<=4611686018427386000:=by ((try have :=hrl (by assumption));first|omega|(simp[B_,Aq_,Aw_,numK]<;>omega))):Fn prog gb 53 [.agg (Out.pc o), .str s] (.agg (Out.pc (H_ o s))):=by
 refine kG func53 ntmps53 λw N H hG=>?_;refine kB 14 [0,1] λB2=>?_;refine cn rfl (λp5=>?_) λp11=>?_
 . refine kA 8 ?_;refine cn rfl (λp7=>?_) λp9=>?_
   . refine kB 13 [] λ_=>?_;refine rt1 rfl rfl (ple ?_)
     simp[H_,Out.pc, *]
   refine kB 10 [] λ_=>?_;refine rt1 rfl rfl (ple ?_)
   simp[H_,Out.pc, *]
 refine kA 7 ?_;refine q1 (qconv G_ rfl rfl rfl rfl (Lj_ (by omega))) rfl λw12=>call (out_Num _ _ _ (by ((try have :=hrl (by assumption));first|omega|(simp[B_,Aq_,Aw_,numK]<;>omega)))) rfl rfl λw13=>?_;have :=R_ o (s.length:Int) 2;refine kA 1 ?_;refine call (J3_ _ _) rfl rfl λw14=>?_;have :=Ek_ (B_ o (s.length:Int) 2) s;refine kB 4 [] λ_=>?_;refine rt1 rfl rfl (ple ?_)
 simp[H_,Out.pc, *]
theorem cb122:Ad_ prog 122:=Aa_ func122 (by kernel_rfl) (by kernel_rfl)
theorem cb44:Ad_ prog 44:=Aa_ func44 (by kernel_rfl) (by kernel_rfl)
theorem cb47:Ad_ prog 47:=Aa_ func47 (by kernel_rfl) (by kernel_rfl)
theorem Tr_ (s:Bs):Fb prog gb 44 [.str s] 211 (In.pc (⟨s,0⟩)):=by
 refine fb_cw G_ func44 rfl ntmps44 rfl cb44 rfl rfl λw N H hG=>?_;refine kB 14 [0] λB2=>?_;refine rb rfl rfl rfl rfl rfl ?_;exact ples_rfl
theorem Iu_ (i:In) (code:Int):Fm prog gb 122 [.int .i64 code] 211 (In.pc i) (.tup []) (In.pc (Bo_ i code)):=by
 refine Qq_ G_ func122 rfl ntmps122 rfl cb122 rfl rfl rfl rfl λw wp b N H hG=>?_;refine kA 3 ?_;refine q1 (qpne underlying122 rfl rfl) rfl λw1=>kC 13 ?_;refine cnd rfl (λh2=>?_) (λh2=>?_)
 . have h3:=bl h2;have h4:=bl h3;have h5:=br h3;have p6:=dt h5;have h7:=br h2;have h8:=E7_ h7;have p9:=df h8;refine kB 11 [] λ_=>?_;refine rm0n rfl rfl ?_ rfl rfl rfl ?_
   . exact ple (by first|rfl|(simp[Bo_, *];done))
   refine ples ?_
   first|rfl|(simp[Bo_,In.pc, *];done)|(simp only[Bo_];split<;>simp_all [In.pc])
 refine kA 1 ?_;refine rm0n rfl rfl ?_ rfl rfl rfl ?_
 . exact ple (by first|rfl|(simp[Bo_, *];done))
 refine ples ?_
 first|rfl|(simp[Bo_,In.pc, *];done)|(simp only[Bo_];split<;>simp_all [In.pc])
theorem U3_ (i:In) (n:Int):Fm prog gb 47 [.int .i64 n] 211 (In.pc i) (.str ((Fp_ i n).1)) (In.pc ((Fp_ i n).2)):=by
 refine Qq_ G_ func47 rfl ntmps47 rfl cb47 rfl rfl rfl rfl λw wp b N H hG=>?_;refine kA 11 ?_;refine q1 (qpeq underlying122 rfl rfl) rfl λw1=>kA 14 ?_;refine cnd rfl (λh2=>?_) (λh2=>?_)
 . have h3:=E7_ h2;have p4:=df h3;refine kA 2 ?_;refine cndT rfl h2 ?_;refine kA 8 ?_;refine rm1 rfl rfl ?_ rfl rfl rfl ?_
   . exact ple (by first|rfl|(simp[Fp_,Bo_, *];done))
   refine ples ?_
   first|rfl|(simp[Fp_,Bo_,In.pc, *];done)|(simp only[Fp_,Bo_];split<;>simp_all [In.pc])
 have h5:=Eu_ h2;have p6:=dt h5;refine kA 6 ?_;refine cn rfl (λp8=>?_) λp9=>?_
 . refine kA 8 ?_;refine rm1 rfl rfl ?_ rfl rfl rfl ?_
   . exact ple (by first|rfl|(simp[Fp_,Bo_, *];done))
   refine ples ?_
   first|rfl|(simp[Fp_,Bo_,In.pc, *];done)|(simp only[Fp_,Bo_];split<;>simp_all [In.pc])
 refine kA 12 ?_;refine cn rfl (λp11=>?_) λp13=>?_
 . refine kA 3 ?_;refine ef (ecallm (Iu_ _ _) rfl rfl rfl rfl rfl λw12 w12p=>?_);refine kA 10 ?_;refine rm1 rfl rfl ?_ rfl rfl rfl ?_
   . exact ple (by first|rfl|(simp[Fp_,Bo_, *];done))
   refine ples ?_
   first|rfl|(simp[Fp_,Bo_,In.pc, *];done)|(simp only[Fp_,Bo_];split<;>simp_all [In.pc])
 refine kA 10 ?_;refine q1 (sshi G_ (n).toNat rfl rfl rfl rfl (by omega) (by omega)) rfl λw14=>kA 11 ?_;refine q1 (sslo G_ (n).toNat rfl rfl rfl rfl (by omega) (by omega)) rfl λw15=>kB 12 [] λ_=>?_;refine rm1 rfl rfl ?_ rfl rfl rfl ?_
 . exact ple (by first|rfl|(simp[Fp_,Bo_, *];done))
 refine ples ?_
 first|rfl|(simp[Fp_,Bo_,In.pc, *];done)|(simp only[Fp_,Bo_];split<;>simp_all [In.pc])
theorem cb284:Ad_ prog 284:=Aa_ func284 (by kernel_rfl) (by kernel_rfl)
theorem strings_Split (s p:Bs) (hp:p=[46]) (hs:s.length<4294967281):Fn prog gb 284 [.str s, .str p] (.sl strc (dots s)):=
 ⟨cb284,rfl,λN H L w us hg hsim hm=>by
   obtain⟨v1,_,rfl,h1,h2⟩:=hsim.inv_cons;obtain⟨v2,_,rfl,h3,h4⟩:=h2.inv_cons
   cases h4.inv_nil
   rw[h1.inv_str.1,h3.inv_str.1]
   refine (SW.strings_Split H s p hp (gbML hg) hs N L w hm).mono λ_ _ ⟨v,H',h5,⟨a,c,h6,h7⟩,h8,h9⟩=>⟨v,H',h5,?_,h8,h9⟩
   rw[h6]
   exact Sim.of_slh (k:=1) ⟨h7.1,λm hm=>by
     obtain⟨cs,hE,hat⟩:=h7.2 m hm;obtain⟨hE1,hE2⟩:=hE;subst hE1;exact⟨_,⟨rfl,Sims.nil.cons (Sim.str hE2),λu hu=>by simp at hu;subst hu;rfl⟩,hat⟩⟩ (by have :=dots_le s;omega)⟩
theorem Pl_ (s:Bs) (hs:s.length<4294967281:=by omega):Fn prog gb 268 [.str s] (.sl strc (Dx_ s)):=by
 refine kG func268 ntmps268 λw N H hG=>?_;refine kA 12 ?_;refine cn rfl (λp2=>?_) λp3=>?_
 . refine kA 7 ?_;refine rt1 rfl rfl ?_;refine Jp_ ?_
   simp[Dx_, *]
 refine kA 5 ?_;refine call (strings_Split _ _ (by rfl) (by omega)) rfl rfl λw4=>kA 4 ?_;refine rt1 rfl rfl (ple ?_)
 simp[Dx_, *]
theorem Z4_ (s:Bs) (besides:List Bs):Fn prog gb 224 [.str s, .sl strc besides] (.int .i64 (keyE besides s)):=by
 refine kG func224 ntmps224 λw N H hG=>?_;have s_l:s.length<=9223372036854775807:=w.1;have besides_l:besides.length<=140737488355328:=w.2.1.1;refine kA 14 ?_;refine cn rfl (λp2=>?_) λp3=>?_
 . refine kA 8 ?_;refine rt1 rfl rfl (ple ?_)
   simp[keyE, *]
 refine kA 9 ?_;refine call (Pl_ _) rfl rfl λw4=>kA 5 ?_;refine loop (ι:=Nat) [0,1,9,10,11,12,13,14] [] (λk=>[(15, .int .i64 (k:Int))]) (λk=>[]) (λk=>k<=(Dx_ s).length/\(Dx_ s).any (Wq_ besides)=((Dx_ s).drop k).any (Wq_ besides)) (λk=>(Dx_ s).length-k) 0 ⟨rfl,trivial⟩ trivial ?_ ?_
 . exact⟨Nat.zero_le _,by simp⟩
 rintro k hp5;obtain⟨hk1,hk2⟩:=hp5;have hwl:=Xl_ s;refine kA 6 ?_;refine cn rfl (λp7=>?_) λp26=>?_
 . obtain⟨c8,hc9⟩:=getE (xs:=Dx_ s) (m:=k) (by omega);have c8_l:c8.length<=9223372036854775807:=(w4.2 c8 (List.mem_of_getElem? hc9)).1;refine kA 6 ?_;refine kI k hc9 λw10=>?_;refine kA 13 ?_;refine loop (ι:=Nat) [0,1,6,9,10,11,12,13,14,15,16,17,18,19,20] [] (λj=>[(21, .int .i64 (j:Int))]) (λj=>[]) (λj=>j<=besides.length/\besides.contains c8=(besides.drop j).contains c8) (λj=>besides.length-j) 0 ⟨rfl,trivial⟩ trivial ?_ ?_
   . exact⟨Nat.zero_le _,by simp⟩
   rintro j hp11;obtain⟨hj1,hj2⟩:=hp11;refine kA 6 ?_;refine cn rfl (λp13=>?_) λp20=>?_
   . obtain⟨c14,hc15⟩:=getE (xs:=besides) (m:=j) (by omega);have c14_l:c14.length<=9223372036854775807:=(w.2.1.2 c14 (List.mem_of_getElem? hc15)).1;refine kA 6 ?_;refine kI j hc15 λw16=>?_;refine kA 11 ?_;refine cn rfl (λp18=>?_) λp19=>?_
     . refine kC 12 ?_;refine next (k+1) rfl rfl ⟨rfl,trivial⟩ trivial ?_ ?_
       . omega
       refine⟨by omega,?_⟩
       rw[hk2,E3_ hc9,List.any_cons]
       have hb:Wq_ besides c8=false:=by
         unfold Wq_
         rw[hj2,E3_ hc15]
         first|(simp[*];done)|simp_all
       simp[hb]
     refine kC 7 ?_;refine next (j+1) rfl rfl ⟨rfl,trivial⟩ trivial ?_ ?_
     . omega
     refine⟨by omega,?_⟩
     rw[hj2,E3_ hc15,List.contains_cons]
     simp[*]
   refine kA 11 ?_;refine callg rfl (λhc=>(Ud_ _)) rfl ⟨(λhc=>hc),trivial⟩ rfl rfl λ_=>kC 4 ?_;refine cnd rfl (λh21=>?_) (λh21=>?_)
   . refine kA 12 ?_;refine rt1 rfl rfl (ple ?_);have hb:Wq_ besides c8=true:=by
       unfold Wq_
       rw[hj2,List.drop_of_length_le (by omega)]
       first|(simp[*];done)|simp_all
     unfold keyE
     rw[if_neg (by omega),hk2,E3_ hc9,List.any_cons,hb]
     rfl
   have h22:=orl h21;have p23:=df h22;have h24:=orr h21;have h25:=Eu_ h24;refine kC 7 ?_;refine next (k+1) rfl rfl ⟨rfl,trivial⟩ trivial ?_ ?_
   . omega
   refine⟨by omega,?_⟩
   rw[hk2,E3_ hc9,List.any_cons]
   have hb:Wq_ besides c8=false:=by
     unfold Wq_
     rw[hj2,List.drop_of_length_le (by omega)]
     first|(simp[*];done)|simp_all
   simp[hb]
 refine kA 12 ?_;refine rt1 rfl rfl (ple ?_)
 unfold keyE
 rw[if_neg (by omega),hk2,List.drop_of_length_le (by omega)]
 rfl
theorem Z3_ (s:Bs):Fn prog gb 166 [.str s] (.int .i64 (keyE [] s)):=by
 refine kG func166 ntmps166 λw N H hG=>?_;refine kA 8 ?_;refine call (Fn.le (Z4_ _ []) (A_ (ple rfl) (A_ Ar_ A9_)) (ple rfl) rfl) rfl rfl λw1=>kA 4 ?_;refine rt1 rfl rfl (ple ?_)
 rfl
theorem ag2:Ag prog 2 false:=λw=>by kernel_rfl
theorem ag5:Ag prog 5 false:=λw=>by kernel_rfl
theorem ag9:Ag prog 9 false:=λw=>by kernel_rfl
theorem eqg225:prog.eqGuardType prog.depth 225=false:=by kernel_rfl
theorem mixd:prog.follows .mixedOrders=true:=by kernel_rfl
theorem veq225 (p q:Pair):∀ (H:Hp) (vs us:List Value),Sims H (Pair.pc p) vs->Sims H (Pair.pc q) us->EqV prog 10000 225 (.agg vs.toArray) (.agg us.toArray) (decide (p=q)):=by
 intro H vs us hv hu;obtain⟨_,_,rfl,v0,v_0⟩:=hv.inv_cons;obtain⟨_,_,rfl,v1,v_1⟩:=v_0.inv_cons;obtain⟨_,_,rfl,v2,v_2⟩:=v_1.inv_cons;obtain⟨_,_,rfl,v3,v_3⟩:=v_2.inv_cons
 cases v_3.inv_nil
 cases v0.inv_str.1;cases v1.inv_int.1;cases v2.inv_int.1;cases v3.inv_str.1
 obtain⟨_,_,rfl,u0,u_0⟩:=hu.inv_cons;obtain⟨_,_,rfl,u1,u_1⟩:=u_0.inv_cons;obtain⟨_,_,rfl,u2,u_2⟩:=u_1.inv_cons;obtain⟨_,_,rfl,u3,u_3⟩:=u_2.inv_cons
 cases u_3.inv_nil
 cases u0.inv_str.1;cases u1.inv_int.1;cases u2.inv_int.1;cases u3.inv_str.1
 exact EqV.to' (Wa_ underlying225 (by kernel_rfl) (Qo_ (by decide) ag9 rfl rfl (Qp_ underlying9) (Qo_ (by decide) ag5 rfl rfl (O5_ underlying5) (Qo_ (by decide) ag2 rfl rfl (O5_ underlying2) (Qo_ (by decide) ag9 rfl rfl (Qp_ underlying9) V8_))))) (by obtain⟨a0,a1,a2,a3⟩:=p;obtain⟨b0,b1,b2,b3⟩:=q;rw[Bool.eq_iff_iff];simp)
theorem eq_Pair (a:List Pair) (b:List Pair):Fn prog gb 250 [.sl Pair.pc a, .sl Pair.pc b] (.bool (decide (a=b))):=by
 refine kG func250 ntmps250 λw N H hG=>?_;have a_l:a.length<=140737488355328:=w.1.1;have b_l:b.length<=140737488355328:=w.2.1.1;refine kA 15 ?_;refine cnd rfl (λh1=>?_) (λh1=>?_)
 . have h2:=E7_ h1;have p3:=df h2;refine kA 7 ?_;refine rt1 rfl rfl (ple ?_);exact congrArg PV.bool (eqL_len (by assumption)).symm
 have h4:=Eu_ h1;have p5:=dt h4;refine kA 11 ?_;refine loop (ι:=Nat) [0,1,6,7,8,9,10,11,12] [] (λk=>[(13, .int .i64 (k:Int))]) (λk=>[]) (λk=>k<=a.length /\ decide (a=b) = decide (a.drop k=b.drop k)) (λk=>a.length-k) 0 ⟨rfl,trivial⟩ trivial ?_ ?_
 . exact⟨Nat.zero_le _,rfl⟩
 rintro k hp6;obtain⟨hk1,hk2⟩:=hp6;refine kA 6 ?_;refine cnd rfl (λh7=>?_) (λh7=>?_)
 . have p8:=dt h7;refine kA 11 ?_;refine aN [0,1,2,3,4,5] 9 mixd<|kE [0,1] 7 ?_;obtain⟨c9,hc10⟩:=getE (xs:=a) (m:=k) (by omega);have c9_w:=Pair.pwf (w.1.2 c9 (List.mem_of_getElem? hc10));refine vq 2 (qidx G_ k rfl rfl rfl hc10 rfl rfl rfl rfl) rfl (by kernel_rfl) rfl λw11=>kE [3,4,5] 3 ?_;obtain⟨c12,hc13⟩:=getE (xs:=b) (m:=k) (by omega);have c12_w:=Pair.pwf (w.2.1.2 c12 (List.mem_of_getElem? hc13));refine vq 6 (qidx G_ k rfl rfl rfl hc13 rfl rfl rfl rfl) rfl (by kernel_rfl) rfl λw14=>kE [7] 1 ?_;refine vq 8 (sane rfl rfl eqg225 (veq225 c9 c12)) rfl (by kernel_rfl) rfl λw15=>vD ?_;refine kA 1 ?_;refine cnd rfl (λh16=>?_) (λh16=>?_)
   . have h17:=E7_ h16;have p18:=df h17;refine kA 11 ?_;refine rt1 rfl rfl (ple ?_);exact congrArg PV.bool (V6_ hk2 (E3_ hc10) (E3_ hc13) (by assumption)).symm
   have h19:=Eu_ h16;have p20:=dt h19;refine kC 7 ?_;refine next (k+1) rfl rfl ⟨rfl,trivial⟩ trivial ?_ ?_
   . omega
   exact⟨by omega,V7_ hk2 (E3_ hc10) (E3_ hc13) (by assumption)⟩
 have p21:=df h7;refine kA 11 ?_;refine rt1 rfl rfl (ple ?_);exact congrArg PV.bool (eqL_end hk2 (by omega) (by omega)).symm
theorem X4_ (a:List Pair) (b:List Pair):Fn prog gb 222 [.sl Pair.pc a, .sl Pair.pc b] (.bool (decide (a=b))):=by
 refine kG func222 ntmps222 λw N H hG=>?_;refine kA 9 ?_;refine call (eq_Pair _ _) rfl rfl λw1=>kA 4 ?_;refine rt1 rfl rfl (ple ?_)
 rfl
theorem idxF_Pair (s:List Pair) (f:FuncId) (f_fst f_cap:List PV) (f_p:Pair->Bool) (f_h:∀ x,Fn prog gb f (argsP.apL f_fst ((.agg (Pair.pc x))::f_cap)) (.bool (f_p x))):Fn prog gb 266 [.sl Pair.pc s, .fn f f_fst f_cap] (.int .i64 (idxP f_p s)):=by
 refine kG func266 ntmps266 λw N H hG=>?_;have s_l:s.length<=140737488355328:=w.1.1;refine kA 14 ?_;refine loop (ι:=Nat) [0,1,6,7] [] (λk=>[(8, .int .i64 (k:Int))]) (λk=>[]) (λk=>k<=s.length/\idxP f_p s=idxF f_p k (s.drop k)) (λk=>s.length-k) 0 ⟨rfl,trivial⟩ trivial ?_ ?_
 . exact⟨Nat.zero_le _,rfl⟩
 rintro k hp1;obtain⟨hk1,hk2⟩:=hp1;refine kA 6 ?_;refine cnd rfl (λh2=>?_) (λh2=>?_)
 . have p3:=dt h2;obtain⟨c4,hc5⟩:=getE (xs:=s) (m:=k) (by omega);have c4_w:=Pair.pwf (w.1.2 c4 (List.mem_of_getElem? hc5));refine kA 15 ?_;refine kI k hc5 λw6=>?_;refine kA 1 ?_;refine call (f_h c4) rfl rfl λw7=>kA 2 ?_;refine cnd rfl (λh8=>?_) (λh8=>?_)
   . refine kA 12 ?_;refine rt1 rfl rfl (ple ?_);exact congrArg (PV.int .i64) (Mz_ hk2 (E3_ hc5) (by assumption)).symm
   refine kC 7 ?_;refine next (k+1) rfl rfl ⟨rfl,trivial⟩ trivial ?_ ?_
   . omega
   exact⟨by omega,Kw_ hk2 (E3_ hc5) (by assumption)⟩
 have p9:=df h2;refine kA 11 ?_;refine rt1 rfl rfl (ple ?_);exact congrArg (PV.int .i64) (My_ hk2 (by omega)).symm
theorem head_Find1 (p:Pair) (key:Bs):Fn prog gb 267 [.agg (Pair.pc p), .el [.str key] 0] (.bool (decide (p.key=key))):=by
 refine kG func267 ntmps267 λw N H hG=>?_;refine kB 16 [0] λB2=>?_;refine rt1 rfl rfl (ple ?_)
 rfl
theorem X2_ (h:List Pair) (key:Bs):Fn prog gb 223 [.sl Pair.pc h, .str key] (.tup [.agg (Pair.pc ((Ug_ h key).getD Pair.zero)), .bool ((Ug_ h key).isSome)]):=by
 refine kG func223 ntmps223 λw N H hG=>?_;refine kB 10 [0,1] λB2=>?_;refine freeze (i:=0) (t:=3) rfl rfl rfl rfl<|kA 1 ?_;refine call (idxF_Pair _ _ _ _ (λz_4:Pair=>decide (z_4.key=key)) (λz_4=>head_Find1 z_4 key)) rfl rfl λw5=>?_;have hix5:=H8_ (λz_4:Pair=>decide (z_4.key=key)) h;refine kA 10 ?_;refine cn rfl (λp7=>?_) λp9=>?_
 . refine kB 9 [] λ_=>?_;refine rt2 rfl rfl ?_;refine ple ?_;have e:=Pt_ (by assumption);have e2:Ug_ h key=none:=by unfold Ug_;rw[<- e];congr 1;funext x;exact Tg_ _ _
   rw[e2];rfl
 obtain⟨c10,hc11⟩:=getE (xs:=h) (m:=(idxP (λz_4:Pair=>decide (z_4.key=key)) h).toNat) (by omega);have c10_w:=Pair.pwf (w.1.2 c10 (List.mem_of_getElem? hc11));refine kA 6 ?_;refine q1 (qidx G_ (idxP (λz_4:Pair=>decide (z_4.key=key)) h).toNat rfl rfl (by omega) hc11 rfl rfl rfl rfl) rfl λw12=>kB 6 [] λ_=>?_;refine rt2 rfl rfl ?_;refine ple ?_;have e:=(idxP_get (by assumption) hc11).2;have e2:Ug_ h key=some c10:=by unfold Ug_;rw[<- e];congr 1;funext x;exact Tg_ _ _
 rw[e2];rfl
theorem Sw_ (p:Pair) (ahead:List Pair):Fn prog gb 165 [.agg (Pair.pc p), .sl Pair.pc ahead] (.int .i64 (El_ p ahead)):=by
 refine kG func165 ntmps165 λw N H hG=>?_;refine kB 11 [0] λB2=>?_;refine call (Ey_ _) rfl rfl λw3=>kA 9 ?_;refine cnd rfl (λh4=>?_) (λh4=>?_)
 . have h5:=E7_ h4;have p6:=df h5;refine kA 8 ?_;refine rt1 rfl rfl (ple ?_);refine congrArg (PV.int .i64) ?_
   simp only[bl1] at *
   unfold El_
   (repeat' split)<;>first|rfl|(exfalso;omega)|(exfalso;simp_all;done)|(exfalso;simp_all;omega)|grind
 have h7:=Eu_ h4;have p8:=dt h7;refine kA 7 ?_;refine call (X2_ _ _) rfl rfl λw9=>kB 18 [1] λB11=>?_;refine cnd rfl (λh12=>?_) (λh12=>?_)
 . have p13:=dt h12;refine kA 8 ?_;refine rt1 rfl rfl (ple ?_);refine congrArg (PV.int .i64) ?_
   simp only[bl1] at *
   unfold El_
   (repeat' split)<;>first|rfl|(exfalso;omega)|(exfalso;simp_all;done)|(exfalso;simp_all;omega)|grind
 have p14:=df h12;refine kC 14 ?_;refine cnd rfl (λh15=>?_) (λh15=>?_)
 . have h16:=bl h15;have p17:=dt h16;have h18:=br h15;have p19:=dt h18;refine kA 8 ?_;refine rt1 rfl rfl (ple ?_);refine congrArg (PV.int .i64) ?_
   simp only[bl1] at *
   unfold El_
   (repeat' split)<;>first|rfl|(exfalso;omega)|(exfalso;simp_all;done)|(exfalso;simp_all;omega)|grind
 refine kC 18 ?_;refine cnd rfl (λh20=>?_) (λh20=>?_)
 . have h21:=bl h20;have h22:=bl h21;have p23:=dt h22;have h24:=br h21;have h25:=E7_ h24;have p26:=df h25;have h27:=br h20;have h28:=E7_ h27;have p29:=df h28;refine kA 8 ?_;refine rt1 rfl rfl (ple ?_);refine congrArg (PV.int .i64) ?_
   simp only[bl1] at *
   unfold El_
   (repeat' split)<;>first|rfl|(exfalso;omega)|(exfalso;simp_all;done)|(exfalso;simp_all;omega)|grind
 refine kC 14 ?_;refine cnd rfl (λh30=>?_) (λh30=>?_)
 . have h31:=bl h30;have p32:=dt h31;have h33:=br h30;have h34:=E7_ h33;have p35:=df h34;refine kA 2 ?_;refine cndT rfl h30 ?_;refine kA 8 ?_;refine rt1 rfl rfl (ple ?_);refine congrArg (PV.int .i64) ?_
   simp only[bl1] at *
   unfold El_
   (repeat' split)<;>first|rfl|(exfalso;omega)|(exfalso;simp_all;done)|(exfalso;simp_all;omega)|grind
 refine kC 12 ?_;refine cnd rfl (λh36=>?_) (λh36=>?_)
 . have h37:=bl h36;have h38:=E7_ h37;have p39:=df h38;have h40:=br h36;have h41:=E7_ h40;have p42:=df h41;refine kA 8 ?_;refine rt1 rfl rfl (ple ?_);refine congrArg (PV.int .i64) ?_
   simp only[bl1] at *
   unfold El_
   (repeat' split)<;>first|rfl|(exfalso;omega)|(exfalso;simp_all;done)|(exfalso;simp_all;omega)|grind
 refine kA 6 ?_;refine cnd rfl (λh43=>?_) (λh43=>?_)
 . refine kA 8 ?_;refine rt1 rfl rfl (ple ?_);refine congrArg (PV.int .i64) ?_
   simp only[bl1] at *
   unfold El_
   (repeat' split)<;>first|rfl|(exfalso;omega)|(exfalso;simp_all;done)|(exfalso;simp_all;omega)|grind
 refine kA 9 ?_;refine rt1 rfl rfl (ple ?_);refine congrArg (PV.int .i64) ?_
 simp only[bl1] at *
 unfold El_
 (repeat' split)<;>first|rfl|(exfalso;omega)|(exfalso;simp_all;done)|(exfalso;simp_all;omega)|grind
theorem K2_ (h:List Pair):Fn prog gb 94 [.sl Pair.pc h] (.int .i64 (Hh_ h)):=by
 refine kG func94 ntmps94 λw N H hG=>?_;refine kA 13 ?_;refine cn rfl (λp2=>?_) λp3=>?_
 . refine kA 7 ?_;refine rt1 rfl rfl (ple ?_)
   simp[Hh_, *]
 refine kA 11 ?_;refine loop (ι:=Nat) [0,6,7,8,9,10] [] (λk=>[(11, .int .i64 (k:Int))]) (λk=>[]) (λk=>k<=h.length/\Kr_ [] h=Kr_ (h.take k) (h.drop k)) (λk=>h.length-k) 0 ⟨rfl,trivial⟩ trivial ?_ ?_
 . exact⟨Nat.zero_le _,rfl⟩
 rintro k hp4;obtain⟨hk1,hk2⟩:=hp4;refine kA 6 ?_;refine cn rfl (λp6=>?_) λp19=>?_
 . obtain⟨c7,hc8⟩:=getE (xs:=h) (m:=k) (by omega);have c7_w:=Pair.pwf (w.1.2 c7 (List.mem_of_getElem? hc8));refine kA 7 ?_;refine kI k hc8 λw9=>?_;refine kB 7 [0] λB11=>?_;refine aN [1,2,3,4,5,6] 6 mixd<|kE [0,1,2] 3 ?_;refine vq 3 (lshi G_ k rfl rfl rfl rfl rfl (λ_=>rfl) rfl (by omega)) rfl (by kernel_rfl) rfl λw12=>vC 4 rfl (Sw_ _ _) rfl λw13=>?_;have :=Qc_ c7 (h.take k);refine kE [5] 0 ?_;refine vD<|kA 7 ?_;refine cnd rfl (λh14=>?_) (λh14=>?_)
   . have h15:=E7_ h14;have p16:=df h15;refine kA 12 ?_;refine rt1 rfl rfl (ple ?_)
     unfold Hh_
     rw[if_neg (by omega),hk2,E3_ hc8]
     simp only[Kr_]
     rw[if_pos (by omega)]
   have h17:=Eu_ h14;have p18:=dt h17;refine kC 7 ?_;refine next (k+1) rfl rfl ⟨rfl,trivial⟩ trivial ?_ ?_
   . omega
   refine⟨by omega,?_⟩
   rw[hk2,E3_ hc8,takeE hc8]
   simp only[Kr_]
   rw[if_neg (by omega)]
 refine kA 11 ?_;refine rt1 rfl rfl (ple ?_)
 unfold Hh_
 rw[if_neg (by omega),hk2,List.drop_of_length_le (by omega)]
 rfl
theorem V4_ (a:P_) (b:P_):Fn prog gb 162 [.agg (P_.pc a), .agg (P_.pc b)] (.bool (decide (a=b))):=by
 refine kG func162 ntmps162 λw N H hG=>?_;refine kD 40 [0,1] λB2=>?_;refine callg rfl (λhc=>(X4_ _ _)) rfl ⟨(λhc=>hc),(λhc=>hc),trivial⟩ rfl rfl λ_=>kC 12 ?_;refine rt1 rfl rfl (ple ?_);exact congrArg PV.bool (by rw[Bool.eq_iff_iff];first|(simp[P_.eq_iff,and_assoc];done)|(simp[P_.eq_iff];grind))
theorem Rs_ (yes:Bool):Fn prog gb 291 [.bool yes] (.int .u64 (bitN yes)):=by
 refine kG func291 ntmps291 λw N H hG=>?_;refine kA 11 ?_;refine cnd rfl (λh1=>?_) (λh1=>?_)
 . refine kA 7 ?_;refine rt1 rfl rfl (ple ?_)
   simp only[bitN, *];rfl
 refine kA 8 ?_;refine rt1 rfl rfl (ple ?_)
 simp only[bitN, *];rfl
theorem cb117:Ad_ prog 117:=Aa_ func117 (by kernel_rfl) (by kernel_rfl)
theorem cb118:Ad_ prog 118:=Aa_ func118 (by kernel_rfl) (by kernel_rfl)
theorem cb124:Ad_ prog 124:=Aa_ func124 (by kernel_rfl) (by kernel_rfl)
theorem cb48:Ad_ prog 48:=Aa_ func48 (by kernel_rfl) (by kernel_rfl)
theorem cb50:Ad_ prog 50:=Aa_ func50 (by kernel_rfl) (by kernel_rfl)
theorem Fc_ (i:In) (bytes:Int):Fm prog gb 48 [.int .i64 bytes] 211 (In.pc i) (.int .u64 (((Z_ i bytes)).1)) (In.pc (((Z_ i bytes)).2)):=by
 refine Qq_ G_ func48 rfl ntmps48 rfl cb48 rfl rfl rfl rfl λw wp b N H hG=>?_;have hb0:=Pv_ i (min bytes 8);refine kA 16 ?_;refine ef (ecallm (U3_ _ (min bytes 8)) rfl rfl rfl rfl rfl λw1 w1p=>?_);refine ef (ss2b G_ rfl rfl rfl rfl rfl rfl rfl (by omega) rfl ?_);refine kA 5 ?_;refine loop (ι:=Nat) [0,1,4,8,9,10,11,12,13] [0] (λk=>[(5, .int .u64 (beN ((Fp_ i (min bytes 8)).1.take k):Int)),(14, .int .i64 (k:Int))]) (λk=>[]) (λk=>k<=(Fp_ i (min bytes 8)).1.length) (λk=>(Fp_ i (min bytes 8)).1.length-k) 0 ⟨rfl,rfl,trivial⟩ trivial ?_ ?_
 . exact Nat.zero_le _
 rintro k hp2;have hb:=Pv_ i (min bytes 8);refine kA 6 ?_;refine cn rfl (λp4=>?_) λp8=>?_
 . obtain⟨c5,hc6⟩:=getE (xs:=(Fp_ i (min bytes 8)).1) (m:=k) (by omega);refine kA 6 ?_;refine kI k hc6 λw7=>?_;have :=Hg_ ((BitVec.ofInt (IntKind.bits .u64) (IntKind.wrap .u64 ((beN ((Fp_ i (min bytes 8)).1.take k):Int)*2 ^ (min (8:Int).toNat (IntKind.bits .u64)))) |||BitVec.ofInt (IntKind.bits .u64) ((c5).toNat:Int)).toNat)
   refine kC 18 ?_;refine next (k+1) rfl rfl ⟨(congrArg (PV.int .u64) (num_step hc6 (by omega))),rfl,trivial⟩ trivial ?_ ?_
   . omega
   omega
 refine kA 12 ?_;refine rm1 rfl rfl ?_ rfl rfl rfl ?_
 . refine ple ?_
   simp only[Z_]
   rw[List.take_of_length_le (by omega)]
 exact ples rfl
theorem Ih_ (i:In) (most:Int):Fm prog gb 118 [.int .i64 most] 211 (In.pc i) (.str (((Y_ i most)).1)) (In.pc (((Y_ i most)).2)):=by
 refine Qq_ G_ func118 rfl ntmps118 rfl cb118 rfl rfl rfl rfl λw wp b N H hG=>?_;refine kA 8 ?_;refine ef (ecallm (Fc_ _ _) rfl rfl rfl rfl rfl λw1 w1p=>?_);have :=Bv_ i 2;refine q1 (qconv G_ rfl rfl rfl rfl (Rg_ (by omega))) rfl λw2=>kA 11 ?_;refine cn rfl (λp4=>?_) λp7=>?_
 . refine kA 2 ?_;refine ef (ecallm (Iu_ _ _) rfl rfl rfl rfl rfl λw5 w5p=>?_);refine kA 6 ?_;refine ef (ecallm (U3_ _ _) rfl rfl rfl rfl rfl λw6 w6p=>?_);refine kA 4 ?_;refine rm1 rfl rfl ?_ rfl rfl rfl ?_
   . exact ple (by simp[Y_, *])
   exact ples (by simp[Y_,In.pc, *])
 refine kA 6 ?_;refine ef (ecallm (U3_ _ _) rfl rfl rfl rfl rfl λw8 w8p=>?_);refine kA 4 ?_;refine rm1 rfl rfl ?_ rfl rfl rfl ?_
 . exact ple (by simp[Y_, *])
 exact ples (by simp[Y_,In.pc, *])
theorem in_Left (i:In):Fm prog gb 124 [] 211 (In.pc i) (.int .i64 (i.s.length:Int)) (In.pc i):=by
 refine Qq_ G_ func124 rfl ntmps124 rfl cb124 rfl rfl rfl rfl λw wp b N H hG=>?_;refine kA 9 ?_;refine q1 (qpeq underlying122 rfl rfl) rfl λw1=>kA 16 ?_;refine rm1 rfl rfl ?_ rfl rfl rfl ?_
 . exact ple rfl
 exact ples rfl
theorem Ig_ (i:In):Fm prog gb 117 [] 211 (In.pc i) (.int .i64 i.err) (In.pc i):=by
 refine Qq_ G_ func117 rfl ntmps117 rfl cb117 rfl rfl rfl rfl λw wp b N H hG=>?_;refine kA 9 ?_;refine q1 (qpeq underlying122 rfl rfl) rfl λw1=>kA 15 ?_;refine rm1 rfl rfl ?_ rfl rfl rfl ?_
 . exact ple rfl
 exact ples rfl
theorem in_End (i:In):Fm prog gb 50 [] 211 (In.pc i) (.int .i64 (Wo_ i)) (In.pc i):=by
 refine Qq_ G_ func50 rfl ntmps50 rfl cb50 rfl rfl rfl rfl λw wp b N H hG=>?_;refine kA 9 ?_;refine ef (ecallm (Ig_ _) rfl rfl rfl rfl rfl λw1 w1p=>?_);refine kA 3 ?_;refine callgm rfl (λhc=>(in_Left _)) rfl rfl rfl rfl ⟨(λhc=>hc),trivial⟩ rfl rfl λ_=>?_;refine kC 4 ?_;refine cnd rfl (λh2=>?_) (λh2=>?_)
 . have h3:=bl h2;have p4:=dt h3;have h5:=br h2;have p6:=dt h5;refine kA 7 ?_;refine rm1 rfl rfl ?_ rfl rfl rfl ?_
   . refine ple ?_;refine congrArg (PV.int .i64) ?_
     simp only[bl1] at *
     unfold Wo_
     (repeat' split)<;>first|rfl|(exfalso;omega)|(exfalso;simp_all;done)|(exfalso;simp_all;omega)|grind
   exact ples rfl
 refine kA 5 ?_;refine ef (ecallm (Ig_ _) rfl rfl rfl rfl rfl λw7 w7p=>?_);refine kA 4 ?_;refine rm1 rfl rfl ?_ rfl rfl rfl ?_
 . refine ple ?_;refine congrArg (PV.int .i64) ?_
   simp only[bl1] at *
   unfold Wo_
   (repeat' split)<;>first|rfl|(exfalso;omega)|(exfalso;simp_all;done)|(exfalso;simp_all;omega)|grind
 exact ples rfl
theorem K1_ (pattern:Bs) (key:Bs) (hp:pattern.length<4294967281:=by first|omega|(simp;done)|decide) (hk:key.length<4294967281:=by first|omega|(simp;done)|decide):Fn prog gb 269 [.str pattern, .str key] (.bool (mt (Dx_ pattern) (Dx_ key))):=by
 refine kG func269 ntmps269 λw N H hG=>?_;refine kA 8 ?_;refine call (Pl_ _) rfl rfl λw1=>kA 1 ?_;refine call (Pl_ _) rfl rfl λw2=>kA 18 ?_;refine loop (ι:=Nat×Nat×Int×Nat) [0,1,5,6,11,12,13,14] [] (λ⟨i,j,b,f⟩=>[(7, .int .i64 (i:Int)),(8, .int .i64 (j:Int)),(9, .int .i64 b),(10, .int .i64 (f:Int))]) (λ⟨i,j,b,f⟩=>[]) (λ⟨i,j,b,f⟩=>MI (Dx_ pattern) (Dx_ key) i j b f) (λ⟨i,j,b,f⟩=>mmu (Dx_ pattern) (Dx_ key) j b f) ⟨0,0,(-1),0⟩ ⟨rfl,rfl,rfl,rfl,trivial⟩ trivial ?_ ?_
 . exact MI.start _ _
 rintro⟨i,j,b,f⟩ hp3;have hmi:=hp3;have hwp:=Xl_ pattern;have hwk:=Xl_ key;have :=hmi.hi;have :=hmi.hj;have :=hmi.hf;have :=hmi.hb;have :=hmi.hbi;refine kA 9 ?_;refine cnd rfl (λh4=>?_) (λh4=>?_)
 . have p5:=dt h4;obtain⟨c6,hc7⟩:=getJ (Dx_ pattern) i;refine kA 13 ?_;refine q1g [25,26] rfl (λhc=>qidx G_ i rfl rfl rfl (hc7 (by first|omega|(simp only[gOf,bl2] at *;omega))) rfl rfl rfl rfl) ⟨(λhc=>hc),(λhc=>hc),trivial⟩ rfl rfl rfl λ_=>?_;refine kC 6 ?_;refine cnd rfl (λh8=>?_) (λh8=>?_)
   . have h9:=bl h8;have p10:=dt h9;have h11:=br h8;have p12:=dt h11;refine kC 15 ?_;obtain⟨c13,hc14⟩:=getE (xs:=Dx_ key) (m:=j) (by omega);refine next ⟨(i+1),j,((i:Int)+1),j⟩ rfl rfl ⟨(congrArg (PV.int .i64) (by omega)),rfl,rfl,rfl,trivial⟩ trivial ?_ ?_
     . exact mmu_hash hmi (by omega)
     exact MI.hash hmi (by rw[(hc7 (by first|omega|(simp only[gOf,bl2] at *;omega)))];simp[*])
   refine kA 1 ?_;refine aN [0,1,2,3,4,5] 23 mixd<|kE [0,1,2,3,4,5,6] 16 ?_;refine vqg 7 [41,42] rfl (by kernel_rfl) rfl rfl (λhc=>qidx G_ i rfl rfl rfl (hc7 (by first|omega|(simp only[gOf,bl2] at *;omega))) rfl rfl rfl rfl) ⟨(λhc=>hc),(λhc=>hc),trivial⟩ rfl λ_=>?_;refine kF [8,9,10,11,12] 10 ?_;refine vqg 13 [47,48] rfl (by kernel_rfl) rfl rfl (λhc=>qidx G_ i rfl rfl rfl (hc7 (by first|omega|(simp only[gOf,bl2] at *;omega))) rfl rfl rfl rfl) ⟨(λhc=>hc),(λhc=>hc),trivial⟩ rfl λ_=>?_;refine kF [14,15,16] 6 ?_;obtain⟨c15,hc16⟩:=getJ (Dx_ key) j;refine vqg 17 [51,52] rfl (by kernel_rfl) rfl rfl (λhc=>qidx G_ j rfl rfl rfl (hc16 (by first|omega|(simp only[gOf,bl2] at *;omega))) rfl rfl rfl rfl) ⟨(λhc=>hc),(λhc=>hc),trivial⟩ rfl λ_=>?_;refine kF [18,19,20,21,22] 0 ?_;refine vD<|kA 1 ?_;refine cnd rfl (λh17=>?_) (λh17=>?_)
   . have h18:=bl h17;have p19:=dt h18;have h20:=br h17;refine kC 10 ?_;refine next ⟨(i+1),(j+1),b,f⟩ rfl rfl ⟨(congrArg (PV.int .i64) (by omega)),rfl,rfl,rfl,trivial⟩ trivial ?_ ?_
     . exact mmu_step (by omega)
     first|exact MI.step hmi (hc7 (by first|omega|(simp only[gOf,bl2] at *;omega))) (hc16 (by first|omega|(simp only[gOf,bl2] at *;omega))) (by assumption) (by first|exact .inl (by assumption)|exact .inr (by assumption))|exact MI.step hmi (hc7 (by first|omega|(simp only[gOf,bl2] at *;omega))) (hc16 (by first|omega|(simp only[gOf,bl2] at *;omega))) (by simp_all) (by first|(left;simp_all;done)|(right;simp_all;done)|grind)
   refine kA 7 ?_;refine cnd rfl (λh21=>?_) (λh21=>?_)
   . have p22:=dt h21;refine kC 15 ?_;have hbad:∀ w,(Dx_ pattern)[i]? = some w->w≠[35]/\w≠[42]/\w≠c15:=by
       intro w hw;obtain⟨hlt,_⟩:=List.getElem?_eq_some_iff.1 hw
       rw[(hc7 (by first|omega|(simp only[gOf,bl2] at *;omega)))] at hw;cases hw
       first|exact⟨by assumption,by assumption,by assumption⟩|(refine⟨?_,?_,?_⟩<;>intro q<;>simp_all)
     refine next ⟨b.toNat,(f+1),b,(f+1)⟩ rfl rfl ⟨(congrArg (PV.int .i64) (by omega)),rfl,rfl,rfl,trivial⟩ trivial ?_ ?_
     . exact mmu_back hmi.hf (by omega)
     exact MI.back hmi (hc16 (by first|omega|(simp only[gOf,bl2] at *;omega))) (by omega) hbad
   have p23:=df h21;refine kA 11 ?_;refine rt1 rfl rfl (ple ?_);have hbad:∀ w,(Dx_ pattern)[i]? = some w->w≠[35]/\w≠[42]/\w≠c15:=by
     intro w hw;obtain⟨hlt,_⟩:=List.getElem?_eq_some_iff.1 hw
     rw[(hc7 (by first|omega|(simp only[gOf,bl2] at *;omega)))] at hw;cases hw
     first|exact⟨by assumption,by assumption,by assumption⟩|(refine⟨?_,?_,?_⟩<;>intro q<;>simp_all)
   exact congrArg PV.bool (MI.none hmi (hc16 (by first|omega|(simp only[gOf,bl2] at *;omega))) (by omega) hbad).symm
 have p24:=df h4;refine kA 7 ?_;refine loop (ι:=Nat) [0,1,5,6,8,9,10,11,12,13,14,15,16,17,18] [] (λq=>[(7, .int .i64 (q:Int))]) (λq=>[]) (λq=>q<=(Dx_ pattern).length/\mt (Dx_ pattern) (Dx_ key)=mt ((Dx_ pattern).drop q) []) (λq=>(Dx_ pattern).length-q) i ⟨rfl,trivial⟩ trivial ?_ ?_
 . exact⟨by omega,hmi.fin (by omega)⟩
 rintro q hp25;obtain⟨hq1,hq2⟩:=hp25;obtain⟨c26,hc27⟩:=getJ (Dx_ pattern) q;refine kA 10 ?_;refine q1g [74,75] rfl (λhc=>qidx G_ q rfl rfl rfl (hc27 (by first|omega|(simp only[gOf,bl2] at *;omega))) rfl rfl rfl rfl) ⟨(λhc=>hc),(λhc=>hc),trivial⟩ rfl rfl rfl λ_=>?_;refine kC 5 ?_;refine cnd rfl (λh28=>?_) (λh28=>?_)
 . have h29:=bl h28;have p30:=dt h29;have h31:=br h28;have p32:=dt h31;refine kC 9 ?_;refine next (q+1) rfl rfl ⟨rfl,trivial⟩ trivial ?_ ?_
   . omega
   exact⟨by omega,mt_end hq2 (by rw[(hc27 (by first|omega|(simp only[gOf,bl2] at *;omega)))];simp[*])⟩
 refine kA 15 ?_;refine rt1 rfl rfl (ple ?_);refine congrArg PV.bool ?_
 rw[hq2]
 by_cases hql:q<(Dx_ pattern).length
 . rw[mt_endN (hc27 (by first|omega|(simp only[gOf,bl2] at *;omega))) (by first|assumption|simp_all)]
   rw[decide_eq_false_iff_not];omega
 have hqe:q=(Dx_ pattern).length:=by omega
 subst hqe
 rw[List.drop_length];simp[mt]
theorem Xk_ (s:Bs):Fn prog gb 247 [.str s] (.int .i64 (keyE patB s)):=by
 refine kG func247 ntmps247 λw N H hG=>?_;refine kA 8 ?_;refine ef (bsl 0 strc [[42],[35]] G_ rfl rfl rfl rfl rfl (λ_=>rfl) rfl (by decide) (by decide) rfl λu1=>?_);refine ef (calll 0 rfl (Z4_ _ _) rfl rfl rfl λw2=>?_);refine kA 4 ?_;refine rt1 rfl rfl (ple ?_)
 rfl
theorem cb119:Ad_ prog 119:=Aa_ func119 (by kernel_rfl) (by kernel_rfl)
theorem cb201:Ad_ prog 201:=Aa_ func201 (by kernel_rfl) (by kernel_rfl)
theorem Mf_ (h:List Pair):Fn prog gb 54 [.sl Pair.pc h] (.tup [.str (Bi_ h), .int .i64 (Hh_ h)]):=by
 refine kG func54 ntmps54 λw N H hG=>?_;have h_l:h.length<=140737488355328:=w.1.1;refine kA 10 ?_;refine call (K2_ _) rfl rfl λw1=>kA 9 ?_;refine cnd rfl (λh2=>?_) (λh2=>?_)
 . have h3:=E7_ h2;have p4:=df h3;refine kA 9 ?_;refine rt2 rfl rfl ?_;refine ple ?_
   unfold Bi_
   rw[if_neg (by omega)]
 have h5:=Eu_ h2;have p6:=dt h5;refine kA 7 ?_;refine q1 (qconv G_ rfl rfl rfl rfl (Lj_ (by omega))) rfl λw7=>call (out_Num (⟨[],0⟩:Out) _ _ (by ((try have :=hrl (by assumption));first|omega|(simp[B_,Aq_,Aw_,numK]<;>omega)))) rfl rfl λw8=>?_;have nl0:(⟨[],0⟩:Out).s.length=0:=rfl;have :=R_ (⟨[],0⟩:Out) (h.length:Int) 1;refine kB 13 [0] λB10=>?_;refine loop (ι:=Nat×Out) [0,2,3,4,5,8,9,10,11,13,14,15,16,17,18,19] [] (λ⟨k,o⟩=>[(20, .int .i64 (k:Int))]) (λ⟨k,o⟩=>[(0, .box (B10 0) 134 [.str o.s, .int .i64 o.err])]) (λ⟨k,o⟩=>k<=h.length/\h.foldl H5_ (B_ ⟨[],0⟩ h.length 1)=(h.drop k).foldl H5_ o/\o.s.length<=8+110*k) (λ⟨k,o⟩=>h.length-k) ⟨0,(B_ (⟨[],0⟩:Out) (h.length:Int) 1)⟩ ⟨rfl,trivial⟩ ⟨rfl,trivial⟩ ?_ ?_
 . exact⟨Nat.zero_le _,rfl,by simp at *;omega⟩
 rintro⟨k,o⟩ hp11;obtain⟨hk1,hk2,hk3⟩:=hp11;have hok:=Lp_ (h:=h) (by assumption);refine kA 6 ?_;refine cn rfl (λp13=>?_) λp36=>?_
 . obtain⟨c14,hc15⟩:=getE (xs:=h) (m:=k) (by omega);have hpk:=hok.2 c14 (List.mem_of_getElem? hc15);have c14_w:=Pair.pwf (w.1.2 c14 (List.mem_of_getElem? hc15));refine kA 6 ?_;refine kI k hc15 λw16=>?_;refine kB 6 [1] λB18=>?_;refine aN [2,3,4,5,6,7] 9 mixd<|kE [0,1,2] 6 ?_;refine vC 3 rfl (D7_ _ _) rfl λw19=>?_;have :=At_ o c14.key;refine kE [4,5,6] 2 ?_;refine vC 7 rfl (out_Num _ _ _ (by ((try have :=hrl (by assumption));first|omega|(simp[B_,Aq_,Aw_,numK]<;>omega)))) rfl λw20=>?_;have :=R_ (H_ o c14.key) c14.kind 1;refine vT 8 rfl (sA G_ ?_);refine vD<|kA 14 ?_;refine cn rfl (λp22=>?_) λp25=>?_
   . refine kA 5 ?_;refine call (out_Num _ _ _ (by ((try have :=hrl (by assumption));first|omega|(simp[B_,Aq_,Aw_,numK]<;>omega)))) rfl rfl λw23=>?_;have :=R_ (B_ (H_ o c14.key) c14.kind 1) (IntKind.wrap .u64 c14.num) 8;refine kD 9 [] λ_=>?_;refine next ⟨(k+1),(B_ (B_ (H_ o c14.key) c14.kind 1) (IntKind.wrap .u64 c14.num) 8)⟩ rfl rfl ⟨rfl,trivial⟩ ⟨rfl,trivial⟩ ?_ ?_
     . simp only[];omega
     have e:(B_ (B_ (H_ o c14.key) c14.kind 1) (IntKind.wrap .u64 c14.num) 8)=H5_ o c14:=by unfold H5_;first|(rw[if_pos (by omega)];done)|(rw[if_neg (by omega),if_pos (by omega)];done)|(rw[if_neg (by omega),if_neg (by omega),if_pos (by omega)];done)|(rw[if_neg (by omega),if_neg (by omega),if_neg (by omega)];done)
     simp only[]
     rw[e]
     have hlo:=Lf_ (o:=o) (hok.2 c14 (List.mem_of_getElem? hc15));refine⟨by omega,?_,by omega⟩
     rw[hk2,E3_ hc15,List.foldl_cons]
   refine kA 6 ?_;refine cn rfl (λp27=>?_) λp30=>?_
   . refine kA 4 ?_;refine call (D7_ _ _) rfl rfl λw28=>?_;have :=At_ (B_ (H_ o c14.key) c14.kind 1) c14.text;refine kD 9 [] λ_=>?_;refine next ⟨(k+1),(H_ (B_ (H_ o c14.key) c14.kind 1) c14.text)⟩ rfl rfl ⟨rfl,trivial⟩ ⟨rfl,trivial⟩ ?_ ?_
     . simp only[];omega
     have e:(H_ (B_ (H_ o c14.key) c14.kind 1) c14.text)=H5_ o c14:=by unfold H5_;first|(rw[if_pos (by omega)];done)|(rw[if_neg (by omega),if_pos (by omega)];done)|(rw[if_neg (by omega),if_neg (by omega),if_pos (by omega)];done)|(rw[if_neg (by omega),if_neg (by omega),if_neg (by omega)];done)
     simp only[]
     rw[e]
     have hlo:=Lf_ (o:=o) (hok.2 c14 (List.mem_of_getElem? hc15));refine⟨by omega,?_,by omega⟩
     rw[hk2,E3_ hc15,List.foldl_cons]
   refine kA 6 ?_;refine cn rfl (λp32=>?_) λp35=>?_
   . refine kA 5 ?_;refine call (out_Num _ _ _ (by ((try have :=hrl (by assumption));first|omega|(simp[B_,Aq_,Aw_,numK]<;>omega)))) rfl rfl λw33=>?_;have :=R_ (B_ (H_ o c14.key) c14.kind 1) (IntKind.wrap .u64 c14.num) 1;refine kD 9 [] λ_=>?_;refine next ⟨(k+1),(B_ (B_ (H_ o c14.key) c14.kind 1) (IntKind.wrap .u64 c14.num) 1)⟩ rfl rfl ⟨rfl,trivial⟩ ⟨rfl,trivial⟩ ?_ ?_
     . simp only[];omega
     have e:(B_ (B_ (H_ o c14.key) c14.kind 1) (IntKind.wrap .u64 c14.num) 1)=H5_ o c14:=by unfold H5_;first|(rw[if_pos (by omega)];done)|(rw[if_neg (by omega),if_pos (by omega)];done)|(rw[if_neg (by omega),if_neg (by omega),if_pos (by omega)];done)|(rw[if_neg (by omega),if_neg (by omega),if_neg (by omega)];done)
     simp only[]
     rw[e]
     have hlo:=Lf_ (o:=o) (hok.2 c14 (List.mem_of_getElem? hc15));refine⟨by omega,?_,by omega⟩
     rw[hk2,E3_ hc15,List.foldl_cons]
   refine kC 8 ?_;refine next ⟨(k+1),(B_ (H_ o c14.key) c14.kind 1)⟩ rfl rfl ⟨rfl,trivial⟩ ⟨rfl,trivial⟩ ?_ ?_
   . simp only[];omega
   have e:(B_ (H_ o c14.key) c14.kind 1)=H5_ o c14:=by unfold H5_;first|(rw[if_pos (by omega)];done)|(rw[if_neg (by omega),if_pos (by omega)];done)|(rw[if_neg (by omega),if_neg (by omega),if_pos (by omega)];done)|(rw[if_neg (by omega),if_neg (by omega),if_neg (by omega)];done)
   simp only[]
   rw[e]
   have hlo:=Lf_ (o:=o) (hok.2 c14 (List.mem_of_getElem? hc15));refine⟨by omega,?_,by omega⟩
   rw[hk2,E3_ hc15,List.foldl_cons]
 refine kA 8 ?_;refine call (Dz_ _) rfl rfl λw37=>kA 5 ?_;refine rt2 rfl rfl ?_;refine ple ?_
 unfold Bi_
 rw[if_pos (by assumption)]
 rw[List.drop_of_length_le (by omega),List.foldl_nil] at hk2
 rw[show Sv_ h=o from hk2]
 have e0:Hh_ h=0:=by assumption
 rw[e0]
theorem head_one (i:In):Fm prog gb 201 [] 211 (In.pc i) (.agg (Pair.pc (((Bm_ i)).1))) (In.pc (((Bm_ i)).2)):=by
 refine Qq_ G_ func201 rfl ntmps201 rfl cb201 rfl rfl rfl rfl λw wp b N H hG=>?_;refine kB 8 [1] λB2=>?_;refine ef (ecallm (Ih_ _ _) rfl rfl rfl rfl rfl λw3 w3p=>?_);have :=Cv_ i 16;generalize hg5:Y_ i 16=g4 at *;refine kA 1 ?_;refine ef (ecallm (Fc_ _ _) rfl rfl rfl rfl rfl λw6 w6p=>?_);have :=Bv_ ((g4).2) 1;generalize hg8:Z_ ((g4).2) 1=g7 at *;refine q1 (qconv G_ rfl rfl rfl rfl (rg_u8 (by omega))) rfl λw9=>kB 19 [2] λB11=>?_;refine cn rfl (λp13=>?_) λp18=>?_
 . refine kA 2 ?_;refine ef (ecallm (Fc_ _ _) rfl rfl rfl rfl rfl λw14 w14p=>?_);have :=Bv_ ((g7).2) 8;generalize hg16:Z_ ((g7).2) 8=g15 at *;refine kB 13 [] λ_=>?_;refine rm1 rfl rfl ?_ rfl rfl rfl ?_;have e:Bm_ i=((⟨(g4).1,(g7).1,(IntKind.wrap .i64 ((g15).1)),[]⟩:Pair),((g15).2)):=by unfold Bm_;simp only;(repeat first|simp only[hg5,hg8,hg16]|rw[if_pos (by omega)]|rw[if_neg (by omega)]);all_goals first|rfl|(rw[Fx_ (by omega) (by omega)];done)|(simp[*];done)|(rw[Fx_ (by omega) (by omega)];simp[*];done)
   . exact ple (by first|(rw[e];done)|(rw[e];rfl))
   have e:Bm_ i=((⟨(g4).1,(g7).1,(IntKind.wrap .i64 ((g15).1)),[]⟩:Pair),((g15).2)):=by unfold Bm_;simp only;(repeat first|simp only[hg5,hg8,hg16]|rw[if_pos (by omega)]|rw[if_neg (by omega)]);all_goals first|rfl|(rw[Fx_ (by omega) (by omega)];done)|(simp[*];done)|(rw[Fx_ (by omega) (by omega)];simp[*];done)
   exact ples (by first|(rw[e];done)|(rw[e];rfl))
 refine kA 6 ?_;refine cn rfl (λp20=>?_) λp25=>?_
 . refine kA 2 ?_;refine ef (ecallm (Ih_ _ _) rfl rfl rfl rfl rfl λw21 w21p=>?_);have :=Cv_ ((g7).2) 64;generalize hg23:Y_ ((g7).2) 64=g22 at *;refine kB 12 [] λ_=>?_;refine rm1 rfl rfl ?_ rfl rfl rfl ?_;have e:Bm_ i=((⟨(g4).1,(g7).1,0,(g22).1⟩:Pair),((g22).2)):=by unfold Bm_;simp only;(repeat first|simp only[hg5,hg8,hg23]|rw[if_pos (by omega)]|rw[if_neg (by omega)]);all_goals first|rfl|(rw[Fx_ (by omega) (by omega)];done)|(simp[*];done)|(rw[Fx_ (by omega) (by omega)];simp[*];done)
   . exact ple (by first|(rw[e];done)|(rw[e];rfl))
   have e:Bm_ i=((⟨(g4).1,(g7).1,0,(g22).1⟩:Pair),((g22).2)):=by unfold Bm_;simp only;(repeat first|simp only[hg5,hg8,hg23]|rw[if_pos (by omega)]|rw[if_neg (by omega)]);all_goals first|rfl|(rw[Fx_ (by omega) (by omega)];done)|(simp[*];done)|(rw[Fx_ (by omega) (by omega)];simp[*];done)
   exact ples (by first|(rw[e];done)|(rw[e];rfl))
 refine kA 6 ?_;refine cn rfl (λp27=>?_) λp33=>?_
 . refine kA 2 ?_;refine ef (ecallm (Fc_ _ _) rfl rfl rfl rfl rfl λw28 w28p=>?_);have :=Bv_ ((g7).2) 1;generalize hg30:Z_ ((g7).2) 1=g29 at *;refine q1 (qconv G_ rfl rfl rfl rfl (Rg_ (by omega))) rfl λw31=>kB 12 [] λ_=>?_;refine rm1 rfl rfl ?_ rfl rfl rfl ?_;have e:Bm_ i=((⟨(g4).1,(g7).1,(g29).1,[]⟩:Pair),((g29).2)):=by unfold Bm_;simp only;(repeat first|simp only[hg5,hg8,hg30]|rw[if_pos (by omega)]|rw[if_neg (by omega)]);all_goals first|rfl|(rw[Fx_ (by omega) (by omega)];done)|(simp[*];done)|(rw[Fx_ (by omega) (by omega)];simp[*];done)
   . exact ple (by first|(rw[e];done)|(rw[e];rfl))
   have e:Bm_ i=((⟨(g4).1,(g7).1,(g29).1,[]⟩:Pair),((g29).2)):=by unfold Bm_;simp only;(repeat first|simp only[hg5,hg8,hg30]|rw[if_pos (by omega)]|rw[if_neg (by omega)]);all_goals first|rfl|(rw[Fx_ (by omega) (by omega)];done)|(simp[*];done)|(rw[Fx_ (by omega) (by omega)];simp[*];done)
   exact ples (by first|(rw[e];done)|(rw[e];rfl))
 refine kA 2 ?_;refine ef (ecallm (Iu_ _ _) rfl rfl rfl rfl rfl λw34 w34p=>?_);refine kB 10 [] λ_=>?_;refine rm1 rfl rfl ?_ rfl rfl rfl ?_;have e:Bm_ i=((⟨(g4).1,(g7).1,0,[]⟩:Pair),(Bo_ ((g7).2) 8)):=by unfold Bm_;simp only;(repeat first|simp only[hg5,hg8]|rw[if_pos (by omega)]|rw[if_neg (by omega)]);all_goals first|rfl|(rw[Fx_ (by omega) (by omega)];done)|(simp[*];done)|(rw[Fx_ (by omega) (by omega)];simp[*];done)
 . exact ple (by first|(rw[e];done)|(rw[e];rfl))
 have e:Bm_ i=((⟨(g4).1,(g7).1,0,[]⟩:Pair),(Bo_ ((g7).2) 8)):=by unfold Bm_;simp only;(repeat first|simp only[hg5,hg8]|rw[if_pos (by omega)]|rw[if_neg (by omega)]);all_goals first|rfl|(rw[Fx_ (by omega) (by omega)];done)|(simp[*];done)|(rw[Fx_ (by omega) (by omega)];simp[*];done)
 exact ples (by first|(rw[e];done)|(rw[e];rfl))
theorem X3_ (i:In):Fm prog gb 119 [] 211 (In.pc i) (.sl Pair.pc (((Bw_ i)).1)) (In.pc (((Bw_ i)).2)):=by
 refine Qq_ G_ func119 rfl ntmps119 rfl cb119 rfl rfl rfl rfl λw wp b N H hG=>?_;refine kA 8 ?_;refine ef (ecallm (Fc_ _ _) rfl rfl rfl rfl rfl λw1 w1p=>?_);have :=Bv_ i 1;generalize hg3:Z_ i 1=g2 at *;refine q1 (qconv G_ rfl rfl rfl rfl (Rg_ (by omega))) rfl λw4=>kA 10 ?_;refine cn rfl (λp6=>?_) λp34=>?_
 . refine kA 2 ?_;refine ef (ecallm (Iu_ _ _) rfl rfl rfl rfl rfl λw7 w7p=>?_);refine kA 15 ?_;refine sw_own (t:=4) (k:=4) (e:=225) 1 Pair.pc rfl rfl ?_;refine loop (ι:=Nat×(List Pair)×Value×In) [0,3,6,7,8,9,10,11,13] [] (λ⟨k,h,u_h,j⟩=>[(4, .osl 1),(14, .int .i64 (k:Int))]) (λ⟨k,h,u_h,j⟩=>[(1, .arr u_h 4 225 Pair.pc h),(0, .box b 211 [.str j.s, .int .i64 j.err])]) (λ⟨k,h,u_h,j⟩=>k<=((g2).1).toNat/\Bw_ i=Ic_ (((g2).1).toNat-k) j h/\h.length<=k) (λ⟨k,h,u_h,j⟩=>((g2).1).toNat-k) ⟨0,[],(.slice none 0 0),(Bo_ ((g2).2) 6)⟩ ⟨rfl,rfl,trivial⟩ ⟨rfl,rfl,trivial⟩ ?_ ?_
   . exact⟨Nat.zero_le _,by unfold Bw_;(repeat first|simp only[hg3]|rw[if_pos (by omega)]|rw[if_neg (by omega)]);all_goals rfl,Nat.zero_le _⟩
   rintro⟨k,h,u_h,j⟩ hp8;obtain⟨hk1,hk2,hk3⟩:=hp8;refine kA 6 ?_;refine cn rfl (λp10=>?_) λp33=>?_
   . refine kA 7 ?_;refine ef (ecallm (head_one _) rfl rfl rfl rfl rfl λw11 w11p=>?_);generalize hg13:Bm_ j=g12 at *;refine kB 8 [2] λB15=>?_;refine ef (ecallm (Ig_ _) rfl rfl rfl rfl rfl λw16 w16p=>?_);refine kA 3 ?_;refine cnd rfl (λh17=>?_) (λh17=>?_)
     . have p18:=dt h17;refine kA 4 ?_;refine ef (calll 1 rfl (Sw_ _ _) rfl rfl rfl λw19=>?_);have :=Qc_ ((g12).1) h;generalize hg21:El_ ((g12).1) h=g20 at *;refine ef (ecallm (Iu_ _ _) rfl rfl rfl rfl rfl λw22 w22p=>?_);refine kA 6 ?_;refine ef (ecallm (Ig_ _) rfl rfl rfl rfl rfl λw23 w23p=>?_);refine kA 3 ?_;refine cnd rfl (λh24=>?_) (λh24=>?_)
       . have h25:=E7_ h24;have p26:=df h25;refine kA 12 ?_;refine rm1 rfl rfl ?_ rfl rfl rfl ?_
         . have e:Bw_ i=([],(Bo_ ((g12).2) g20)):=by
             rw[hk2,show ((g2).1).toNat-k=(((g2).1).toNat-(k+1))+1 by omega]
             have z:=λk=>Ol_ (k:=k) (h:=h) (show Bm_ j=(g12.1,g12.2) from hg13) (by omega) (by rw[hg21];omega)
             rw[hg21] at z
             exact z _
           exact Jp_ (by rw[e])
         have e:Bw_ i=([],(Bo_ ((g12).2) g20)):=by
           rw[hk2,show ((g2).1).toNat-k=(((g2).1).toNat-(k+1))+1 by omega]
           have z:=λk=>Ol_ (k:=k) (h:=h) (show Bm_ j=(g12.1,g12.2) from hg13) (by omega) (by rw[hg21];omega)
           rw[hg21] at z
           exact z _
         exact ples (by first|(rw[e];done)|(rw[e];rfl))
       have h27:=Eu_ h24;have p28:=dt h27;refine kA 5 ?_;refine ef (bsl 3 Pair.pc [((g12).1)] G_ rfl rfl rfl rfl rfl (λ_=>rfl) rfl (by decide) (by decide) rfl λu29=>?_);refine ef (app G_ [((g12).1)] rfl rfl rfl rfl rfl rfl rfl rfl rfl (src_o rfl rfl) (by first|omega|(simp;omega)) rfl λu30=>?_);refine kC 8 ?_;refine next ⟨(k+1),(h++[((g12).1)]),(u30),(Bo_ ((g12).2) g20)⟩ rfl rfl ⟨rfl,rfl,trivial⟩ ⟨rfl,rfl,trivial⟩ ?_ ?_
       . simp only[];omega
       refine⟨by omega,?_,by simp;omega⟩
       rw[hk2,show ((g2).1).toNat-k=(((g2).1).toNat-(k+1))+1 by omega]
       have z:=λk=>Zn_ (k:=k) (h:=h) (show Bm_ j=(g12.1,g12.2) from hg13) (by omega) (by rw[hg21];omega)
       rw[hg21] at z
       exact z _
     have p31:=df h17;refine kA 6 ?_;refine ef (ecallm (Ig_ _) rfl rfl rfl rfl rfl λw32 w32p=>?_);refine kA 3 ?_;refine cndT rfl (by rw[h17]<;>rfl) ?_;refine kA 12 ?_;refine rm1 rfl rfl ?_ rfl rfl rfl ?_
     . have e:Bw_ i=([],((g12).2)):=by
         rw[hk2,show ((g2).1).toNat-k=(((g2).1).toNat-(k+1))+1 by omega]
         exact Ok_ (show Bm_ j=(g12.1,g12.2) from hg13) (by omega)
       exact Jp_ (by rw[e])
     have e:Bw_ i=([],((g12).2)):=by
       rw[hk2,show ((g2).1).toNat-k=(((g2).1).toNat-(k+1))+1 by omega]
       exact Ok_ (show Bm_ j=(g12.1,g12.2) from hg13) (by omega)
     exact ples (by first|(rw[e];done)|(rw[e];rfl))
   refine kA 11 ?_;refine givec 1 rfl<|kA 1 ?_;refine rm1 rfl rfl ?_ rfl rfl rfl ?_
   . have e:Bw_ i=(h,j):=by
       rw[hk2,show ((g2).1).toNat-k=0 by omega]
       rfl
     exact ple (by rw[e])
   have e:Bw_ i=(h,j):=by
     rw[hk2,show ((g2).1).toNat-k=0 by omega]
     rfl
   exact ples (by first|(rw[e];done)|(rw[e];rfl))
 refine kA 15 ?_;refine sw_own (t:=4) (k:=4) (e:=225) 1 Pair.pc rfl rfl ?_;refine loop (ι:=Nat×(List Pair)×Value×In) [0,3,6,7,8,9,10,13] [] (λ⟨k,h,u_h,j⟩=>[(4, .osl 1),(14, .int .i64 (k:Int))]) (λ⟨k,h,u_h,j⟩=>[(1, .arr u_h 4 225 Pair.pc h),(0, .box b 211 [.str j.s, .int .i64 j.err])]) (λ⟨k,h,u_h,j⟩=>k<=((g2).1).toNat/\Bw_ i=Ic_ (((g2).1).toNat-k) j h/\h.length<=k) (λ⟨k,h,u_h,j⟩=>((g2).1).toNat-k) ⟨0,[],(.slice none 0 0),((g2).2)⟩ ⟨rfl,rfl,trivial⟩ ⟨rfl,rfl,trivial⟩ ?_ ?_
 . exact⟨Nat.zero_le _,by unfold Bw_;(repeat first|simp only[hg3]|rw[if_pos (by omega)]|rw[if_neg (by omega)]);all_goals rfl,Nat.zero_le _⟩
 rintro⟨k,h,u_h,j⟩ hp35;obtain⟨hk1,hk2,hk3⟩:=hp35;refine kA 6 ?_;refine cn rfl (λp37=>?_) λp60=>?_
 . refine kA 7 ?_;refine ef (ecallm (head_one _) rfl rfl rfl rfl rfl λw38 w38p=>?_);generalize hg40:Bm_ j=g39 at *;refine kB 8 [2] λB42=>?_;refine ef (ecallm (Ig_ _) rfl rfl rfl rfl rfl λw43 w43p=>?_);refine kA 3 ?_;refine cnd rfl (λh44=>?_) (λh44=>?_)
   . have p45:=dt h44;refine kA 4 ?_;refine ef (calll 1 rfl (Sw_ _ _) rfl rfl rfl λw46=>?_);have :=Qc_ ((g39).1) h;generalize hg48:El_ ((g39).1) h=g47 at *;refine ef (ecallm (Iu_ _ _) rfl rfl rfl rfl rfl λw49 w49p=>?_);refine kA 6 ?_;refine ef (ecallm (Ig_ _) rfl rfl rfl rfl rfl λw50 w50p=>?_);refine kA 3 ?_;refine cnd rfl (λh51=>?_) (λh51=>?_)
     . have h52:=E7_ h51;have p53:=df h52;refine kA 12 ?_;refine rm1 rfl rfl ?_ rfl rfl rfl ?_
       . have e:Bw_ i=([],(Bo_ ((g39).2) g47)):=by
           rw[hk2,show ((g2).1).toNat-k=(((g2).1).toNat-(k+1))+1 by omega]
           have z:=λk=>Ol_ (k:=k) (h:=h) (show Bm_ j=(g39.1,g39.2) from hg40) (by omega) (by rw[hg48];omega)
           rw[hg48] at z
           exact z _
         exact Jp_ (by rw[e])
       have e:Bw_ i=([],(Bo_ ((g39).2) g47)):=by
         rw[hk2,show ((g2).1).toNat-k=(((g2).1).toNat-(k+1))+1 by omega]
         have z:=λk=>Ol_ (k:=k) (h:=h) (show Bm_ j=(g39.1,g39.2) from hg40) (by omega) (by rw[hg48];omega)
         rw[hg48] at z
         exact z _
       exact ples (by first|(rw[e];done)|(rw[e];rfl))
     have h54:=Eu_ h51;have p55:=dt h54;refine kA 5 ?_;refine ef (bsl 3 Pair.pc [((g39).1)] G_ rfl rfl rfl rfl rfl (λ_=>rfl) rfl (by decide) (by decide) rfl λu56=>?_);refine ef (app G_ [((g39).1)] rfl rfl rfl rfl rfl rfl rfl rfl rfl (src_o rfl rfl) (by first|omega|(simp;omega)) rfl λu57=>?_);refine kC 8 ?_;refine next ⟨(k+1),(h++[((g39).1)]),(u57),(Bo_ ((g39).2) g47)⟩ rfl rfl ⟨rfl,rfl,trivial⟩ ⟨rfl,rfl,trivial⟩ ?_ ?_
     . simp only[];omega
     refine⟨by omega,?_,by simp;omega⟩
     rw[hk2,show ((g2).1).toNat-k=(((g2).1).toNat-(k+1))+1 by omega]
     have z:=λk=>Zn_ (k:=k) (h:=h) (show Bm_ j=(g39.1,g39.2) from hg40) (by omega) (by rw[hg48];omega)
     rw[hg48] at z
     exact z _
   have p58:=df h44;refine kA 6 ?_;refine ef (ecallm (Ig_ _) rfl rfl rfl rfl rfl λw59 w59p=>?_);refine kA 3 ?_;refine cndT rfl (by rw[h44]<;>rfl) ?_;refine kA 12 ?_;refine rm1 rfl rfl ?_ rfl rfl rfl ?_
   . have e:Bw_ i=([],((g39).2)):=by
       rw[hk2,show ((g2).1).toNat-k=(((g2).1).toNat-(k+1))+1 by omega]
       exact Ok_ (show Bm_ j=(g39.1,g39.2) from hg40) (by omega)
     exact Jp_ (by rw[e])
   have e:Bw_ i=([],((g39).2)):=by
     rw[hk2,show ((g2).1).toNat-k=(((g2).1).toNat-(k+1))+1 by omega]
     exact Ok_ (show Bm_ j=(g39.1,g39.2) from hg40) (by omega)
   exact ples (by first|(rw[e];done)|(rw[e];rfl))
 refine kA 11 ?_;refine givec 1 rfl<|kA 1 ?_;refine rm1 rfl rfl ?_ rfl rfl rfl ?_
 . have e:Bw_ i=(h,j):=by
     rw[hk2,show ((g2).1).toNat-k=0 by omega]
     rfl
   exact ple (by rw[e])
 have e:Bw_ i=(h,j):=by
   rw[hk2,show ((g2).1).toNat-k=0 by omega]
   rfl
 exact ples (by first|(rw[e];done)|(rw[e];rfl))
theorem ag36:Ag prog 36 false:=λw=>by kernel_rfl
theorem eqg57:prog.eqGuardType prog.depth 57=false:=by kernel_rfl
theorem eqg59:prog.eqGuardType prog.depth 59=false:=by kernel_rfl
theorem veq57 (p q:W_):∀ (H:Hp) (vs us:List Value),Sims H (W_.pc p) vs->Sims H (W_.pc q) us->EqV prog 10000 57 (.agg vs.toArray) (.agg us.toArray) (decide (p=q)):=by
 intro H vs us hv hu;obtain⟨_,_,rfl,v0,v_0⟩:=hv.inv_cons;obtain⟨_,_,rfl,v1,v_1⟩:=v_0.inv_cons;obtain⟨_,_,rfl,v2,v_2⟩:=v_1.inv_cons
 cases v_2.inv_nil
 cases v0.inv_str.1;cases v1.inv_int.1;cases v2.inv_str.1
 obtain⟨_,_,rfl,u0,u_0⟩:=hu.inv_cons;obtain⟨_,_,rfl,u1,u_1⟩:=u_0.inv_cons;obtain⟨_,_,rfl,u2,u_2⟩:=u_1.inv_cons
 cases u_2.inv_nil
 cases u0.inv_str.1;cases u1.inv_int.1;cases u2.inv_str.1
 exact EqV.to' (Wa_ underlying57 (by kernel_rfl) (Qo_ (by decide) ag9 rfl rfl (Qp_ underlying9) (Qo_ (by decide) ag5 rfl rfl (O5_ underlying5) (Qo_ (by decide) ag9 rfl rfl (Qp_ underlying9) V8_)))) (by obtain⟨a0,a1,a2⟩:=p;obtain⟨b0,b1,b2⟩:=q;rw[Bool.eq_iff_iff];simp)
theorem veq59 (p q:Q_):∀ (H:Hp) (vs us:List Value),Sims H (Q_.pc p) vs->Sims H (Q_.pc q) us->EqV prog 10000 59 (.agg vs.toArray) (.agg us.toArray) (decide (p=q)):=by
 intro H vs us hv hu;obtain⟨_,_,rfl,v0,v_0⟩:=hv.inv_cons;obtain⟨_,_,rfl,v1,v_1⟩:=v_0.inv_cons;obtain⟨_,_,rfl,v2,v_2⟩:=v_1.inv_cons;obtain⟨_,_,rfl,v3,v_3⟩:=v_2.inv_cons
 cases v_3.inv_nil
 cases v0.inv_str.1;cases v1.inv_int.1;cases v2.inv_int.1;cases v3.inv_str.1
 obtain⟨_,_,rfl,u0,u_0⟩:=hu.inv_cons;obtain⟨_,_,rfl,u1,u_1⟩:=u_0.inv_cons;obtain⟨_,_,rfl,u2,u_2⟩:=u_1.inv_cons;obtain⟨_,_,rfl,u3,u_3⟩:=u_2.inv_cons
 cases u_3.inv_nil
 cases u0.inv_str.1;cases u1.inv_int.1;cases u2.inv_int.1;cases u3.inv_str.1
 exact EqV.to' (Wa_ underlying59 (by kernel_rfl) (Qo_ (by decide) ag9 rfl rfl (Qp_ underlying9) (Qo_ (by decide) ag36 rfl rfl (O5_ underlying36) (Qo_ (by decide) ag36 rfl rfl (O5_ underlying36) (Qo_ (by decide) ag9 rfl rfl (Qp_ underlying9) V8_))))) (by obtain⟨a0,a1,a2,a3⟩:=p;obtain⟨b0,b1,b2,b3⟩:=q;rw[Bool.eq_iff_iff];simp)
theorem J2_ (m:Mail):Fn prog gb 95 [.agg (Mail.pc m)] (.int .i64 (Gt_ m)):=by
 refine kG func95 ntmps95 λw N H hG=>?_;refine kB 11 [0] λB2=>?_;refine call (Ey_ _) rfl rfl λw3=>kA 9 ?_;refine cnd rfl (λh4=>?_) (λh4=>?_)
 . have h5:=E7_ h4;have p6:=df h5;refine kA 8 ?_;refine rt1 rfl rfl (ple ?_);refine congrArg (PV.int .i64) ?_
   simp only[bl1] at *
   unfold Gt_
   (repeat' split)<;>first|rfl|(exfalso;omega)|(exfalso;simp_all;done)|(exfalso;simp_all;omega)|grind
 have h7:=Eu_ h4;have p8:=dt h7;refine kA 7 ?_;refine call (Z3_ _) rfl rfl λw9=>kA 9 ?_;refine cnd rfl (λh10=>?_) (λh10=>?_)
 . have h11:=E7_ h10;have p12:=df h11;refine kA 8 ?_;refine rt1 rfl rfl (ple ?_);refine congrArg (PV.int .i64) ?_
   simp only[bl1] at *
   unfold Gt_
   (repeat' split)<;>first|rfl|(exfalso;omega)|(exfalso;simp_all;done)|(exfalso;simp_all;omega)|grind
 have h13:=Eu_ h10;have p14:=dt h13;refine kA 7 ?_;refine call (K2_ _) rfl rfl λw15=>kA 11 ?_;refine cnd rfl (λh16=>?_) (λh16=>?_)
 . have h17:=E7_ h16;have p18:=df h17;refine kA 9 ?_;refine rt1 rfl rfl (ple ?_);refine congrArg (PV.int .i64) ?_
   simp only[bl1] at *
   unfold Gt_
   (repeat' split)<;>first|rfl|(exfalso;omega)|(exfalso;simp_all;done)|(exfalso;simp_all;omega)|grind
 have h19:=Eu_ h16;have p20:=dt h19;refine kA 9 ?_;refine cnd rfl (λh21=>?_) (λh21=>?_)
 . have p22:=dt h21;refine kA 8 ?_;refine rt1 rfl rfl (ple ?_);refine congrArg (PV.int .i64) ?_
   simp only[bl1] at *
   unfold Gt_
   (repeat' split)<;>first|rfl|(exfalso;omega)|(exfalso;simp_all;done)|(exfalso;simp_all;omega)|grind
 have p23:=df h21;refine kA 8 ?_;refine cnd rfl (λh24=>?_) (λh24=>?_)
 . have p25:=dt h24;refine kA 8 ?_;refine rt1 rfl rfl (ple ?_);refine congrArg (PV.int .i64) ?_
   simp only[bl1] at *
   unfold Gt_
   (repeat' split)<;>first|rfl|(exfalso;omega)|(exfalso;simp_all;done)|(exfalso;simp_all;omega)|grind
 have p26:=df h24;refine kA 9 ?_;refine rt1 rfl rfl (ple ?_);refine congrArg (PV.int .i64) ?_
 simp only[bl1] at *
 unfold Gt_
 (repeat' split)<;>first|rfl|(exfalso;omega)|(exfalso;simp_all;done)|(exfalso;simp_all;omega)|grind
theorem Mn_ (m:Mail):Fn prog gb 129 [.agg (Mail.pc m)] (.tup [.str (Bp_ m), .int .i64 (Gt_ m)]):=by
 refine kG func129 ntmps129 λw N H hG=>?_;have m_w:=Mail.pwf w.1;have m_w':=m_w
 simp only[Mail.wf] at m_w'
 have m_head_k:=Mail.kd3 w.1;have m_head_k2:m.head.length<=140737488355328:=w.1.2.2.2.1.1;refine kB 11 [0] λB2=>?_;refine call (J2_ _) rfl rfl λw3=>?_;have :=Nz_ m;have hmo3:=λh=>Hs_ (m:=m) h;refine kA 9 ?_;refine cnd rfl (λh4=>?_) (λh4=>?_)
 . have h5:=E7_ h4;have p6:=df h5;refine kA 9 ?_;refine rt2 rfl rfl ?_;refine ple ?_
   simp[Bp_,Tp_, *]
 have h7:=Eu_ h4;have p8:=dt h7;refine kA 6 ?_;refine call (Mf_ _) rfl rfl λw9=>?_;have :=Gz_ m.head;refine kA 8 ?_;refine aN [1,2,3,4,5,6] 17 mixd<|kE [0,1,2] 14 ?_;refine vC 3 rfl (out_Num (⟨[],0⟩:Out) _ _ (by ((try have :=hrl (by assumption));first|omega|(simp[B_,Aq_,Aw_,numK]<;>omega)))) rfl λw10=>?_;have nl0:(⟨[],0⟩:Out).s.length=0:=rfl;have :=R_ (⟨[],0⟩:Out) m.id 8;refine kE [4,5] 11 ?_;refine vC 6 rfl (D7_ _ _) rfl λw11=>?_;have :=At_ (B_ (⟨[],0⟩:Out) m.id 8) m.Bb_;refine kE [7,8] 8 ?_;refine vC 9 rfl (D7_ _ _) rfl λw12=>?_;have :=At_ (H_ (B_ (⟨[],0⟩:Out) m.id 8) m.Bb_) m.key;refine kE [10] 6 ?_;refine vC 11 rfl (J3_ _ _) rfl λw13=>?_;have :=Ek_ (H_ (H_ (B_ (⟨[],0⟩:Out) m.id 8) m.Bb_) m.key) (Bi_ m.head);refine kE [12,13] 3 ?_;refine vC 14 rfl (D7_ _ _) rfl λw14=>?_;have :=At_ (Aq_ (H_ (H_ (B_ (⟨[],0⟩:Out) m.id 8) m.Bb_) m.key) (Bi_ m.head)) m.body;refine vE 15 rfl (aL G_ 1 λb15=>?_);refine vT 16 rfl (sA G_ ?_);refine vD<|kA 2 ?_;refine aN [2,3,4,5,6,7] 11 mixd<|kE [0,1,2] 8 ?_;refine vC 3 rfl (out_Num _ _ _ (by ((try have :=hrl (by assumption));first|omega|(simp[B_,Aq_,Aw_,numK]<;>omega)))) rfl λw16=>?_;have :=R_ (H_ (Aq_ (H_ (H_ (B_ (⟨[],0⟩:Out) m.id 8) m.Bb_) m.key) (Bi_ m.head)) m.body) m.due 8;refine kE [4,5,6] 4 ?_;refine vC 7 rfl (out_Num _ _ _ (by ((try have :=hrl (by assumption));first|omega|(simp[B_,Aq_,Aw_,numK]<;>omega)))) rfl λw17=>?_;have :=R_ (B_ (H_ (Aq_ (H_ (H_ (B_ (⟨[],0⟩:Out) m.id 8) m.Bb_) m.key) (Bi_ m.head)) m.body) m.due 8) m.hops 1;refine vC 8 rfl (Dz_ _) rfl λw18=>kE [9,10] 0 ?_;refine vD<|kA 2 ?_;refine rt2 rfl rfl ?_;refine ple ?_
 simp[Bp_,Tp_, *]
theorem Uy_ (s:Bs):Fn prog gb 93 [.str s] (.int .i64 (Ks_ s)):=by
 refine kG func93 ntmps93 λw N H hG=>?_;refine kA 12 ?_;refine cn rfl (λp2=>?_) λp3=>?_
 . refine kA 7 ?_;refine rt1 rfl rfl (ple ?_)
   simp[Ks_, *]
 refine kA 5 ?_;refine call (Ey_ _) rfl rfl λw4=>kA 4 ?_;refine rt1 rfl rfl (ple ?_)
 simp[Ks_, *]
theorem Mc_ (b:Bool) (e:Int):Fn prog gb 92 [.bool b, .int .i64 e] (.int .i64 (If_ b e)):=by
 refine kG func92 ntmps92 λw N H hG=>?_;refine kA 11 ?_;refine cnd rfl (λh1=>?_) (λh1=>?_)
 . refine kA 8 ?_;refine rt1 rfl rfl (ple ?_)
   simp[If_, *]
 refine kA 8 ?_;refine rt1 rfl rfl (ple ?_)
 simp[If_, *]
theorem mail_Same (a:Mail) (b:Mail):Fn prog gb 163 [.agg (Mail.pc a), .agg (Mail.pc b)] (.bool (decide (a=b))):=by
 refine kG func163 ntmps163 λw N H hG=>?_;refine kD 33 [0,1] λB2=>?_;refine callg rfl (λhc=>(X4_ _ _)) rfl ⟨(λhc=>hc),(λhc=>hc),trivial⟩ rfl rfl λ_=>kC 26 ?_;refine rt1 rfl rfl (ple ?_);exact congrArg PV.bool (by rw[Bool.eq_iff_iff];first|(simp[Mail.eq_iff,and_assoc];done)|(simp[Mail.eq_iff];grind))
theorem deed_Same (a:L_) (b:L_):Fn prog gb 88 [.agg (L_.pc a), .agg (L_.pc b)] (.bool (decide (a=b))):=by
 refine kG func88 ntmps88 λw N H hG=>?_;refine kD 26 [0,1] λB2=>?_;refine q1g [19,21] rfl (λhc=>saeq rfl rfl eqg57 (veq57 a.Bb_ b.Bb_)) ⟨(λhc=>hc),(λhc=>hc),trivial⟩ rfl rfl rfl λ_=>?_;refine kC 6 ?_;refine q1g [26,28] rfl (λhc=>saeq rfl rfl eqg59 (veq59 a.queue b.queue)) ⟨(λhc=>hc),(λhc=>hc),trivial⟩ rfl rfl rfl λ_=>?_;refine kC 6 ?_;refine callg rfl (λhc=>(V4_ _ _)) rfl ⟨(λhc=>hc),(λhc=>hc),trivial⟩ rfl rfl λ_=>kC 48 ?_;refine callg rfl (λhc=>(mail_Same _ _)) rfl ⟨(λhc=>hc),(λhc=>hc),trivial⟩ rfl rfl λ_=>kC 12 ?_;refine rt1 rfl rfl (ple ?_);exact congrArg PV.bool (by rw[Bool.eq_iff_iff];first|(simp[L_.eq_iff,and_assoc];done)|(simp[L_.eq_iff];grind))
theorem deed_told (d:L_):Fn prog gb 89 [.agg (L_.pc d)] (.agg (L_.pc (Hv_ d))):=by
 refine kG func89 ntmps89 λw N H hG=>?_;refine kB 31 [0,1,2] λB2=>?_;refine cn rfl (λp6=>?_) λp8=>?_
 . refine kB 15 [] λ_=>?_;refine rt1 rfl rfl (ple ?_);have e:Hv_ d=(⟨d.kind,d.tick,d.Bb_,(⟨[],0,0,[]⟩:Q_),(⟨[],[],false,[],[],false⟩:P_),[],0,0,0,0,0,(⟨0,[],[],[],[],0,0⟩:Mail),[]⟩:L_):=by
     unfold Hv_
     repeat (first|rw[if_pos (by omega)]|rw[if_neg (by omega)])
     rfl
   rw[e];rfl
 refine kA 6 ?_;refine cn rfl (λp10=>?_) λp12=>?_
 . refine kB 15 [] λ_=>?_;refine rt1 rfl rfl (ple ?_);have e:Hv_ d=(⟨d.kind,d.tick,(⟨[],0,[]⟩:W_),d.queue,(⟨[],[],false,[],[],false⟩:P_),[],0,0,0,0,0,(⟨0,[],[],[],[],0,0⟩:Mail),[]⟩:L_):=by
     unfold Hv_
     repeat (first|rw[if_pos (by omega)]|rw[if_neg (by omega)])
     rfl
   rw[e];rfl
 refine kA 7 ?_;refine cnd rfl (λh13=>?_) (λh13=>?_)
 . have p14:=dt h13;refine kA 2 ?_;refine cndT rfl h13 ?_;refine kB 15 [] λ_=>?_;refine rt1 rfl rfl (ple ?_);have e:Hv_ d=(⟨d.kind,d.tick,(⟨[],0,[]⟩:W_),(⟨[],0,0,[]⟩:Q_),d.bind,[],0,0,0,0,0,(⟨0,[],[],[],[],0,0⟩:Mail),[]⟩:L_):=by
     unfold Hv_
     repeat (first|rw[if_pos (by omega)]|rw[if_neg (by omega)])
     rfl
   rw[e];rfl
 have p16:=df h13;refine kA 5 ?_;refine cn rfl (λp18=>?_) λp20=>?_
 . refine kB 15 [] λ_=>?_;refine rt1 rfl rfl (ple ?_);have e:Hv_ d=(⟨d.kind,d.tick,(⟨[],0,[]⟩:W_),(⟨[],0,0,[]⟩:Q_),d.bind,[],0,0,0,0,0,(⟨0,[],[],[],[],0,0⟩:Mail),[]⟩:L_):=by
     unfold Hv_
     repeat (first|rw[if_pos (by omega)]|rw[if_neg (by omega)])
     rfl
   rw[e];rfl
 refine kA 6 ?_;refine cn rfl (λp22=>?_) λp24=>?_
 . refine kB 15 [] λ_=>?_;refine rt1 rfl rfl (ple ?_);have e:Hv_ d=(⟨d.kind,d.tick,(⟨[],0,[]⟩:W_),(⟨[],0,0,[]⟩:Q_),(⟨[],[],false,[],[],false⟩:P_),[],0,0,0,0,0,d.Ab_,[]⟩:L_):=by
     unfold Hv_
     repeat (first|rw[if_pos (by omega)]|rw[if_neg (by omega)])
     rfl
   rw[e];rfl
 refine kA 7 ?_;refine cnd rfl (λh25=>?_) (λh25=>?_)
 . have p26:=dt h25;refine kA 2 ?_;refine cndT rfl h25 ?_;refine kB 15 [] λ_=>?_;refine rt1 rfl rfl (ple ?_);have e:Hv_ d=(⟨d.kind,d.tick,(⟨[],0,[]⟩:W_),(⟨[],0,0,[]⟩:Q_),(⟨[],[],false,[],[],false⟩:P_),d.name,0,0,0,0,0,(⟨0,[],[],[],[],0,0⟩:Mail),[]⟩:L_):=by
     unfold Hv_
     repeat (first|rw[if_pos (by omega)]|rw[if_neg (by omega)])
     rfl
   rw[e];rfl
 have p28:=df h25;refine kA 6 ?_;refine cnd rfl (λh29=>?_) (λh29=>?_)
 . have p30:=dt h29;refine kA 2 ?_;refine cndT rfl h29 ?_;refine kB 15 [] λ_=>?_;refine rt1 rfl rfl (ple ?_);have e:Hv_ d=(⟨d.kind,d.tick,(⟨[],0,[]⟩:W_),(⟨[],0,0,[]⟩:Q_),(⟨[],[],false,[],[],false⟩:P_),d.name,0,0,0,0,0,(⟨0,[],[],[],[],0,0⟩:Mail),[]⟩:L_):=by
     unfold Hv_
     repeat (first|rw[if_pos (by omega)]|rw[if_neg (by omega)])
     rfl
   rw[e];rfl
 have p32:=df h29;refine kA 5 ?_;refine cn rfl (λp34=>?_) λp36=>?_
 . refine kB 15 [] λ_=>?_;refine rt1 rfl rfl (ple ?_);have e:Hv_ d=(⟨d.kind,d.tick,(⟨[],0,[]⟩:W_),(⟨[],0,0,[]⟩:Q_),(⟨[],[],false,[],[],false⟩:P_),d.name,0,0,0,0,0,(⟨0,[],[],[],[],0,0⟩:Mail),[]⟩:L_):=by
     unfold Hv_
     repeat (first|rw[if_pos (by omega)]|rw[if_neg (by omega)])
     rfl
   rw[e];rfl
 refine kA 6 ?_;refine cn rfl (λp38=>?_) λp40=>?_
 . refine aN [2,3,4,5,6,7,8] 12 mixd<|kE [0,1,2,3,4,5,6] 5 ?_;refine vE 7 rfl (sO G_ ?_);refine kE [8] 3 ?_;refine vE 9 rfl (sO G_ ?_);refine kE [10] 1 ?_;refine vT 11 rfl (sO G_ ?_);refine vD<|kB 9 [] λ_=>?_;refine rt1 rfl rfl (ple ?_);have e:Hv_ d=(⟨d.kind,d.tick,(⟨[],0,[]⟩:W_),(⟨[],0,0,[]⟩:Q_),(⟨[],[],false,[],[],false⟩:P_),d.name,d.id,d.how,0,0,0,(⟨0,[],[],[],[],0,0⟩:Mail),[]⟩:L_):=by
     unfold Hv_
     repeat (first|rw[if_pos (by omega)]|rw[if_neg (by omega)])
     rfl
   rw[e];rfl
 refine kA 6 ?_;refine cn rfl (λp42=>?_) λp44=>?_
 . refine aN [2,3,4,5,6,7,8] 12 mixd<|kE [0,1,2,3,4,5,6] 5 ?_;refine vE 7 rfl (sO G_ ?_);refine kE [8] 3 ?_;refine vE 9 rfl (sO G_ ?_);refine kE [10] 1 ?_;refine vT 11 rfl (sA G_ ?_);refine vD<|kB 9 [] λ_=>?_;refine rt1 rfl rfl (ple ?_);have e:Hv_ d=(⟨d.kind,d.tick,(⟨[],0,[]⟩:W_),(⟨[],0,0,[]⟩:Q_),(⟨[],[],false,[],[],false⟩:P_),[],0,0,d.frm,0,d.number,d.Ab_,[]⟩:L_):=by
     unfold Hv_
     repeat (first|rw[if_pos (by omega)]|rw[if_neg (by omega)])
     rfl
   rw[e];rfl
 refine kA 6 ?_;refine cn rfl (λp46=>?_) λp48=>?_
 . refine aN [2,3,4,5,6,7,8] 8 mixd<|kE [0,1,2,3,4] 3 ?_;refine vE 5 rfl (sO G_ ?_);refine kE [6] 1 ?_;refine vT 7 rfl (sO G_ ?_);refine vD<|kB 9 [] λ_=>?_;refine rt1 rfl rfl (ple ?_);have e:Hv_ d=(⟨d.kind,d.tick,(⟨[],0,[]⟩:W_),(⟨[],0,0,[]⟩:Q_),(⟨[],[],false,[],[],false⟩:P_),[],0,0,0,d.code,0,(⟨0,[],[],[],[],0,0⟩:Mail),d.text⟩:L_):=by
     unfold Hv_
     repeat (first|rw[if_pos (by omega)]|rw[if_neg (by omega)])
     rfl
   rw[e];rfl
 refine kB 10 [] λ_=>?_;refine rt1 rfl rfl (ple ?_);have e:Hv_ d=(⟨d.kind,d.tick,(⟨[],0,[]⟩:W_),(⟨[],0,0,[]⟩:Q_),(⟨[],[],false,[],[],false⟩:P_),[],0,0,0,0,0,(⟨0,[],[],[],[],0,0⟩:Mail),[]⟩:L_):=by
   unfold Hv_
   repeat (first|rw[if_pos (by omega)]|rw[if_neg (by omega)])
   rfl
 rw[e];rfl
theorem Md_ (l:List Int):Fn prog gb 90 [.sl i64c l] (.int .i64 (Jf_ l)):=by
 refine kG func90 ntmps90 λw N H hG=>?_;have l_l:l.length<=140737488355328:=w.1.1;refine kA 14 ?_;refine loop (ι:=Nat) [0,5,6] [] (λk=>[(7, .int .i64 (k:Int))]) (λk=>[]) (λk=>k<=l.length/\Jf_ l=Jf_ (l.drop k)) (λk=>l.length-k) 0 ⟨rfl,trivial⟩ trivial ?_ ?_
 . exact⟨Nat.zero_le _,rfl⟩
 rintro k hp1;obtain⟨hk1,hk2⟩:=hp1;refine kA 6 ?_;refine cn rfl (λp3=>?_) λp12=>?_
 . obtain⟨c4,hc5⟩:=getE (xs:=l) (m:=k) (by omega);refine kA 6 ?_;refine kI k hc5 λw6=>?_;refine kA 10 ?_;refine cnd rfl (λh7=>?_) (λh7=>?_)
   . have h8:=E7_ h7;have p9:=df h8;refine kA 12 ?_;refine rt1 rfl rfl (ple ?_);refine congrArg (PV.int .i64) ?_
     rw[hk2,E3_ hc5]
     unfold Jf_
     rw[if_pos (by assumption)]
   have h10:=Eu_ h7;have p11:=dt h10;refine kC 7 ?_;refine next (k+1) rfl rfl ⟨rfl,trivial⟩ trivial ?_ ?_
   . omega
   refine⟨by omega,?_⟩
   rw[hk2,E3_ hc5]
   conv=>lhs;unfold Jf_
   rw[if_neg (by omega)]
 refine kA 11 ?_;refine rt1 rfl rfl (ple ?_);refine congrArg (PV.int .i64) ?_
 rw[hk2,List.drop_of_length_le (by omega)]
 rfl
theorem Ux_ (d:L_):Fn prog gb 33 [.agg (L_.pc d)] (.int .i64 (F7_ d)):=by
 refine kG func33 ntmps33 λw N H hG=>?_;refine kB 16 [0] λB2=>?_;refine cn rfl (λp4=>?_) λp5=>?_
 . refine kA 8 ?_;refine rt1 rfl rfl (ple ?_);refine congrArg (PV.int .i64) ?_
   unfold F7_
   repeat (first|rw[if_pos (by omega)]|rw[if_neg (by omega)]|rw[if_pos (by assumption)]|rw[if_neg (not_not_intro (by assumption))])
   all_goals first|done|rfl
 refine kA 1 ?_;refine aN [1,2,3,4,5,6] 6 mixd<|kE [0,1] 4 ?_;refine vE 2 rfl (eC (deed_told _) rfl λw6=>?_);refine vC 3 rfl (deed_Same _ _) rfl λw7=>kE [4,5] 0 ?_;refine vD<|kA 1 ?_;refine cnd rfl (λh8=>?_) (λh8=>?_)
 . have h9:=E7_ h8;have p10:=df h9;refine kA 8 ?_;refine rt1 rfl rfl (ple ?_);refine congrArg (PV.int .i64) ?_
   unfold F7_
   repeat (first|rw[if_pos (by omega)]|rw[if_neg (by omega)]|rw[if_pos (by assumption)]|rw[if_neg (not_not_intro (by assumption))])
   all_goals first|done|rfl
 have h11:=Eu_ h8;have p12:=dt h11;refine kA 17 ?_;refine cn rfl (λp14=>?_) λp20=>?_
 . refine kA 1 ?_;refine aN [1,2,3,4,5,6] 16 mixd<|kE [0,1,2] 13 ?_;refine vC 3 rfl (Ey_ _) rfl λw15=>kE [4,5,6,7] 8 ?_;refine vC 8 rfl (Mc_ _ _) rfl λw16=>kE [9,10,11] 4 ?_;refine vC 12 rfl (Uy_ _) rfl λw17=>?_;have :=P8_ d.Bb_.to';refine vE 13 rfl (bsl 1 i64c [Ez_ d.Bb_.name,If_ (decide (4<d.Bb_.sort)) 8,Ks_ d.Bb_.to'] G_ rfl rfl rfl rfl rfl (λ_=>rfl) rfl (by decide) (by decide) rfl λu18=>?_);refine vE 14 rfl (calll 1 rfl (Md_ _) rfl rfl rfl λw19=>?_);refine kE [15] 0 ?_;refine vD<|kA 4 ?_;refine rt1 rfl rfl (ple ?_);refine congrArg (PV.int .i64) ?_
   unfold F7_
   repeat (first|rw[if_pos (by omega)]|rw[if_neg (by omega)]|rw[if_pos (by assumption)]|rw[if_neg (not_not_intro (by assumption))])
   all_goals first|done|rfl
 refine kA 6 ?_;refine cn rfl (λp22=>?_) λp27=>?_
 . refine kA 1 ?_;refine aN [1,2,3,4,5,6] 11 mixd<|kE [0,1,2] 8 ?_;refine vC 3 rfl (Ey_ _) rfl λw23=>kE [4,5,6] 4 ?_;refine vC 7 rfl (Uy_ _) rfl λw24=>?_;have :=P8_ d.queue.dead;refine vE 8 rfl (bsl 1 i64c [Ez_ d.queue.name,Ks_ d.queue.dead] G_ rfl rfl rfl rfl rfl (λ_=>rfl) rfl (by decide) (by decide) rfl λu25=>?_);refine vE 9 rfl (calll 1 rfl (Md_ _) rfl rfl rfl λw26=>?_);refine kE [10] 0 ?_;refine vD<|kA 4 ?_;refine rt1 rfl rfl (ple ?_);refine congrArg (PV.int .i64) ?_
   unfold F7_
   repeat (first|rw[if_pos (by omega)]|rw[if_neg (by omega)]|rw[if_pos (by assumption)]|rw[if_neg (not_not_intro (by assumption))])
   all_goals first|done|rfl
 refine kA 7 ?_;refine cnd rfl (λh28=>?_) (λh28=>?_)
 . have p29:=dt h28;refine kA 2 ?_;refine cndT rfl h28 ?_;refine kB 9 [1] λB31=>?_;refine aN [2,3,4,5,6,7] 17 mixd<|kE [0,1] 15 ?_;refine vC 2 rfl (Ey_ _) rfl λw32=>kE [3,4] 12 ?_;refine vC 5 rfl (Ey_ _) rfl λw33=>kE [6,7,8,9] 7 ?_;refine vC 10 rfl (Mc_ _ _) rfl λw34=>kE [11,12] 4 ?_;refine vC 13 rfl (K2_ _) rfl λw35=>vE 14 rfl (bsl 2 i64c [Ez_ d.bind.Bb_,Ez_ d.bind.to',If_ (decide (64<(d.bind.key.length:Int))) 5,Hh_ d.bind.want] G_ rfl rfl rfl rfl rfl (λ_=>rfl) rfl (by decide) (by decide) rfl λu36=>?_);refine vE 15 rfl (calll 2 rfl (Md_ _) rfl rfl rfl λw37=>?_);refine kE [16] 0 ?_;refine vD<|kA 4 ?_;refine rt1 rfl rfl (ple ?_);refine congrArg (PV.int .i64) ?_
   unfold F7_
   repeat (first|rw[if_pos (by omega)]|rw[if_neg (by omega)]|rw[if_pos (by assumption)]|rw[if_neg (not_not_intro (by assumption))])
   all_goals first|done|rfl
 have p38:=df h28;refine kA 5 ?_;refine cn rfl (λp40=>?_) λp49=>?_
 . refine kB 9 [1] λB42=>?_;refine aN [2,3,4,5,6,7] 17 mixd<|kE [0,1] 15 ?_;refine vC 2 rfl (Ey_ _) rfl λw43=>kE [3,4] 12 ?_;refine vC 5 rfl (Ey_ _) rfl λw44=>kE [6,7,8,9] 7 ?_;refine vC 10 rfl (Mc_ _ _) rfl λw45=>kE [11,12] 4 ?_;refine vC 13 rfl (K2_ _) rfl λw46=>vE 14 rfl (bsl 2 i64c [Ez_ d.bind.Bb_,Ez_ d.bind.to',If_ (decide (64<(d.bind.key.length:Int))) 5,Hh_ d.bind.want] G_ rfl rfl rfl rfl rfl (λ_=>rfl) rfl (by decide) (by decide) rfl λu47=>?_);refine vE 15 rfl (calll 2 rfl (Md_ _) rfl rfl rfl λw48=>?_);refine kE [16] 0 ?_;refine vD<|kA 4 ?_;refine rt1 rfl rfl (ple ?_);refine congrArg (PV.int .i64) ?_
   unfold F7_
   repeat (first|rw[if_pos (by omega)]|rw[if_neg (by omega)]|rw[if_pos (by assumption)]|rw[if_neg (not_not_intro (by assumption))])
   all_goals first|done|rfl
 refine kA 7 ?_;refine cnd rfl (λh50=>?_) (λh50=>?_)
 . have p51:=dt h50;refine kA 2 ?_;refine cndT rfl h50 ?_;refine kA 4 ?_;refine call (J2_ _) rfl rfl λw52=>?_;have :=Nz_ d.Ab_;have hmo52:=λh=>Hs_ (m:=d.Ab_) h;refine kA 6 ?_;refine rt1 rfl rfl (ple ?_);refine congrArg (PV.int .i64) ?_
   unfold F7_
   repeat (first|rw[if_pos (by omega)]|rw[if_neg (by omega)]|rw[if_pos (by assumption)]|rw[if_neg (not_not_intro (by assumption))])
   all_goals first|done|rfl
 have p53:=df h50;refine kA 5 ?_;refine cn rfl (λp55=>?_) λp57=>?_
 . refine kA 4 ?_;refine call (J2_ _) rfl rfl λw56=>?_;have :=Nz_ d.Ab_;have hmo56:=λh=>Hs_ (m:=d.Ab_) h;refine kA 6 ?_;refine rt1 rfl rfl (ple ?_);refine congrArg (PV.int .i64) ?_
   unfold F7_
   repeat (first|rw[if_pos (by omega)]|rw[if_neg (by omega)]|rw[if_pos (by assumption)]|rw[if_neg (not_not_intro (by assumption))])
   all_goals first|done|rfl
 refine kA 7 ?_;refine cnd rfl (λh58=>?_) (λh58=>?_)
 . have p59:=dt h58;refine kA 2 ?_;refine cndT rfl h58 ?_;refine kA 8 ?_;refine rt1 rfl rfl (ple ?_);refine congrArg (PV.int .i64) ?_
   unfold F7_
   repeat (first|rw[if_pos (by omega)]|rw[if_neg (by omega)]|rw[if_pos (by assumption)]|rw[if_neg (not_not_intro (by assumption))])
   all_goals first|done|rfl
 have p60:=df h58;refine kA 5 ?_;refine cn rfl (λp62=>?_) λp63=>?_
 . refine kA 8 ?_;refine rt1 rfl rfl (ple ?_);refine congrArg (PV.int .i64) ?_
   unfold F7_
   repeat (first|rw[if_pos (by omega)]|rw[if_neg (by omega)]|rw[if_pos (by assumption)]|rw[if_neg (not_not_intro (by assumption))])
   all_goals first|done|rfl
 refine kA 6 ?_;refine cn rfl (λp65=>?_) λp67=>?_
 . refine kA 6 ?_;refine call (Mc_ _ _) rfl rfl λw66=>kA 6 ?_;refine rt1 rfl rfl (ple ?_);refine congrArg (PV.int .i64) ?_
   unfold F7_
   repeat (first|rw[if_pos (by omega)]|rw[if_neg (by omega)]|rw[if_pos (by assumption)]|rw[if_neg (not_not_intro (by assumption))])
   all_goals first|done|rfl
 refine kA 4 ?_;refine aN [1,2,3,4,5,6] 10 mixd<|kE [0,1] 8 ?_;refine vC 2 rfl (Ey_ _) rfl λw68=>kE [3,4,5] 4 ?_;refine vC 6 rfl (Mc_ _ _) rfl λw69=>vE 7 rfl (bsl 1 i64c [Ez_ d.name,If_ (decide (2<d.how)) 7] G_ rfl rfl rfl rfl rfl (λ_=>rfl) rfl (by decide) (by decide) rfl λu70=>?_);refine vE 8 rfl (calll 1 rfl (Md_ _) rfl rfl rfl λw71=>?_);refine kE [9] 0 ?_;refine vD<|kA 2 ?_;refine rt1 rfl rfl (ple ?_);refine congrArg (PV.int .i64) ?_
 unfold F7_
 repeat (first|rw[if_pos (by omega)]|rw[if_neg (by omega)]|rw[if_pos (by assumption)]|rw[if_neg (not_not_intro (by assumption))])
 all_goals first|done|rfl
theorem deed_Bytes (d:L_):Fn prog gb 262 [.agg (L_.pc d)] (.tup [.str (Cg_ d), .int .i64 (F7_ d)]):=by
 refine kG func262 ntmps262 λw N H hG=>?_;have d_w:=L_.pwf w.1;have d_w':=d_w
 simp only[L_.wf,W_.wf,Q_.wf,P_.wf,Mail.wf] at d_w'
 have d_bind_want_k:=L_.kd13 w.1;have d_bind_want_k2:d.bind.want.length<=140737488355328:=w.1.2.2.2.2.2.2.2.2.2.2.2.2.2.1.1;have d_mail_head_k:=L_.kd24 w.1;have d_mail_head_k2:d.Ab_.head.length<=140737488355328:=w.1.2.2.2.2.2.2.2.2.2.2.2.2.2.2.2.2.2.2.2.2.2.2.2.2.1.1;refine kB 11 [0] λB2=>?_;refine call (Ux_ _) rfl rfl λw3=>?_;have :=deedE_r d;refine kA 9 ?_;refine cnd rfl (λh4=>?_) (λh4=>?_)
 . have h5:=E7_ h4;have p6:=df h5;refine kA 9 ?_;refine rt2 rfl rfl ?_;refine ple ?_;have e:Cg_ d=[]:=by
     unfold Cg_
     first
       |(rw[if_neg (by assumption)];done)
       |(rw[if_pos (by assumption)];unfold It_;(repeat (first|rw[if_pos (by omega)]|rw[if_neg (by omega)]|rw[if_pos (by assumption)]|rw[if_neg (by assumption)]|rw[if_neg (not_not_intro (by assumption))]));first|done|rfl)
   rw[e]
   try (rw[show F7_ d=0 by assumption])
 have h7:=Eu_ h4;have p8:=dt h7;have hdk:=V3_ (d:=d) (by omega) p8;obtain⟨dk1,dk2,dk3,dk4,dk5,dk6,dk7,dk8,dk9,dk10,dk11,dk12,dk13,dk14,dk15,dk16,dk17,dk18,dk19⟩:=hdk;refine kA 3 ?_;refine aN [1,2,3,4,5,6] 10 mixd<|kE [0,1,2,3] 6 ?_;refine vC 4 rfl (out_Num (⟨[],0⟩:Out) _ _ (by ((try have :=hrl (by assumption));first|omega|(simp[B_,Aq_,Aw_,numK]<;>omega)))) rfl λw9=>?_;have nl0:(⟨[],0⟩:Out).s.length=0:=rfl;have :=R_ (⟨[],0⟩:Out) d.kind 1;refine kE [5,6] 3 ?_;refine vC 7 rfl (out_Num _ _ _ (by ((try have :=hrl (by assumption));first|omega|(simp[B_,Aq_,Aw_,numK]<;>omega)))) rfl λw10=>?_;have :=R_ (B_ (⟨[],0⟩:Out) d.kind 1) d.tick 8;refine vE 8 rfl (aL G_ 1 λb11=>?_);refine vT 9 rfl (sA G_ ?_);refine vD<|kA 5 ?_;refine call (Mn_ _) rfl rfl λw12=>?_;have :=F8_ d.Ab_;refine kA 21 ?_;refine cn rfl (λp14=>?_) λp19=>?_
 . refine aN [2,3,4,5,6,7] 15 mixd<|kE [0,1,2,3] 11 ?_;refine vC 4 rfl (D7_ _ _) rfl λw15=>?_;have :=At_ (B_ (B_ (⟨[],0⟩:Out) d.kind 1) d.tick 8) d.Bb_.name;refine kE [5,6,7,8] 6 ?_;refine vC 9 rfl (out_Num _ _ _ (by ((try have :=hrl (by assumption));first|omega|(simp[B_,Aq_,Aw_,numK]<;>omega)))) rfl λw16=>?_;have :=R_ (H_ (B_ (B_ (⟨[],0⟩:Out) d.kind 1) d.tick 8) d.Bb_.name) d.Bb_.sort 1;refine kE [10,11,12] 2 ?_;refine vC 13 rfl (D7_ _ _) rfl λw17=>?_;have :=At_ (B_ (H_ (B_ (B_ (⟨[],0⟩:Out) d.kind 1) d.tick 8) d.Bb_.name) d.Bb_.sort 1) d.Bb_.to';refine vT 14 rfl (sA G_ ?_);refine vD<|kA 5 ?_;refine call (Dz_ _) rfl rfl λw18=>kA 5 ?_;refine rt2 rfl rfl ?_;refine ple ?_;have e:Cg_ d=(H_ (B_ (H_ (B_ (B_ (⟨[],0⟩:Out) d.kind 1) d.tick 8) d.Bb_.name) d.Bb_.sort 1) d.Bb_.to').s:=by
     unfold Cg_
     first
       |(rw[if_neg (by assumption)];done)
       |(rw[if_pos (by assumption)];unfold It_;(repeat (first|rw[if_pos (by omega)]|rw[if_neg (by omega)]|rw[if_pos (by assumption)]|rw[if_neg (by assumption)]|rw[if_neg (not_not_intro (by assumption))]));first|done|rfl)
   rw[e]
   try (rw[show F7_ d=0 by assumption])
 refine kA 6 ?_;refine cn rfl (λp21=>?_) λp27=>?_
 . refine aN [2,3,4,5,6,7] 18 mixd<|kE [0,1,2,3] 14 ?_;refine vC 4 rfl (D7_ _ _) rfl λw22=>?_;have :=At_ (B_ (B_ (⟨[],0⟩:Out) d.kind 1) d.tick 8) d.queue.name;refine kE [5,6,7] 10 ?_;refine vC 8 rfl (out_Num _ _ _ (by ((try have :=hrl (by assumption));first|omega|(simp[B_,Aq_,Aw_,numK]<;>omega)))) rfl λw23=>?_;have :=R_ (H_ (B_ (B_ (⟨[],0⟩:Out) d.kind 1) d.tick 8) d.queue.name) d.queue.most 8;refine kE [9,10,11] 6 ?_;refine vC 12 rfl (out_Num _ _ _ (by ((try have :=hrl (by assumption));first|omega|(simp[B_,Aq_,Aw_,numK]<;>omega)))) rfl λw24=>?_;have :=R_ (B_ (H_ (B_ (B_ (⟨[],0⟩:Out) d.kind 1) d.tick 8) d.queue.name) d.queue.most 8) d.queue.life 8;refine kE [13,14,15] 2 ?_;refine vC 16 rfl (D7_ _ _) rfl λw25=>?_;have :=At_ (B_ (B_ (H_ (B_ (B_ (⟨[],0⟩:Out) d.kind 1) d.tick 8) d.queue.name) d.queue.most 8) d.queue.life 8) d.queue.dead;refine vT 17 rfl (sA G_ ?_);refine vD<|kA 5 ?_;refine call (Dz_ _) rfl rfl λw26=>kA 5 ?_;refine rt2 rfl rfl ?_;refine ple ?_;have e:Cg_ d=(H_ (B_ (B_ (H_ (B_ (B_ (⟨[],0⟩:Out) d.kind 1) d.tick 8) d.queue.name) d.queue.most 8) d.queue.life 8) d.queue.dead).s:=by
     unfold Cg_
     first
       |(rw[if_neg (by assumption)];done)
       |(rw[if_pos (by assumption)];unfold It_;(repeat (first|rw[if_pos (by omega)]|rw[if_neg (by omega)]|rw[if_pos (by assumption)]|rw[if_neg (by assumption)]|rw[if_neg (not_not_intro (by assumption))]));first|done|rfl)
   rw[e]
   try (rw[show F7_ d=0 by assumption])
 refine kA 7 ?_;refine cnd rfl (λh28=>?_) (λh28=>?_)
 . have p29:=dt h28;refine kA 2 ?_;refine cndT rfl h28 ?_;refine kB 12 [2] λB31=>?_;refine call (Mf_ _) rfl rfl λw32=>?_;have :=Gz_ d.bind.want;refine kA 7 ?_;refine aN [3,4,5,6,7,8] 21 mixd<|kE [0,1,2] 18 ?_;refine vC 3 rfl (D7_ _ _) rfl λw33=>?_;have :=At_ (B_ (B_ (⟨[],0⟩:Out) d.kind 1) d.tick 8) d.bind.Bb_;refine kE [4,5] 15 ?_;refine vC 6 rfl (D7_ _ _) rfl λw34=>?_;have :=At_ (H_ (B_ (B_ (⟨[],0⟩:Out) d.kind 1) d.tick 8) d.bind.Bb_) d.bind.to';refine kE [7,8] 12 ?_;refine vC 9 rfl (Rs_ _) rfl λw35=>vC 10 rfl (out_Num _ _ _ (by ((try have :=hrl (by assumption));first|omega|(simp[B_,Aq_,Aw_,numK]<;>omega)))) rfl λw36=>?_;have :=R_ (H_ (H_ (B_ (B_ (⟨[],0⟩:Out) d.kind 1) d.tick 8) d.bind.Bb_) d.bind.to') (bitN d.bind.up) 1;refine kE [11,12] 8 ?_;refine vC 13 rfl (D7_ _ _) rfl λw37=>?_;have :=At_ (B_ (H_ (H_ (B_ (B_ (⟨[],0⟩:Out) d.kind 1) d.tick 8) d.bind.Bb_) d.bind.to') (bitN d.bind.up) 1) d.bind.key;refine kE [14] 6 ?_;refine vC 15 rfl (J3_ _ _) rfl λw38=>?_;have :=Ek_ (H_ (B_ (H_ (H_ (B_ (B_ (⟨[],0⟩:Out) d.kind 1) d.tick 8) d.bind.Bb_) d.bind.to') (bitN d.bind.up) 1) d.bind.key) (Bi_ d.bind.want);refine kE [16,17] 3 ?_;refine vC 18 rfl (Rs_ _) rfl λw39=>vC 19 rfl (out_Num _ _ _ (by ((try have :=hrl (by assumption));first|omega|(simp[B_,Aq_,Aw_,numK]<;>omega)))) rfl λw40=>?_;have :=R_ (Aq_ (H_ (B_ (H_ (H_ (B_ (B_ (⟨[],0⟩:Out) d.kind 1) d.tick 8) d.bind.Bb_) d.bind.to') (bitN d.bind.up) 1) d.bind.key) (Bi_ d.bind.want)) (bitN d.bind.all) 1;refine vT 20 rfl (sA G_ ?_);refine vD<|kA 5 ?_;refine call (Dz_ _) rfl rfl λw41=>kA 5 ?_;refine rt2 rfl rfl ?_;refine ple ?_;have e:Cg_ d=(B_ (Aq_ (H_ (B_ (H_ (H_ (B_ (B_ (⟨[],0⟩:Out) d.kind 1) d.tick 8) d.bind.Bb_) d.bind.to') (bitN d.bind.up) 1) d.bind.key) (Bi_ d.bind.want)) (bitN d.bind.all) 1).s:=by
     unfold Cg_
     first
       |(rw[if_neg (by assumption)];done)
       |(rw[if_pos (by assumption)];unfold It_;(repeat (first|rw[if_pos (by omega)]|rw[if_neg (by omega)]|rw[if_pos (by assumption)]|rw[if_neg (by assumption)]|rw[if_neg (not_not_intro (by assumption))]));first|done|rfl)
   rw[e]
   try (rw[show F7_ d=0 by assumption])
 have p42:=df h28;refine kA 5 ?_;refine cn rfl (λp44=>?_) λp57=>?_
 . refine kB 12 [2] λB46=>?_;refine call (Mf_ _) rfl rfl λw47=>?_;have :=Gz_ d.bind.want;refine kA 7 ?_;refine aN [3,4,5,6,7,8] 21 mixd<|kE [0,1,2] 18 ?_;refine vC 3 rfl (D7_ _ _) rfl λw48=>?_;have :=At_ (B_ (B_ (⟨[],0⟩:Out) d.kind 1) d.tick 8) d.bind.Bb_;refine kE [4,5] 15 ?_;refine vC 6 rfl (D7_ _ _) rfl λw49=>?_;have :=At_ (H_ (B_ (B_ (⟨[],0⟩:Out) d.kind 1) d.tick 8) d.bind.Bb_) d.bind.to';refine kE [7,8] 12 ?_;refine vC 9 rfl (Rs_ _) rfl λw50=>vC 10 rfl (out_Num _ _ _ (by ((try have :=hrl (by assumption));first|omega|(simp[B_,Aq_,Aw_,numK]<;>omega)))) rfl λw51=>?_;have :=R_ (H_ (H_ (B_ (B_ (⟨[],0⟩:Out) d.kind 1) d.tick 8) d.bind.Bb_) d.bind.to') (bitN d.bind.up) 1;refine kE [11,12] 8 ?_;refine vC 13 rfl (D7_ _ _) rfl λw52=>?_;have :=At_ (B_ (H_ (H_ (B_ (B_ (⟨[],0⟩:Out) d.kind 1) d.tick 8) d.bind.Bb_) d.bind.to') (bitN d.bind.up) 1) d.bind.key;refine kE [14] 6 ?_;refine vC 15 rfl (J3_ _ _) rfl λw53=>?_;have :=Ek_ (H_ (B_ (H_ (H_ (B_ (B_ (⟨[],0⟩:Out) d.kind 1) d.tick 8) d.bind.Bb_) d.bind.to') (bitN d.bind.up) 1) d.bind.key) (Bi_ d.bind.want);refine kE [16,17] 3 ?_;refine vC 18 rfl (Rs_ _) rfl λw54=>vC 19 rfl (out_Num _ _ _ (by ((try have :=hrl (by assumption));first|omega|(simp[B_,Aq_,Aw_,numK]<;>omega)))) rfl λw55=>?_;have :=R_ (Aq_ (H_ (B_ (H_ (H_ (B_ (B_ (⟨[],0⟩:Out) d.kind 1) d.tick 8) d.bind.Bb_) d.bind.to') (bitN d.bind.up) 1) d.bind.key) (Bi_ d.bind.want)) (bitN d.bind.all) 1;refine vT 20 rfl (sA G_ ?_);refine vD<|kA 5 ?_;refine call (Dz_ _) rfl rfl λw56=>kA 5 ?_;refine rt2 rfl rfl ?_;refine ple ?_;have e:Cg_ d=(B_ (Aq_ (H_ (B_ (H_ (H_ (B_ (B_ (⟨[],0⟩:Out) d.kind 1) d.tick 8) d.bind.Bb_) d.bind.to') (bitN d.bind.up) 1) d.bind.key) (Bi_ d.bind.want)) (bitN d.bind.all) 1).s:=by
     unfold Cg_
     first
       |(rw[if_neg (by assumption)];done)
       |(rw[if_pos (by assumption)];unfold It_;(repeat (first|rw[if_pos (by omega)]|rw[if_neg (by omega)]|rw[if_pos (by assumption)]|rw[if_neg (by assumption)]|rw[if_neg (not_not_intro (by assumption))]));first|done|rfl)
   rw[e]
   try (rw[show F7_ d=0 by assumption])
 refine kA 6 ?_;refine cn rfl (λp59=>?_) λp63=>?_
 . refine kA 3 ?_;refine call (J3_ _ _) rfl rfl λw60=>?_;have :=Ek_ (B_ (B_ (⟨[],0⟩:Out) d.kind 1) d.tick 8) (Bp_ d.Ab_);refine kB 7 [] λ_=>?_;refine call (Dz_ _) rfl rfl λw62=>kA 5 ?_;refine rt2 rfl rfl ?_;refine ple ?_;have e:Cg_ d=(Aq_ (B_ (B_ (⟨[],0⟩:Out) d.kind 1) d.tick 8) (Bp_ d.Ab_)).s:=by
     unfold Cg_
     first
       |(rw[if_neg (by assumption)];done)
       |(rw[if_pos (by assumption)];unfold It_;(repeat (first|rw[if_pos (by omega)]|rw[if_neg (by omega)]|rw[if_pos (by assumption)]|rw[if_neg (by assumption)]|rw[if_neg (not_not_intro (by assumption))]));first|done|rfl)
   rw[e]
   try (rw[show F7_ d=0 by assumption])
 refine kA 7 ?_;refine cnd rfl (λh64=>?_) (λh64=>?_)
 . have p65:=dt h64;refine kA 2 ?_;refine cndT rfl h64 ?_;refine kA 4 ?_;refine call (D7_ _ _) rfl rfl λw66=>?_;have :=At_ (B_ (B_ (⟨[],0⟩:Out) d.kind 1) d.tick 8) d.name;refine kB 7 [] λ_=>?_;refine call (Dz_ _) rfl rfl λw68=>kA 5 ?_;refine rt2 rfl rfl ?_;refine ple ?_;have e:Cg_ d=(H_ (B_ (B_ (⟨[],0⟩:Out) d.kind 1) d.tick 8) d.name).s:=by
     unfold Cg_
     first
       |(rw[if_neg (by assumption)];done)
       |(rw[if_pos (by assumption)];unfold It_;(repeat (first|rw[if_pos (by omega)]|rw[if_neg (by omega)]|rw[if_pos (by assumption)]|rw[if_neg (by assumption)]|rw[if_neg (not_not_intro (by assumption))]));first|done|rfl)
   rw[e]
   try (rw[show F7_ d=0 by assumption])
 have p69:=df h64;refine kA 6 ?_;refine cnd rfl (λh70=>?_) (λh70=>?_)
 . have p71:=dt h70;refine kA 2 ?_;refine cndT rfl h70 ?_;refine kA 4 ?_;refine call (D7_ _ _) rfl rfl λw72=>?_;have :=At_ (B_ (B_ (⟨[],0⟩:Out) d.kind 1) d.tick 8) d.name;refine kB 7 [] λ_=>?_;refine call (Dz_ _) rfl rfl λw74=>kA 5 ?_;refine rt2 rfl rfl ?_;refine ple ?_;have e:Cg_ d=(H_ (B_ (B_ (⟨[],0⟩:Out) d.kind 1) d.tick 8) d.name).s:=by
     unfold Cg_
     first
       |(rw[if_neg (by assumption)];done)
       |(rw[if_pos (by assumption)];unfold It_;(repeat (first|rw[if_pos (by omega)]|rw[if_neg (by omega)]|rw[if_pos (by assumption)]|rw[if_neg (by assumption)]|rw[if_neg (not_not_intro (by assumption))]));first|done|rfl)
   rw[e]
   try (rw[show F7_ d=0 by assumption])
 have p75:=df h70;refine kA 5 ?_;refine cn rfl (λp77=>?_) λp81=>?_
 . refine kA 4 ?_;refine call (D7_ _ _) rfl rfl λw78=>?_;have :=At_ (B_ (B_ (⟨[],0⟩:Out) d.kind 1) d.tick 8) d.name;refine kB 7 [] λ_=>?_;refine call (Dz_ _) rfl rfl λw80=>kA 5 ?_;refine rt2 rfl rfl ?_;refine ple ?_;have e:Cg_ d=(H_ (B_ (B_ (⟨[],0⟩:Out) d.kind 1) d.tick 8) d.name).s:=by
     unfold Cg_
     first
       |(rw[if_neg (by assumption)];done)
       |(rw[if_pos (by assumption)];unfold It_;(repeat (first|rw[if_pos (by omega)]|rw[if_neg (by omega)]|rw[if_pos (by assumption)]|rw[if_neg (by assumption)]|rw[if_neg (not_not_intro (by assumption))]));first|done|rfl)
   rw[e]
   try (rw[show F7_ d=0 by assumption])
 refine kA 6 ?_;refine cn rfl (λp83=>?_) λp88=>?_
 . refine aN [2,3,4,5,6,7] 12 mixd<|kE [0,1,2] 9 ?_;refine vC 3 rfl (D7_ _ _) rfl λw84=>?_;have :=At_ (B_ (B_ (⟨[],0⟩:Out) d.kind 1) d.tick 8) d.name;refine kE [4,5] 6 ?_;refine vC 6 rfl (out_Num _ _ _ (by ((try have :=hrl (by assumption));first|omega|(simp[B_,Aq_,Aw_,numK]<;>omega)))) rfl λw85=>?_;have :=R_ (H_ (B_ (B_ (⟨[],0⟩:Out) d.kind 1) d.tick 8) d.name) d.id 8;refine kE [7,8,9] 2 ?_;refine vC 10 rfl (out_Num _ _ _ (by ((try have :=hrl (by assumption));first|omega|(simp[B_,Aq_,Aw_,numK]<;>omega)))) rfl λw86=>?_;have :=R_ (B_ (H_ (B_ (B_ (⟨[],0⟩:Out) d.kind 1) d.tick 8) d.name) d.id 8) d.how 1;refine vT 11 rfl (sA G_ ?_);refine vD<|kA 5 ?_;refine call (Dz_ _) rfl rfl λw87=>kA 5 ?_;refine rt2 rfl rfl ?_;refine ple ?_;have e:Cg_ d=(B_ (B_ (H_ (B_ (B_ (⟨[],0⟩:Out) d.kind 1) d.tick 8) d.name) d.id 8) d.how 1).s:=by
     unfold Cg_
     first
       |(rw[if_neg (by assumption)];done)
       |(rw[if_pos (by assumption)];unfold It_;(repeat (first|rw[if_pos (by omega)]|rw[if_neg (by omega)]|rw[if_pos (by assumption)]|rw[if_neg (by assumption)]|rw[if_neg (not_not_intro (by assumption))]));first|done|rfl)
   rw[e]
   try (rw[show F7_ d=0 by assumption])
 refine kA 6 ?_;refine cn rfl (λp90=>?_) λp95=>?_
 . refine aN [2,3,4,5,6,7] 11 mixd<|kE [0,1,2,3] 7 ?_;refine vC 4 rfl (out_Num _ _ _ (by ((try have :=hrl (by assumption));first|omega|(simp[B_,Aq_,Aw_,numK]<;>omega)))) rfl λw91=>?_;have :=R_ (B_ (B_ (⟨[],0⟩:Out) d.kind 1) d.tick 8) d.frm 1;refine kE [5,6] 4 ?_;refine vC 7 rfl (out_Num _ _ _ (by ((try have :=hrl (by assumption));first|omega|(simp[B_,Aq_,Aw_,numK]<;>omega)))) rfl λw92=>?_;have :=R_ (B_ (B_ (B_ (⟨[],0⟩:Out) d.kind 1) d.tick 8) d.frm 1) d.number 8;refine kE [8] 2 ?_;refine vC 9 rfl (J3_ _ _) rfl λw93=>?_;have :=Ek_ (B_ (B_ (B_ (B_ (⟨[],0⟩:Out) d.kind 1) d.tick 8) d.frm 1) d.number 8) (Bp_ d.Ab_);refine vT 10 rfl (sA G_ ?_);refine vD<|kA 5 ?_;refine call (Dz_ _) rfl rfl λw94=>kA 5 ?_;refine rt2 rfl rfl ?_;refine ple ?_;have e:Cg_ d=(Aq_ (B_ (B_ (B_ (B_ (⟨[],0⟩:Out) d.kind 1) d.tick 8) d.frm 1) d.number 8) (Bp_ d.Ab_)).s:=by
     unfold Cg_
     first
       |(rw[if_neg (by assumption)];done)
       |(rw[if_pos (by assumption)];unfold It_;(repeat (first|rw[if_pos (by omega)]|rw[if_neg (by omega)]|rw[if_pos (by assumption)]|rw[if_neg (by assumption)]|rw[if_neg (not_not_intro (by assumption))]));first|done|rfl)
   rw[e]
   try (rw[show F7_ d=0 by assumption])
 refine kA 6 ?_;refine cn rfl (λp97=>?_) λp101=>?_
 . refine aN [2,3,4,5,6,7] 9 mixd<|kE [0,1,2,3] 5 ?_;refine vC 4 rfl (out_Num _ _ _ (by ((try have :=hrl (by assumption));first|omega|(simp[B_,Aq_,Aw_,numK]<;>omega)))) rfl λw98=>?_;have :=R_ (B_ (B_ (⟨[],0⟩:Out) d.kind 1) d.tick 8) d.code 1;refine kE [5,6] 2 ?_;refine vC 7 rfl (D7_ _ _) rfl λw99=>?_;have :=At_ (B_ (B_ (B_ (⟨[],0⟩:Out) d.kind 1) d.tick 8) d.code 1) d.text;refine vT 8 rfl (sA G_ ?_);refine vD<|kA 5 ?_;refine call (Dz_ _) rfl rfl λw100=>kA 5 ?_;refine rt2 rfl rfl ?_;refine ple ?_;have e:Cg_ d=(H_ (B_ (B_ (B_ (⟨[],0⟩:Out) d.kind 1) d.tick 8) d.code 1) d.text).s:=by
     unfold Cg_
     first
       |(rw[if_neg (by assumption)];done)
       |(rw[if_pos (by assumption)];unfold It_;(repeat (first|rw[if_pos (by omega)]|rw[if_neg (by omega)]|rw[if_pos (by assumption)]|rw[if_neg (by assumption)]|rw[if_neg (not_not_intro (by assumption))]));first|done|rfl)
   rw[e]
   try (rw[show F7_ d=0 by assumption])
 refine kA 6 ?_;refine call (Dz_ _) rfl rfl λw102=>kA 5 ?_;refine rt2 rfl rfl ?_;refine ple ?_;have e:Cg_ d=(B_ (B_ (⟨[],0⟩:Out) d.kind 1) d.tick 8).s:=by
   unfold Cg_
   first
     |(rw[if_neg (by assumption)];done)
     |(rw[if_pos (by assumption)];unfold It_;(repeat (first|rw[if_pos (by omega)]|rw[if_neg (by omega)]|rw[if_pos (by assumption)]|rw[if_neg (by assumption)]|rw[if_neg (not_not_intro (by assumption))]));first|done|rfl)
 rw[e]
 try (rw[show F7_ d=0 by assumption])
theorem cb202:Ad_ prog 202:=Aa_ func202 (by kernel_rfl) (by kernel_rfl)
theorem Za_ (i:In):Fm prog gb 202 [] 211 (In.pc i) (.agg (Mail.pc (((Ea_ i)).1))) (In.pc (((Ea_ i)).2)):=by
 refine Qq_ G_ func202 rfl ntmps202 rfl cb202 rfl rfl rfl rfl λw wp b N H hG=>?_;refine kB 8 [1] λB2=>?_;refine ef (ecallm (Fc_ _ _) rfl rfl rfl rfl rfl λw3 w3p=>?_);have :=Bv_ i 8;generalize hg5:Z_ i 8=g4 at *;refine kB 8 [2] λB7=>?_;refine ef (ecallm (Ih_ _ _) rfl rfl rfl rfl rfl λw8 w8p=>?_);have :=Cv_ ((g4).2) 16;generalize hg10:Y_ ((g4).2) 16=g9 at *;refine kB 7 [] λ_=>?_;refine ef (ecallm (Ih_ _ _) rfl rfl rfl rfl rfl λw12 w12p=>?_);have :=Cv_ ((g9).2) 64;generalize hg14:Y_ ((g9).2) 64=g13 at *;refine kB 7 [] λ_=>?_;refine ef (ecallm (X3_ _) rfl rfl rfl rfl rfl λw16 w16p=>?_);have :=Nr_ ((g13).2);generalize hg18:Bw_ ((g13).2)=g17 at *;refine kB 7 [] λ_=>?_;refine ef (ecallm (Ih_ _ _) rfl rfl rfl rfl rfl λw20 w20p=>?_);have :=Cv_ ((g17).2) 256;generalize hg22:Y_ ((g17).2) 256=g21 at *;refine kB 7 [] λ_=>?_;refine ef (ecallm (Fc_ _ _) rfl rfl rfl rfl rfl λw24 w24p=>?_);have :=Bv_ ((g21).2) 8;generalize hg26:Z_ ((g21).2) 8=g25 at *;refine kB 7 [] λ_=>?_;refine ef (ecallm (Fc_ _ _) rfl rfl rfl rfl rfl λw28 w28p=>?_);have :=Bv_ ((g25).2) 1;generalize hg30:Z_ ((g25).2) 1=g29 at *;refine q1 (qconv G_ rfl rfl rfl rfl (rg_u8 (by omega))) rfl λw31=>kB 8 [] λ_=>?_;refine ef (ecallm (Ig_ _) rfl rfl rfl rfl rfl λw33 w33p=>?_);refine kA 3 ?_;refine cnd rfl (λh34=>?_) (λh34=>?_)
 . have p35:=dt h34;refine kA 3 ?_;refine call (J2_ (⟨(g4).1,(g9).1,(g13).1,(g17).1,(g21).1,(g25).1,(g29).1⟩:Mail)) rfl rfl λw36=>?_;have :=Nz_ (⟨(g4).1,(g9).1,(g13).1,(g17).1,(g21).1,(g25).1,(g29).1⟩:Mail);have hmo36:=λh=>Hs_ (m:=(⟨(g4).1,(g9).1,(g13).1,(g17).1,(g21).1,(g25).1,(g29).1⟩:Mail)) h;refine ef (ecallm (Iu_ _ _) rfl rfl rfl rfl rfl λw37 w37p=>?_);refine kA 6 ?_;refine ef (ecallm (Ig_ _) rfl rfl rfl rfl rfl λw38 w38p=>?_);refine kA 3 ?_;refine cnd rfl (λh39=>?_) (λh39=>?_)
   . have h40:=E7_ h39;have p41:=df h40;refine kB 8 [] λ_=>?_;refine rm1 rfl rfl ?_ rfl rfl rfl ?_
     . have e:Ea_ i=((⟨0,[],[],[],[],0,0⟩:Mail),(Bo_ ((g29).2) (Gt_ (⟨(g4).1,(g9).1,(g13).1,(g17).1,(g21).1,(g25).1,(g29).1⟩:Mail)))):=by unfold Ea_;simp only;(repeat first|simp only[hg5,hg10,hg14,hg18,hg22,hg26,hg30]|rw[if_pos (by omega)]|rw[if_neg (by omega)]);all_goals first|rfl|(simp[*];done)|(simp[*];rfl)
       exact ple (by first|(rw[e];done)|(rw[e];rfl))
     have e:Ea_ i=((⟨0,[],[],[],[],0,0⟩:Mail),(Bo_ ((g29).2) (Gt_ (⟨(g4).1,(g9).1,(g13).1,(g17).1,(g21).1,(g25).1,(g29).1⟩:Mail)))):=by unfold Ea_;simp only;(repeat first|simp only[hg5,hg10,hg14,hg18,hg22,hg26,hg30]|rw[if_pos (by omega)]|rw[if_neg (by omega)]);all_goals first|rfl|(simp[*];done)|(simp[*];rfl)
     exact ples (by first|(rw[e];done)|(rw[e];rfl))
   have h43:=Eu_ h39;have p44:=dt h43;refine kB 9 [] λ_=>?_;refine rm1 rfl rfl ?_ rfl rfl rfl ?_
   . have e:Ea_ i=((⟨(g4).1,(g9).1,(g13).1,(g17).1,(g21).1,(g25).1,(g29).1⟩:Mail),(Bo_ ((g29).2) (Gt_ (⟨(g4).1,(g9).1,(g13).1,(g17).1,(g21).1,(g25).1,(g29).1⟩:Mail)))):=by unfold Ea_;simp only;(repeat first|simp only[hg5,hg10,hg14,hg18,hg22,hg26,hg30]|rw[if_pos (by omega)]|rw[if_neg (by omega)]);all_goals first|rfl|(simp[*];done)|(simp[*];rfl)
     exact ple (by first|(rw[e];done)|(rw[e];rfl))
   have e:Ea_ i=((⟨(g4).1,(g9).1,(g13).1,(g17).1,(g21).1,(g25).1,(g29).1⟩:Mail),(Bo_ ((g29).2) (Gt_ (⟨(g4).1,(g9).1,(g13).1,(g17).1,(g21).1,(g25).1,(g29).1⟩:Mail)))):=by unfold Ea_;simp only;(repeat first|simp only[hg5,hg10,hg14,hg18,hg22,hg26,hg30]|rw[if_pos (by omega)]|rw[if_neg (by omega)]);all_goals first|rfl|(simp[*];done)|(simp[*];rfl)
   exact ples (by first|(rw[e];done)|(rw[e];rfl))
 have p46:=df h34;refine kA 6 ?_;refine ef (ecallm (Ig_ _) rfl rfl rfl rfl rfl λw47 w47p=>?_);refine kA 3 ?_;refine cndT rfl (by rw[h34]<;>rfl) ?_;refine kB 8 [] λ_=>?_;refine rm1 rfl rfl ?_ rfl rfl rfl ?_
 . have e:Ea_ i=((⟨0,[],[],[],[],0,0⟩:Mail),((g29).2)):=by unfold Ea_;simp only;(repeat first|simp only[hg5,hg10,hg14,hg18,hg22,hg26,hg30]|rw[if_pos (by omega)]|rw[if_neg (by omega)]);all_goals first|rfl|(simp[*];done)|(simp[*];rfl)
   exact ple (by first|(rw[e];done)|(rw[e];rfl))
 have e:Ea_ i=((⟨0,[],[],[],[],0,0⟩:Mail),((g29).2)):=by unfold Ea_;simp only;(repeat first|simp only[hg5,hg10,hg14,hg18,hg22,hg26,hg30]|rw[if_pos (by omega)]|rw[if_neg (by omega)]);all_goals first|rfl|(simp[*];done)|(simp[*];rfl)
 exact ples (by first|(rw[e];done)|(rw[e];rfl))
theorem r4_Name (s:Bs):Fn prog gb 84 [.str s] (.int .i64 (Ez_ s)):=by
 refine kG func84 ntmps84 λw N H hG=>?_;refine kA 13 ?_;refine cn rfl (λp2=>?_) λp3=>?_
 . refine kA 7 ?_;refine rt1 rfl rfl (ple ?_);have :s=[]:=List.eq_nil_of_length_eq_zero (by omega);subst this
   rfl
 refine kA 10 ?_;refine cn rfl (λp5=>?_) λp6=>?_
 . refine kA 7 ?_;refine rt1 rfl rfl (ple ?_);have hne:¬s=[]:=λq=>by subst q;simp at *
   unfold Ez_
   rw[if_neg hne,if_pos (by omega)]
 refine kA 9 ?_;refine loop (ι:=Nat) [0,4,5,6,7,8,9] [] (λk=>[(3, .int .i64 (k:Int))]) (λk=>[]) (λk=>k<=s.length/\(s.drop k).all (λc=>letter c.toNat)=plain s) (λk=>s.length-k) 0 ⟨rfl,trivial⟩ trivial ?_ ?_
 . exact⟨by omega,rfl⟩
 rintro k hp7;obtain⟨hk1,hk2⟩:=hp7;refine kA 9 ?_;refine cn rfl (λp9=>?_) λp15=>?_
 . have :=u8r (s.getD k 0);refine kA 8 ?_;refine q1 (sidx G_ k rfl rfl rfl rfl rfl (by omega)) rfl λw10=>call (r4_letter _) rfl rfl λw11=>kA 3 ?_;refine cnd rfl (λh12=>?_) (λh12=>?_)
   . have h13:=E7_ h12;refine kA 11 ?_;refine rt1 rfl rfl (ple ?_);have hne:¬s=[]:=λq=>by subst q;simp at *
     unfold Ez_
     rw[if_neg hne,if_neg (by omega),<- hk2,U6_ (k:=k) (by omega)]
     simp only[*,Bool.false_and,Bool.false_eq_true,if_false]
   have h14:=Eu_ h12;refine kC 8 ?_;refine next (k+1) rfl rfl ⟨rfl,trivial⟩ trivial ?_ ?_
   . omega
   refine⟨by omega,?_⟩
   rw[<- hk2,U6_ (k:=k) (by omega)]
   simp only[*,Bool.true_and]
 refine kA 11 ?_;refine rt1 rfl rfl (ple ?_);have hne:¬s=[]:=λq=>by subst q;simp at *
 unfold Ez_
 rw[if_neg hne,if_neg (by omega),<- hk2,List.drop_of_length_le (by omega)]
 rfl
theorem Yj_ (h:List Pair):Fn prog gb 86 [.sl Pair.pc h] (.bool (P2_ h)):=by
 refine kG func86 ntmps86 λw N H hG=>?_;refine kA 13 ?_;refine cn rfl (λp2=>?_) λp3=>?_
 . refine kA 7 ?_;refine rt1 rfl rfl (ple ?_);exact congrArg PV.bool (by simp[P2_];omega)
 refine kA 11 ?_;refine loop (ι:=Nat) [0,5,6,7,8,9] [] (λk=>[(10, .int .i64 (k:Int))]) (λk=>[]) (λk=>k<=h.length/\h.all Y1_=(h.drop k).all Y1_) (λk=>h.length-k) 0 ⟨rfl,trivial⟩ trivial ?_ ?_
 . exact⟨Nat.zero_le _,rfl⟩
 rintro k hp4;obtain⟨hk1,hk2⟩:=hp4;refine kA 6 ?_;refine cn rfl (λp6=>?_) λp17=>?_
 . obtain⟨c7,hc8⟩:=getE (xs:=h) (m:=k) (by omega);have c7_w:=Pair.pwf (w.1.2 c7 (List.mem_of_getElem? hc8));refine kA 6 ?_;refine kI k hc8 λw9=>?_;refine kD 19 [0] λB11=>?_;refine cnd rfl (λh12=>?_) (λh12=>?_)
   . refine kA 11 ?_;refine rt1 rfl rfl (ple ?_);exact congrArg PV.bool (by unfold P2_;rw[all_miss hk2 (E3_ hc8) (by simp[Y1_];first|omega|grind)];simp)
   have h13:=orl h12;have p14:=df h13;have h15:=orr h12;have p16:=df h15;refine kC 7 ?_;refine next (k+1) rfl rfl ⟨rfl,trivial⟩ trivial ?_ ?_
   . omega
   exact⟨by omega,all_step hk2 (E3_ hc8) (by simp[Y1_];omega)⟩
 refine kA 11 ?_;refine rt1 rfl rfl (ple ?_);exact congrArg PV.bool (by unfold P2_;rw[all_end hk2 (by omega)];simp;omega)
theorem l13_Light (m:Mail):Fn prog gb 87 [.agg (Mail.pc m)] (.bool (Qv_ m)):=by
 refine kG func87 ntmps87 λw N H hG=>?_;have m_w:=Mail.pwf w.1;have m_w':=m_w
 simp only[Mail.wf] at m_w'
 have m_head_k:=Mail.kd3 w.1;have m_head_k2:m.head.length<=140737488355328:=w.1.2.2.2.1.1;refine kD 21 [0] λB2=>?_;refine callg rfl (λhc=>(Yj_ _)) rfl ⟨(λhc=>hc),trivial⟩ rfl rfl λ_=>kC 11 ?_;refine rt1 rfl rfl (ple ?_);refine congrArg PV.bool ?_
 unfold Qv_
 first|(simp only[*,Bool.and_true,Bool.true_and,Bool.false_and,Bool.and_false,decide_true,decide_false];done)|(rw[Bool.eq_iff_iff];simp[and_assoc];done)|(rw[Bool.eq_iff_iff];simp;grind)
theorem l22_Light (d:L_):Fn prog gb 31 [.agg (L_.pc d)] (.bool (P1_ d)):=by
 refine kG func31 ntmps31 λw N H hG=>?_;have d_w:=L_.pwf w.1;have d_w':=d_w
 simp only[L_.wf,W_.wf,Q_.wf,P_.wf,Mail.wf] at d_w'
 have d_bind_want_k:=L_.kd13 w.1;have d_bind_want_k2:d.bind.want.length<=140737488355328:=w.1.2.2.2.2.2.2.2.2.2.2.2.2.2.1.1;have d_mail_head_k:=L_.kd24 w.1;have d_mail_head_k2:d.Ab_.head.length<=140737488355328:=w.1.2.2.2.2.2.2.2.2.2.2.2.2.2.2.2.2.2.2.2.2.2.2.2.2.1.1;refine kB 35 [0] λB2=>?_;refine q1 (qmaxN (z:=(d.Bb_.name.length:Int)) (r:=(max (max (max (max (max (max (d.Bb_.name.length:Int) (d.Bb_.to'.length:Int)) (d.queue.name.length:Int)) (d.queue.dead.length:Int)) (d.bind.Bb_.length:Int)) (d.bind.to'.length:Int)) (d.name.length:Int))) [(d.Bb_.to'.length:Int),(d.queue.name.length:Int),(d.queue.dead.length:Int),(d.bind.Bb_.length:Int),(d.bind.to'.length:Int),(d.name.length:Int)] rfl rfl (Rg_ (by omega))) rfl λw3=>kC 22 ?_;refine callg rfl (λhc=>(Yj_ _)) rfl ⟨(λhc=>hc),trivial⟩ rfl rfl λ_=>kC 4 ?_;refine callg rfl (λhc=>(l13_Light _)) rfl ⟨(λhc=>hc),trivial⟩ rfl rfl λ_=>kC 5 ?_;refine rt1 rfl rfl (ple ?_);refine congrArg PV.bool ?_
 unfold P1_
 first|(simp only[*,Bool.and_true,Bool.true_and,Bool.false_and,Bool.and_false,decide_true,decide_false];done)|(rw[Bool.eq_iff_iff];simp[and_assoc];done)|(rw[Bool.eq_iff_iff];simp;grind)
theorem Vk_ (r:Rule):Fn prog gb 200 [.agg (Rule.pc r)] (.int .i64 (Qh_ r)):=by
 refine kG func200 ntmps200 λw N H hG=>?_;have r_w:=Rule.pwf w.1;have r_w':=r_w
 simp only[Rule.wf] at r_w'
 have r_want_k:=Rule.kd2 w.1;have r_want_k2:r.want.length<=140737488355328:=w.1.2.2.1.1;refine kB 21 [0] λB2=>?_;refine cn rfl (λp4=>?_) λp5=>?_
 . refine kA 8 ?_;refine rt1 rfl rfl (ple ?_);refine congrArg (PV.int .i64) ?_
   (try simp only[bl1] at *)
   unfold Qh_
   repeat (first|rw[if_pos (by omega)]|rw[if_neg (by omega)])
   all_goals first|done|rfl|omega
 refine kA 8 ?_;refine cn rfl (λp7=>?_) λp15=>?_
 . refine kA 3 ?_;refine call (Z3_ _) rfl rfl λw8=>kA 11 ?_;refine cnd rfl (λh9=>?_) (λh9=>?_)
   . have h10:=E7_ h9;have p11:=df h10;refine kA 8 ?_;refine rt1 rfl rfl (ple ?_);refine congrArg (PV.int .i64) ?_
     (try simp only[bl1] at *)
     unfold Qh_
     repeat (first|rw[if_pos (by omega)]|rw[if_neg (by omega)])
     all_goals first|done|rfl|omega
   have h12:=Eu_ h9;have p13:=dt h12;refine kA 6 ?_;refine call (K2_ _) rfl rfl λw14=>kA 4 ?_;refine rt1 rfl rfl (ple ?_);refine congrArg (PV.int .i64) ?_
   (try simp only[bl1] at *)
   unfold Qh_
   repeat (first|rw[if_pos (by omega)]|rw[if_neg (by omega)])
   all_goals first|done|rfl|omega
 refine kA 3 ?_;refine call (Xk_ _) rfl rfl λw16=>kA 11 ?_;refine cnd rfl (λh17=>?_) (λh17=>?_)
 . have h18:=E7_ h17;have p19:=df h18;refine kA 8 ?_;refine rt1 rfl rfl (ple ?_);refine congrArg (PV.int .i64) ?_
   (try simp only[bl1] at *)
   unfold Qh_
   repeat (first|rw[if_pos (by omega)]|rw[if_neg (by omega)])
   all_goals first|done|rfl|omega
 have h20:=Eu_ h17;have p21:=dt h20;refine kA 6 ?_;refine call (K2_ _) rfl rfl λw22=>kA 4 ?_;refine rt1 rfl rfl (ple ?_);refine congrArg (PV.int .i64) ?_
 (try simp only[bl1] at *)
 unfold Qh_
 repeat (first|rw[if_pos (by omega)]|rw[if_neg (by omega)])
 all_goals first|done|rfl|omega
theorem rule_heads (r:Rule) (h:List Pair):Fn prog gb 270 [.agg (Rule.pc r), .sl Pair.pc h] (.bool (L6_ r.all h r.want)):=by
 refine kG func270 ntmps270 λw N H hG=>?_;have r_want_l:r.want.length<=140737488355328:=w.1.2.2.1.1;have h_l:h.length<=140737488355328:=w.2.1.1;refine kB 20 [0] λB2=>?_;refine loop (ι:=Nat) [0,1,2,10,11,12] [0] (λk=>[(13, .int .i64 (k:Int))]) (λk=>[]) (λk=>k<=r.want.length/\L6_ r.all h r.want=L6_ r.all h (r.want.drop k)) (λk=>r.want.length-k) 0 ⟨rfl,trivial⟩ trivial ?_ ?_
 . exact⟨Nat.zero_le _,rfl⟩
 rintro k hp3;obtain⟨hk1,hk2⟩:=hp3;refine kA 6 ?_;refine cn rfl (λp5=>?_) λp25=>?_
 . obtain⟨c6,hc7⟩:=getE (xs:=r.want) (m:=k) (by omega);have c6_w:=Pair.pwf (w.1.2.2.1.2 c6 (List.mem_of_getElem? hc7));refine kA 6 ?_;refine kI k hc7 λw8=>?_;refine kB 10 [1] λB10=>?_;refine call (X2_ _ _) rfl rfl λw11=>kB 14 [2] λB13=>?_;refine q1g [26,27] rfl (λhc=>saeq rfl rfl eqg225 (veq225 ((Ug_ h c6.key).getD Pair.zero) c6)) ⟨(λhc=>hc),(λhc=>hc),trivial⟩ rfl rfl rfl λ_=>?_;refine kC 15 ?_;refine cnd rfl (λh14=>?_) (λh14=>?_)
   . have h15:=bl h14;have h16:=bl h15;have h17:=br h15;have p18:=dt h17;have h19:=br h14;refine kC 8 ?_;refine next (k+1) rfl rfl ⟨rfl,trivial⟩ trivial ?_ ?_
     . omega
     refine⟨by omega,?_⟩
     rw[hk2,E3_ hc7]
     simp only[L6_]
     first|(simp only[hasP];simp[*];done)|(unfold hasP;simp_all;done)|(unfold hasP;grind)
   refine kA 6 ?_;refine cnd rfl (λh20=>?_) (λh20=>?_)
   . have h21:=bl h20;have h22:=br h20;have p23:=dt h22;refine kA 13 ?_;refine rt1 rfl rfl (ple ?_);refine congrArg PV.bool ?_
     rw[hk2,E3_ hc7]
     simp only[L6_]
     first|(simp only[hasP];simp[*];done)|(unfold hasP;simp_all;done)|(unfold hasP;grind)
   refine kA 7 ?_;refine cnd rfl (λh24=>?_) (λh24=>?_)
   . refine kA 13 ?_;refine rt1 rfl rfl (ple ?_);refine congrArg PV.bool ?_
     rw[hk2,E3_ hc7]
     simp only[L6_]
     first|(simp only[hasP];simp[*];done)|(unfold hasP;simp_all;done)|(unfold hasP;grind)
   refine kC 8 ?_;refine next (k+1) rfl rfl ⟨rfl,trivial⟩ trivial ?_ ?_
   . omega
   refine⟨by omega,?_⟩
   rw[hk2,E3_ hc7]
   simp only[L6_]
   first|(simp only[hasP];simp[*];done)|(unfold hasP;simp_all;done)|(unfold hasP;grind)
 refine kA 14 ?_;refine rt1 rfl rfl (ple ?_);refine congrArg PV.bool ?_
 rw[hk2,List.drop_of_length_le (by omega)]
 rfl
theorem T6_ (r:Rule) (key:Bs) (h:List Pair) (hrk:r.key.length<4294967281:=by first|omega|(simp;done)|decide) (hk:key.length<4294967281:=by first|omega|(simp;done)|decide):Fn prog gb 228 [.agg (Rule.pc r), .str key, .sl Pair.pc h] (.bool (Qs_ r key h)):=by
 refine kG func228 ntmps228 λw N H hG=>?_;refine kB 20 [0] λB2=>?_;refine cn rfl (λp4=>?_) λp5=>?_
 . refine kA 12 ?_;refine rt1 rfl rfl (ple ?_);refine congrArg PV.bool ?_
   first|(simp[Qs_, *];done)|(simp[Qs_, *];omega)
 refine kA 6 ?_;refine cn rfl (λp7=>?_) λp9=>?_
 . refine kA 5 ?_;refine call (K1_ _ _) rfl rfl λw8=>kA 6 ?_;refine rt1 rfl rfl (ple ?_);refine congrArg PV.bool ?_
   first|(simp[Qs_, *];done)|(simp[Qs_, *];omega)
 refine kA 6 ?_;refine cn rfl (λp11=>?_) λp13=>?_
 . refine kA 4 ?_;refine call (rule_heads _ _) rfl rfl λw12=>kA 6 ?_;refine rt1 rfl rfl (ple ?_);refine congrArg PV.bool ?_
   first|(simp[Qs_, *];done)|(simp[Qs_, *];omega)
 refine kA 9 ?_;refine rt1 rfl rfl (ple ?_);refine congrArg PV.bool ?_
 first|(simp[Qs_, *];done)|(simp[Qs_, *];omega)
theorem match_Same (a:Rule) (b:Rule):Fn prog gb 207 [.agg (Rule.pc a), .agg (Rule.pc b)] (.bool (decide (a=b))):=by
 refine kG func207 ntmps207 λw N H hG=>?_;refine kD 33 [0,1] λB2=>?_;refine callg rfl (λhc=>(eq_Pair _ _)) rfl ⟨(λhc=>hc),(λhc=>hc),trivial⟩ rfl rfl λ_=>kC 5 ?_;refine rt1 rfl rfl (ple ?_);exact congrArg PV.bool (by rw[Bool.eq_iff_iff];first|(simp[Rule.eq_iff,and_assoc];done)|(simp[Rule.eq_iff];grind))
theorem eq_Str (a:List Bs) (b:List Bs):Fn prog gb 24 [.sl strc a, .sl strc b] (.bool (decide (a=b))):=by
 refine kG func24 ntmps24 λw N H hG=>?_;have a_l:a.length<=140737488355328:=w.1.1;have b_l:b.length<=140737488355328:=w.2.1.1;refine kA 15 ?_;refine cnd rfl (λh1=>?_) (λh1=>?_)
 . have h2:=E7_ h1;have p3:=df h2;refine kA 7 ?_;refine rt1 rfl rfl (ple ?_);exact congrArg PV.bool (eqL_len (by assumption)).symm
 have h4:=Eu_ h1;have p5:=dt h4;refine kA 11 ?_;refine loop (ι:=Nat) [0,1,6,7,8,9,10,11,12] [] (λk=>[(13, .int .i64 (k:Int))]) (λk=>[]) (λk=>k<=a.length /\ decide (a=b) = decide (a.drop k=b.drop k)) (λk=>a.length-k) 0 ⟨rfl,trivial⟩ trivial ?_ ?_
 . exact⟨Nat.zero_le _,rfl⟩
 rintro k hp6;obtain⟨hk1,hk2⟩:=hp6;refine kA 6 ?_;refine cnd rfl (λh7=>?_) (λh7=>?_)
 . have p8:=dt h7;refine kA 11 ?_;refine aN [0,1,2,3,4,5] 9 mixd<|kE [0,1] 7 ?_;obtain⟨c9,hc10⟩:=getE (xs:=a) (m:=k) (by omega);have c9_l:c9.length<=9223372036854775807:=(w.1.2 c9 (List.mem_of_getElem? hc10)).1;refine vq 2 (qidx G_ k rfl rfl rfl hc10 rfl rfl rfl rfl) rfl (by kernel_rfl) rfl λw11=>kE [3,4,5] 3 ?_;obtain⟨c12,hc13⟩:=getE (xs:=b) (m:=k) (by omega);have c12_l:c12.length<=9223372036854775807:=(w.2.1.2 c12 (List.mem_of_getElem? hc13)).1;refine vq 6 (qidx G_ k rfl rfl rfl hc13 rfl rfl rfl rfl) rfl (by kernel_rfl) rfl λw14=>kE [7,8] 0 ?_;refine vD<|kA 1 ?_;refine cnd rfl (λh15=>?_) (λh15=>?_)
   . have h16:=E7_ h15;have p17:=df h16;refine kA 11 ?_;refine rt1 rfl rfl (ple ?_);exact congrArg PV.bool (V6_ hk2 (E3_ hc10) (E3_ hc13) (by assumption)).symm
   have h18:=Eu_ h15;have p19:=dt h18;refine kC 7 ?_;refine next (k+1) rfl rfl ⟨rfl,trivial⟩ trivial ?_ ?_
   . omega
   exact⟨by omega,V7_ hk2 (E3_ hc10) (E3_ hc13) (by assumption)⟩
 have p20:=df h7;refine kA 11 ?_;refine rt1 rfl rfl (ple ?_);exact congrArg PV.bool (eqL_end hk2 (by omega) (by omega)).symm
theorem index_Str (l:List Bs) (x:Bs):Fn prog gb 294 [.sl strc l, .str x] (.int .i64 (idxP (λy=>decide (x=y)) l)):=by
 refine kG func294 ntmps294 λw N H hG=>?_;have l_l:l.length<=140737488355328:=w.1.1;have x_l:x.length<=9223372036854775807:=w.2.1;refine kA 14 ?_;refine loop (ι:=Nat) [0,1,6,7] [] (λk=>[(8, .int .i64 (k:Int))]) (λk=>[]) (λk=>k<=l.length/\idxP (λy=>decide (x=y)) l=idxF (λy=>decide (x=y)) k (l.drop k)) (λk=>l.length-k) 0 ⟨rfl,trivial⟩ trivial ?_ ?_
 . exact⟨Nat.zero_le _,rfl⟩
 rintro k hp1;obtain⟨hik1,hik2⟩:=hp1;refine kA 6 ?_;refine cnd rfl (λh2=>?_) (λh2=>?_)
 . have p3:=dt h2;obtain⟨c4,hc5⟩:=getE (xs:=l) (m:=k) (by omega);have c4_l:c4.length<=9223372036854775807:=(w.1.2 c4 (List.mem_of_getElem? hc5)).1;refine kA 15 ?_;refine kI k hc5 λw6=>?_;refine kA 4 ?_;refine cnd rfl (λh7=>?_) (λh7=>?_)
   . have p8:=dt h7;refine kA 12 ?_;refine rt1 rfl rfl (ple ?_);exact congrArg (PV.int .i64) (Mz_ hik2 (E3_ hc5) (by first|assumption|(simp[*];done))).symm
   have p9:=df h7;refine kC 7 ?_;refine next (k+1) rfl rfl ⟨rfl,trivial⟩ trivial ?_ ?_
   . omega
   exact⟨by omega,Kw_ hik2 (E3_ hc5) (by assumption)⟩
 have p10:=df h2;refine kA 11 ?_;refine rt1 rfl rfl (ple ?_);exact congrArg (PV.int .i64) (My_ hik2 (by omega)).symm
theorem Xs_ (l:List Bs) (x:Bs):Fn prog gb 271 [.sl strc l, .str x] (.bool (decide (x∈l))):=by
 refine kG func271 ntmps271 λw N H hG=>?_;refine kA 9 ?_;refine call (index_Str _ _) rfl rfl λw1=>?_;have :=idxP_r (λy=>decide (x=y)) l;refine kA 5 ?_;refine rt1 rfl rfl (ple ?_);refine congrArg PV.bool ?_
 rw[Bool.eq_iff_iff,decide_eq_true_eq,decide_eq_true_eq,idxP_any]
 simp
theorem shop_check (x:W_):Fn prog gb 192 [.agg (W_.pc x)] (.int .i64 (Kq_ x)):=by
 refine kG func192 ntmps192 λw N H hG=>?_;refine kB 11 [0] λB2=>?_;refine call (Ey_ _) rfl rfl λw3=>kA 9 ?_;refine cnd rfl (λh4=>?_) (λh4=>?_)
 . have h5:=E7_ h4;have p6:=df h5;refine kA 8 ?_;refine rt1 rfl rfl (ple ?_);refine congrArg (PV.int .i64) ?_
   simp only[bl1] at *
   unfold Kq_
   (repeat' split)<;>first|rfl|(exfalso;omega)|(exfalso;simp_all;done)|(exfalso;simp_all;omega)|grind
 have h7:=Eu_ h4;have p8:=dt h7;refine kA 12 ?_;refine cnd rfl (λh9=>?_) (λh9=>?_)
 . have p10:=dt h9;refine kA 8 ?_;refine rt1 rfl rfl (ple ?_);refine congrArg (PV.int .i64) ?_
   simp only[bl1] at *
   unfold Kq_
   (repeat' split)<;>first|rfl|(exfalso;omega)|(exfalso;simp_all;done)|(exfalso;simp_all;omega)|grind
 have p11:=df h9;refine kA 8 ?_;refine cnd rfl (λh12=>?_) (λh12=>?_)
 . have p13:=dt h12;refine kA 4 ?_;refine call (Ey_ _) rfl rfl λw14=>kA 6 ?_;refine rt1 rfl rfl (ple ?_);refine congrArg (PV.int .i64) ?_
   simp only[bl1] at *
   unfold Kq_
   (repeat' split)<;>first|rfl|(exfalso;omega)|(exfalso;simp_all;done)|(exfalso;simp_all;omega)|grind
 have p15:=df h12;refine kA 8 ?_;refine cnd rfl (λh16=>?_) (λh16=>?_)
 . have h17:=E7_ h16;have p18:=df h17;refine kA 8 ?_;refine rt1 rfl rfl (ple ?_);refine congrArg (PV.int .i64) ?_
   simp only[bl1] at *
   unfold Kq_
   (repeat' split)<;>first|rfl|(exfalso;omega)|(exfalso;simp_all;done)|(exfalso;simp_all;omega)|grind
 have h19:=Eu_ h16;have p20:=dt h19;refine kA 9 ?_;refine rt1 rfl rfl (ple ?_);refine congrArg (PV.int .i64) ?_
 simp only[bl1] at *
 unfold Kq_
 (repeat' split)<;>first|rfl|(exfalso;omega)|(exfalso;simp_all;done)|(exfalso;simp_all;omega)|grind
theorem Po_ (b:Ap_) (name:Bs):Fn prog gb 173 [.agg (Ap_.pc b), .str name] (.tup [.agg (W_.pc ((Eo_ b.Ba_ name).getD W_.zero)), .bool ((Eo_ b.Ba_ name).isSome)]):=by
 refine kG func173 ntmps173 λw N H hG=>?_;have b_shops_l:b.Ba_.length<=140737488355328:=w.1.1.1;have b_binds_l:b.binds.length<=140737488355328:=w.1.2.1.1;have name_l:name.length<=9223372036854775807:=w.2.1;refine kB 17 [0,1] λB2=>?_;refine loop (ι:=Nat) [0,1,2,4,8,9,10] [0,1] (λk=>[(11, .int .i64 (k:Int))]) (λk=>[]) (λk=>k<=b.Ba_.length/\Eo_ b.Ba_ name=Eo_ (b.Ba_.drop k) name) (λk=>b.Ba_.length-k) 0 ⟨rfl,trivial⟩ trivial ?_ ?_
 . exact⟨Nat.zero_le _,rfl⟩
 rintro k hp4;obtain⟨hk1,hk2⟩:=hp4;refine kA 6 ?_;refine cnd rfl (λh5=>?_) (λh5=>?_)
 . have p6:=dt h5;obtain⟨c7,hc8⟩:=getE (xs:=b.Ba_) (m:=k) (by omega);have c7_w:=W_.pwf (w.1.1.2 c7 (List.mem_of_getElem? hc8));refine kA 6 ?_;refine kI k hc8 λw9=>?_;refine kB 13 [2] λB11=>?_;refine cnd rfl (λh12=>?_) (λh12=>?_)
   . have p13:=dt h12;refine kB 13 [] λ_=>?_;refine rt2 rfl rfl ?_;refine ple ?_;have e:=shopOf_hit hk2 (E3_ hc8) (by assumption)
     rw[e]
     rfl
   have p15:=df h12;refine kC 7 ?_;refine next (k+1) rfl rfl ⟨rfl,trivial⟩ trivial ?_ ?_
   . (try simp only[]);omega
   exact⟨by omega,shopOf_miss hk2 (E3_ hc8) (by assumption)⟩
 have p16:=df h5;refine kB 13 [] λ_=>?_;refine rt2 rfl rfl ?_;refine ple ?_
 rw[List.drop_of_length_le (by omega)] at hk2
 rw[hk2]
 rfl
theorem Pn_ (x:P_) (sort:Int):Fn prog gb 199 [.agg (P_.pc x), .int .u8 sort] (.agg (Rule.pc (Ji_ x sort))):=by
 refine kG func199 ntmps199 λw N H hG=>?_;refine kB 20 [0,1] λB2=>?_;refine rt1 rfl rfl (ple ?_)
 rfl
theorem Xn_ (x:P_) (y:P_):Fn prog gb 136 [.agg (P_.pc x), .agg (P_.pc y)] (.bool (decide (x=y))):=by
 refine kG func136 ntmps136 λw N H hG=>?_;refine kB 8 [0,1] λB2=>?_;refine aN [2,3,4,5,6,7] 27 mixd<|kF [0,1,2,3,4,5,6,7,8,9,10,11,12,13,14,15,16,17,18,19,20,22] 5 ?_;refine vE 21 rfl (ecallg rfl (λhc=>(Pn_ _ _)) rfl ⟨(λhc=>hc),trivial⟩ rfl rfl λ_=>?_);refine vE 23 rfl (ecallg rfl (λhc=>(Pn_ _ _)) rfl ⟨(λhc=>hc),trivial⟩ rfl rfl λ_=>?_);refine vcallg 24 rfl (by kernel_rfl) rfl (λhc=>(match_Same _ _)) rfl rfl ⟨(λhc=>hc),(λhc=>hc),trivial⟩ rfl λ_=>kF [25,26] 0 ?_;refine vD<|kA 2 ?_;refine rt1 rfl rfl (ple ?_);exact congrArg PV.bool (by rw[Bool.eq_iff_iff];first|(simp[P_.eq_iff,Ji_,and_assoc];done)|(simp[P_.eq_iff,Ji_];grind))
theorem Uv_ (s:List Pair) (hl:s.length<=1000000:=by first|omega|(simp;done)|(simp;omega)):Fn prog gb 154 [.sl Pair.pc s] (.sl Pair.pc s):=by
 refine kG func154 ntmps154 λw N H hG=>?_;refine kA 9 ?_;refine ef (lnil G_ rfl rfl rfl rfl rfl λb1 hb2=>?_);refine kA 2 ?_;refine cnd rfl (λh3=>?_) (λh3=>?_)
 . refine kA 7 ?_;refine rt1 rfl rfl ?_;refine Jp_ ?_;exact hb2 (by assumption)
 refine kA 4 ?_;refine ef (bsl 0 Pair.pc [] G_ rfl rfl rfl rfl rfl (λ_=>rfl) rfl (by decide) (by decide) rfl λu4=>?_);refine kA 1 ?_;refine ef (app G_ s rfl rfl rfl rfl rfl rfl rfl rfl rfl (src_l rfl (λ_=>rfl)) (by first|omega|(simp;omega)) rfl λu5=>?_);refine kA 3 ?_;refine givec 0 rfl<|kA 1 ?_;refine rt1 rfl rfl (ple ?_)
 simp
theorem Ur_ (x:P_) (hl:x.want.length<=1000000:=by first|omega|(simp;done)|decide):Fn prog gb 80 [.agg (P_.pc x)] (.agg (P_.pc x)):=by
 refine kG func80 ntmps80 λw N H hG=>?_;refine kB 10 [0,1] λB2=>?_;refine call (Uv_ _) rfl rfl λw4=>kB 11 [] λ_=>?_;refine rt1 rfl rfl (ple ?_)
 rfl
theorem idxF_Bind (s:List P_) (f:FuncId) (f_fst f_cap:List PV) (f_p:P_->Bool) (f_h:∀ x,Fn prog gb f (argsP.apL f_fst ((.agg (P_.pc x))::f_cap)) (.bool (f_p x))):Fn prog gb 245 [.sl P_.pc s, .fn f f_fst f_cap] (.int .i64 (idxP f_p s)):=by
 refine kG func245 ntmps245 λw N H hG=>?_;have s_l:s.length<=140737488355328:=w.1.1;refine kA 14 ?_;refine loop (ι:=Nat) [0,1,6,7] [] (λk=>[(8, .int .i64 (k:Int))]) (λk=>[]) (λk=>k<=s.length/\idxP f_p s=idxF f_p k (s.drop k)) (λk=>s.length-k) 0 ⟨rfl,trivial⟩ trivial ?_ ?_
 . exact⟨Nat.zero_le _,rfl⟩
 rintro k hp1;obtain⟨hk1,hk2⟩:=hp1;refine kA 6 ?_;refine cnd rfl (λh2=>?_) (λh2=>?_)
 . have p3:=dt h2;obtain⟨c4,hc5⟩:=getE (xs:=s) (m:=k) (by omega);have c4_w:=P_.pwf (w.1.2 c4 (List.mem_of_getElem? hc5));refine kA 15 ?_;refine kI k hc5 λw6=>?_;refine kA 1 ?_;refine call (f_h c4) rfl rfl λw7=>kA 2 ?_;refine cnd rfl (λh8=>?_) (λh8=>?_)
   . refine kA 12 ?_;refine rt1 rfl rfl (ple ?_);exact congrArg (PV.int .i64) (Mz_ hk2 (E3_ hc5) (by assumption)).symm
   refine kC 7 ?_;refine next (k+1) rfl rfl ⟨rfl,trivial⟩ trivial ?_ ?_
   . omega
   exact⟨by omega,Kw_ hk2 (E3_ hc5) (by assumption)⟩
 have p9:=df h2;refine kA 11 ?_;refine rt1 rfl rfl (ple ?_);exact congrArg (PV.int .i64) (My_ hk2 (by omega)).symm
theorem l01_awake:Fn prog gb 252 [] (.bool true):=by
 refine kG func252 ntmps252 λw N H hG=>?_;refine kA 8 ?_;refine call (out_Num (⟨[],0⟩:Out) _ _ (by ((try have :=hrl (by assumption));first|omega|(simp[B_,Aq_,Aw_,numK]<;>omega)))) rfl rfl λw1=>?_;have nl0:(⟨[],0⟩:Out).s.length=0:=rfl;have :=R_ (⟨[],0⟩:Out) 258 2;refine call (Dz_ _) rfl rfl λw2=>kA 1 ?_;refine so_rt (t:=4) (p':= .bool true) (ple (congrArg PV.bool (show decide (((B_ (⟨[],0⟩:Out) 258 2).s)=[1,2])=true by decide +kernel))) rfl ?_;refine kA 1 ?_;refine ungd rfl rfl<|kA 1 ?_;refine ungd rfl rfl<|call (D7_ (⟨[],0⟩:Out) _) rfl rfl λw3=>?_;have nl0:(⟨[],0⟩:Out).s.length=0:=rfl;have :=At_ (⟨[],0⟩:Out) [97,98];refine ungd rfl rfl<|call (Dz_ _) rfl rfl λw4=>ungd rfl rfl ?_;refine kA 1 ?_;refine so_rt (t:=9) (p':= .bool true) (ple (congrArg PV.bool (show decide (((H_ (⟨[],0⟩:Out) [97,98]).s)=[0,2,97,98])=true by decide +kernel))) rfl ?_;refine kA 2 ?_;refine ungd rfl rfl<|ef (ecallb 0 (Tr_ _) rfl rfl λw5 b6=>?_);refine ungd rfl rfl<|ef (ecallm (Fc_ (⟨[1,2],0⟩) _) rfl rfl rfl rfl rfl λw7 w7p=>?_);have :=Bv_ (⟨[1,2],0⟩) 2;refine ungd rfl rfl<|kA 1 ?_;refine so_rt (t:=14) (p':= .bool true) (ple (congrArg PV.bool (show decide ((((Z_ (⟨[1,2],0⟩) 2)).1)=258)=true by decide +kernel))) rfl ?_;refine kA 5 ?_;refine rt1 rfl rfl (ple ?_);exact congrArg PV.bool (by first|rfl|decide +kernel)
theorem S1_:Fn prog gb 212 [] (.bool true):=by
 refine kG func212 ntmps212 λw N H hG=>?_;refine kA 7 ?_;refine call l01_awake rfl rfl λw1=>kA 4 ?_;refine rt1 rfl rfl (ple ?_)
 rfl
theorem l04_awake:Fn prog gb 288 [] (.bool true):=by
 refine kG func288 ntmps288 λw N H hG=>?_;refine kA 7 ?_;refine call (K1_ _ _) rfl rfl λw1=>so_rt (t:=1) (p':= .bool true) (ple (congrArg PV.bool (show mt (Dx_ [97,46,42,46,35]) (Dx_ [97,46,98])=true by decide +kernel))) rfl ?_;refine kA 1 ?_;refine ungd rfl rfl<|call (K1_ _ _) rfl rfl λw2=>so_rt (t:=3) (p':= .bool true) (ple (congrArg PV.bool (show mt (Dx_ [97,46,42,46,35]) (Dx_ [97,46,98,46,99,46,100])=true by decide +kernel))) rfl ?_;refine kA 2 ?_;refine ungd rfl rfl<|call (K1_ _ _) rfl rfl λw3=>so_rt (t:=6) (p':= .bool false) (ple (congrArg PV.bool (show mt (Dx_ [97,46,42,46,35]) (Dx_ [97])=false by decide +kernel))) rfl ?_;refine ungd rfl rfl<|kA 1 ?_;refine so_rt (t:=7) (p':= .bool true) (ple (congrArg PV.bool (show !false=true by decide +kernel))) rfl ?_;refine kA 2 ?_;refine ungd rfl rfl<|call (Ey_ _) rfl rfl λw4=>ungd rfl rfl ?_;refine kA 1 ?_;refine so_rt (t:=11) (p':= .bool true) (ple (congrArg PV.bool (show decide ((Ez_ [97,45,49])=0)=true by decide +kernel))) rfl ?_;refine kA 5 ?_;refine rt1 rfl rfl (ple ?_);exact congrArg PV.bool (by first|rfl|decide +kernel)
theorem Ns_:Fn prog gb 259 [] (.bool true):=by
 refine kG func259 ntmps259 λw N H hG=>?_;refine kA 7 ?_;refine call l04_awake rfl rfl λw1=>kA 4 ?_;refine rt1 rfl rfl (ple ?_)
 rfl
theorem l09_awake:Fn prog gb 321 [] (.bool true):=by
 refine kG func321 ntmps321 λw N H hG=>?_;refine kA 7 ?_;refine call (Fn.le (Mf_ []) (A_ Ar_ A9_) (ple rfl) rfl) rfl rfl λw1=>?_;have :=Gz_ [];refine kA 9 ?_;refine call S1_ rfl rfl λw2=>kA 1 ?_;refine ungd rfl rfl<|call Ns_ rfl rfl λw3=>kA 2 ?_;refine ungd rfl rfl<|kA 1 ?_;refine ungd rfl rfl<|kA 1 ?_;refine so_rt (t:=13) (p':= .bool true) (ple (congrArg PV.bool (show decide ((Hh_ [])=0)=true by decide +kernel))) rfl ?_;refine kA 2 ?_;refine ungd rfl rfl<|kA 1 ?_;refine ungd rfl rfl<|kA 1 ?_;refine so_rt (t:=17) (p':= .bool true) (ple (congrArg PV.bool (show decide ((Bi_ [])=[0])=true by decide +kernel))) rfl ?_;refine kA 5 ?_;refine rt1 rfl rfl (ple ?_);exact congrArg PV.bool (by first|rfl|decide +kernel)
theorem Yi_:Fn prog gb 311 [] (.bool true):=by
 refine kG func311 ntmps311 λw N H hG=>?_;refine kA 7 ?_;refine call l09_awake rfl rfl λw1=>kA 4 ?_;refine rt1 rfl rfl (ple ?_)
 rfl
theorem l10_awake:Fn prog gb 322 [] (.bool true):=by
 refine kG func322 ntmps322 λw N H hG=>?_;refine kB 14 [0] λB2=>?_;refine call Ns_ rfl rfl λw3=>kA 1 ?_;refine ungd rfl rfl<|call Yi_ rfl rfl λw4=>kA 2 ?_;refine ungd rfl rfl<|kA 1 ?_;refine ungd rfl rfl<|call (Vk_ (⟨2,[97,46,35],[],false⟩:Rule)) rfl rfl λw5=>ungd rfl rfl ?_;refine kA 1 ?_;refine so_rt (t:=10) (p':= .bool true) (ple (congrArg PV.bool (show decide ((Qh_ (⟨2,[97,46,35],[],false⟩:Rule))=0)=true by decide +kernel))) rfl ?_;refine kA 2 ?_;refine ungd rfl rfl<|kA 1 ?_;refine ungd rfl rfl<|call (Fn.le (T6_ (⟨2,[97,46,35],[],false⟩:Rule) _ []) (A_ (ple rfl) (A_ (ple rfl) (A_ Ar_ A9_))) (ple rfl) rfl) rfl rfl λw6=>so_rt (t:=14) (p':= .bool true) (ple (congrArg PV.bool (show Qs_ (⟨2,[97,46,35],[],false⟩:Rule) [97,46,98] []=true by decide +kernel))) rfl ?_;refine kA 2 ?_;refine ungd rfl rfl<|kA 1 ?_;refine ungd rfl rfl<|call (Fn.le (T6_ (⟨2,[97,46,35],[],false⟩:Rule) _ []) (A_ (ple rfl) (A_ (ple rfl) (A_ Ar_ A9_))) (ple rfl) rfl) rfl rfl λw7=>so_rt (t:=18) (p':= .bool false) (ple (congrArg PV.bool (show Qs_ (⟨2,[97,46,35],[],false⟩:Rule) [98] []=false by decide +kernel))) rfl ?_;refine ungd rfl rfl<|kA 1 ?_;refine so_rt (t:=19) (p':= .bool true) (ple (congrArg PV.bool (show !false=true by decide +kernel))) rfl ?_;refine kA 5 ?_;refine rt1 rfl rfl (ple ?_);exact congrArg PV.bool (by first|rfl|decide +kernel)
theorem l10_Awake:Fn prog gb 312 [] (.bool true):=by
 refine kG func312 ntmps312 λw N H hG=>?_;refine kA 7 ?_;refine call l10_awake rfl rfl λw1=>kA 4 ?_;refine rt1 rfl rfl (ple ?_)
 rfl
theorem l13_awake:Fn prog gb 292 [] (.bool true):=by
 refine kG func292 ntmps292 λw N H hG=>?_;refine kA 8 ?_;refine call (Mn_ (⟨0,[97],[],[],[],0,0⟩:Mail)) rfl rfl λw1=>?_;have :=F8_ (⟨0,[97],[],[],[],0,0⟩:Mail);refine kA 9 ?_;refine call Yi_ rfl rfl λw2=>kA 1 ?_;refine ungd rfl rfl<|kA 1 ?_;refine ungd rfl rfl<|kA 1 ?_;refine so_rt (t:=11) (p':= .bool true) (ple (congrArg PV.bool (show decide ((Gt_ (⟨0,[97],[],[],[],0,0⟩:Mail))=0)=true by decide +kernel))) rfl ?_;refine kA 2 ?_;refine ungd rfl rfl<|kA 1 ?_;refine ungd rfl rfl<|kA 1 ?_;refine ungd rfl rfl<|kA 1 ?_;refine so_rt (t:=16) (p':= .bool true) (ple (congrArg PV.bool (show decide (((Bp_ (⟨0,[97],[],[],[],0,0⟩:Mail)).length:Int)=25)=true by decide +kernel))) rfl ?_;refine kA 5 ?_;refine rt1 rfl rfl (ple ?_);exact congrArg PV.bool (by first|rfl|decide +kernel)
theorem S6_:Fn prog gb 263 [] (.bool true):=by
 refine kG func263 ntmps263 λw N H hG=>?_;refine kA 7 ?_;refine call l13_awake rfl rfl λw1=>kA 4 ?_;refine rt1 rfl rfl (ple ?_)
 rfl
theorem cb244:Ad_ prog 244:=Aa_ func244 (by kernel_rfl) (by kernel_rfl)
theorem cb246:Ad_ prog 246:=Aa_ func246 (by kernel_rfl) (by kernel_rfl)
theorem grow_Shop (n:Int) (hn:0<=n/\n<=100000000:=by omega):Fo prog gb 244 [.val (.slice none 0 0), .int .i64 n] (λu=> .val u) 3 57 W_.pc ([]:List W_):=by
 refine Wf_ G_ func244 rfl ntmps244 rfl cb244 (λ_=>rfl) rfl λw N H hG=>?_;refine kA 12 ?_;refine cnd rfl (λh1=>?_) (λh1=>?_)
 . have p2:=dt h1
   exfalso;omega
 have p3:=df h1;refine kA 7 ?_;refine q1 (qcap0 G_ rfl rfl rfl) rfl λw4=>kA 1 ?_;refine q1 (qlen0 G_ rfl rfl rfl) rfl λw5=>kC 11 ?_;refine cn rfl (λp7=>?_) λp13=>?_
 . refine kA 3 ?_;refine q1 (qcap0 G_ rfl rfl rfl) rfl λw8=>q1 (qcut0 G_ rfl rfl rfl rfl rfl (by omega)) rfl λw9=>kA 1 ?_;refine ef (appz (m:=((n-(0-0))).toNat) 0 G_ rfl rfl rfl rfl rfl rfl rfl rfl rfl rfl (by omega) (by omega) (by (try simp only[]);omega) rfl rfl λu10=>?_);refine kA 1 ?_;refine q1 (qlen0 G_ rfl rfl rfl) rfl λw11=>ef (ocut W_.pc G_ rfl rfl rfl rfl rfl rfl (by omega) rfl λu12=>?_);refine kA 9 ?_;refine sw_val (t:=4) (i:=0) rfl rfl<|kA 1 ?_;refine ro1 (j:=0) rfl rfl rfl ?_
   rfl
 refine kA 8 ?_;refine sw_own (t:=4) (k:=3) (e:=57) 0 W_.pc rfl rfl ?_;refine sw_val (t:=4) (i:=0) rfl rfl<|kA 1 ?_;refine ro1 (j:=0) rfl rfl rfl ?_
 rfl
theorem Sn_ (ls:List (List W_)) (hl:ls.flatten.length<=100000000:=by first|omega|(simp;done)|(simp;omega)|(simp only[List.flatten_cons,List.flatten_nil,List.length_append,List.append_nil];simp;omega)):Fn prog gb 193 [.sl (slc W_.pc) ls] (.sl W_.pc ls.flatten):=by
 refine kG func193 ntmps193 λw N H hG=>?_;have ls_l:ls.length<=140737488355328:=w.1.1;refine kA 19 ?_;refine loop (ι:=Nat×Int) [0,2,9,10] [] (λ⟨k,n⟩=>[(3, .int .i64 n),(11, .int .i64 (k:Int))]) (λ⟨k,n⟩=>[]) (λ⟨k,n⟩=>k<=ls.length/\n=((ls.take k).flatten.length:Int)) (λ⟨k,n⟩=>ls.length-k) ⟨0,0⟩ ⟨rfl,rfl,trivial⟩ trivial ?_ ?_
 . exact⟨Nat.zero_le _,by simp⟩
 rintro⟨k,n⟩ hp1;obtain⟨hk1,hk2⟩:=hp1;have hg0:=D9_ ls k;refine kA 6 ?_;refine cn rfl (λp3=>?_) λp10=>?_
 . obtain⟨c4,hc5⟩:=getE (xs:=ls) (m:=k) (by omega);refine kA 6 ?_;refine kI k hc5 λw6=>?_;refine go G_ 19 rfl rfl ⟨(by have hg:=D9_ ls (k+1);have hfl:=congrArg List.length (B3_ (by assumption :ls[k]? = some _));simp only[List.length_append] at hfl;omega),trivial⟩ ?_;refine cnd rfl (λh7=>?_) (λh7=>?_)
   . have p8:=dt h7
     exfalso;omega
   have p9:=df h7;refine go G_ 7 rfl rfl ⟨(by have hg:=D9_ ls (k+1);have hfl:=congrArg List.length (B3_ (by assumption :ls[k]? = some _));simp only[List.length_append] at hfl;omega),trivial⟩ ?_;refine next ⟨(k+1),(n+(c4.length:Int))⟩ rfl rfl ⟨rfl,rfl,trivial⟩ trivial ?_ ?_
   . (try simp only[]);omega
   have hf:=B3_ hc5;have hg:=D9_ ls (k+1);have hfl:=congrArg List.length hf
   simp only[List.length_append] at hfl
   exact⟨by omega,by (try simp only[]);omega⟩
 refine kA 8 ?_;refine ef (ecallo 0 (grow_Shop _) rfl rfl λu12 w11=>?_);refine kA 12 ?_;refine sw_osl (t:=6) 0 rfl rfl ?_;refine loop (ι:=Nat×(List W_)×Value) [0,2,3,9,10,11,12,23,24,25,26] [] (λ⟨k,out,u_out⟩=>[(6, .osl 0),(27, .int .i64 (k:Int))]) (λ⟨k,out,u_out⟩=>[(0, .arr u_out 3 57 W_.pc out)]) (λ⟨k,out,u_out⟩=>k<=ls.length/\out=(ls.take k).flatten) (λ⟨k,out,u_out⟩=>ls.length-k) ⟨0,([]:List W_),(u12)⟩ ⟨rfl,rfl,trivial⟩ ⟨rfl,trivial⟩ ?_ ?_
 . exact⟨Nat.zero_le _,by simp⟩
 rintro⟨k,out,u_out⟩ hp13;obtain⟨hk1,hk2⟩:=hp13;refine kA 6 ?_;refine cn rfl (λp15=>?_) λp20=>?_
 . obtain⟨c16,hc17⟩:=getE (xs:=ls) (m:=k) (by omega);refine kA 6 ?_;refine kI k hc17 λw18=>?_;refine kA 7 ?_;refine ef (app G_ c16 rfl rfl rfl rfl rfl rfl rfl rfl rfl (src_l rfl (λ_=>rfl)) (by have hg:=D9_ ls (k+1);have hfl:=congrArg List.length (B3_ (by assumption :ls[k]? = some _));simp only[List.length_append] at hfl;subst hk2;(try simp only[]);omega) rfl λu19=>?_);refine go G_ 8 rfl rfl ⟨(by have hg:=D9_ ls (k+1);have hfl:=congrArg List.length (B3_ (by assumption :ls[k]? = some _));simp only[List.length_append] at hfl;omega),trivial⟩ ?_;refine next ⟨(k+1),(out++c16),(u19)⟩ rfl rfl ⟨rfl,rfl,trivial⟩ ⟨rfl,trivial⟩ ?_ ?_
   . (try simp only[]);omega
   exact⟨by omega,by (try simp only[]);rw[B3_ hc17,hk2]⟩
 refine kA 11 ?_;refine givec 0 rfl<|kA 1 ?_;refine rt1 rfl rfl (ple ?_)
 rw[hk2,Me_ (by omega)]
theorem grow_Bind (n:Int) (hn:0<=n/\n<=100000000:=by omega):Fo prog gb 246 [.val (.slice none 0 0), .int .i64 n] (λu=> .val u) 6 62 P_.pc ([]:List P_):=by
 refine Wf_ G_ func246 rfl ntmps246 rfl cb246 (λ_=>rfl) rfl λw N H hG=>?_;refine kA 12 ?_;refine cnd rfl (λh1=>?_) (λh1=>?_)
 . have p2:=dt h1
   exfalso;omega
 have p3:=df h1;refine kA 7 ?_;refine q1 (qcap0 G_ rfl rfl rfl) rfl λw4=>kA 1 ?_;refine q1 (qlen0 G_ rfl rfl rfl) rfl λw5=>kC 11 ?_;refine cn rfl (λp7=>?_) λp13=>?_
 . refine kA 3 ?_;refine q1 (qcap0 G_ rfl rfl rfl) rfl λw8=>q1 (qcut0 G_ rfl rfl rfl rfl rfl (by omega)) rfl λw9=>kA 1 ?_;refine ef (appz (m:=((n-(0-0))).toNat) 0 G_ rfl rfl rfl rfl rfl rfl rfl rfl rfl rfl (by omega) (by omega) (by (try simp only[]);omega) rfl rfl λu10=>?_);refine kA 1 ?_;refine q1 (qlen0 G_ rfl rfl rfl) rfl λw11=>ef (ocut P_.pc G_ rfl rfl rfl rfl rfl rfl (by omega) rfl λu12=>?_);refine kA 9 ?_;refine sw_val (t:=4) (i:=0) rfl rfl<|kA 1 ?_;refine ro1 (j:=0) rfl rfl rfl ?_
   rfl
 refine kA 8 ?_;refine sw_own (t:=4) (k:=6) (e:=62) 0 P_.pc rfl rfl ?_;refine sw_val (t:=4) (i:=0) rfl rfl<|kA 1 ?_;refine ro1 (j:=0) rfl rfl rfl ?_
 rfl
theorem Sl_ (ls:List (List P_)) (hl:ls.flatten.length<=100000000:=by first|omega|(simp;done)|(simp;omega)|(simp only[List.flatten_cons,List.flatten_nil,List.length_append,List.append_nil];simp;omega)):Fn prog gb 198 [.sl (slc P_.pc) ls] (.sl P_.pc ls.flatten):=by
 refine kG func198 ntmps198 λw N H hG=>?_;have ls_l:ls.length<=140737488355328:=w.1.1;refine kA 19 ?_;refine loop (ι:=Nat×Int) [0,2,9,10] [] (λ⟨k,n⟩=>[(3, .int .i64 n),(11, .int .i64 (k:Int))]) (λ⟨k,n⟩=>[]) (λ⟨k,n⟩=>k<=ls.length/\n=((ls.take k).flatten.length:Int)) (λ⟨k,n⟩=>ls.length-k) ⟨0,0⟩ ⟨rfl,rfl,trivial⟩ trivial ?_ ?_
 . exact⟨Nat.zero_le _,by simp⟩
 rintro⟨k,n⟩ hp1;obtain⟨hk1,hk2⟩:=hp1;have hg0:=D9_ ls k;refine kA 6 ?_;refine cn rfl (λp3=>?_) λp10=>?_
 . obtain⟨c4,hc5⟩:=getE (xs:=ls) (m:=k) (by omega);refine kA 6 ?_;refine kI k hc5 λw6=>?_;refine go G_ 19 rfl rfl ⟨(by have hg:=D9_ ls (k+1);have hfl:=congrArg List.length (B3_ (by assumption :ls[k]? = some _));simp only[List.length_append] at hfl;omega),trivial⟩ ?_;refine cnd rfl (λh7=>?_) (λh7=>?_)
   . have p8:=dt h7
     exfalso;omega
   have p9:=df h7;refine go G_ 7 rfl rfl ⟨(by have hg:=D9_ ls (k+1);have hfl:=congrArg List.length (B3_ (by assumption :ls[k]? = some _));simp only[List.length_append] at hfl;omega),trivial⟩ ?_;refine next ⟨(k+1),(n+(c4.length:Int))⟩ rfl rfl ⟨rfl,rfl,trivial⟩ trivial ?_ ?_
   . (try simp only[]);omega
   have hf:=B3_ hc5;have hg:=D9_ ls (k+1);have hfl:=congrArg List.length hf
   simp only[List.length_append] at hfl
   exact⟨by omega,by (try simp only[]);omega⟩
 refine kA 8 ?_;refine ef (ecallo 0 (grow_Bind _) rfl rfl λu12 w11=>?_);refine kA 12 ?_;refine sw_osl (t:=6) 0 rfl rfl ?_;refine loop (ι:=Nat×(List P_)×Value) [0,2,3,9,10,11,12,23,24,25,26] [] (λ⟨k,out,u_out⟩=>[(6, .osl 0),(27, .int .i64 (k:Int))]) (λ⟨k,out,u_out⟩=>[(0, .arr u_out 6 62 P_.pc out)]) (λ⟨k,out,u_out⟩=>k<=ls.length/\out=(ls.take k).flatten) (λ⟨k,out,u_out⟩=>ls.length-k) ⟨0,([]:List P_),(u12)⟩ ⟨rfl,rfl,trivial⟩ ⟨rfl,trivial⟩ ?_ ?_
 . exact⟨Nat.zero_le _,by simp⟩
 rintro⟨k,out,u_out⟩ hp13;obtain⟨hk1,hk2⟩:=hp13;refine kA 6 ?_;refine cn rfl (λp15=>?_) λp20=>?_
 . obtain⟨c16,hc17⟩:=getE (xs:=ls) (m:=k) (by omega);refine kA 6 ?_;refine kI k hc17 λw18=>?_;refine kA 7 ?_;refine ef (app G_ c16 rfl rfl rfl rfl rfl rfl rfl rfl rfl (src_l rfl (λ_=>rfl)) (by have hg:=D9_ ls (k+1);have hfl:=congrArg List.length (B3_ (by assumption :ls[k]? = some _));simp only[List.length_append] at hfl;subst hk2;(try simp only[]);omega) rfl λu19=>?_);refine go G_ 8 rfl rfl ⟨(by have hg:=D9_ ls (k+1);have hfl:=congrArg List.length (B3_ (by assumption :ls[k]? = some _));simp only[List.length_append] at hfl;omega),trivial⟩ ?_;refine next ⟨(k+1),(out++c16),(u19)⟩ rfl rfl ⟨rfl,rfl,trivial⟩ ⟨rfl,trivial⟩ ?_ ?_
   . (try simp only[]);omega
   exact⟨by omega,by (try simp only[]);rw[B3_ hc17,hk2]⟩
 refine kA 11 ?_;refine givec 0 rfl<|kA 1 ?_;refine rt1 rfl rfl (ple ?_)
 rw[hk2,Me_ (by omega)]
theorem cb229:Ad_ prog 229:=Aa_ func229 (by kernel_rfl) (by kernel_rfl)
theorem Rh_ (l:List Bs) (s:Bs) (hl:l.length<=100000:=by first|omega|(simp;omega)|decide +kernel):Fl prog gb 229 [.str s] (λu=> .val u) 1 9 strc l (H1_ l s):=by
 refine fl_cw G_ func229 rfl ntmps229 rfl cb229 (λ_=>rfl) rfl λw l_l u0 N H hG=>?_;have e0:=H1_.eq_1 l s;refine kA 10 ?_;refine ef (calll 0 rfl (Xs_ _ _) rfl rfl rfl λw1=>?_);refine kA 2 ?_;refine cD e0 (λp3 e4=>?_) (λp5 e6=>?_)
 . refine kA 6 ?_;refine sw_val (t:=4) (i:=0) rfl rfl<|kA 2 ?_;refine ro1 (j:=0) rfl rfl rfl ?_;exact (congrArg (λr:(List Bs)=>r) e4).symm
 refine kA 6 ?_;refine ef (bsl 1 strc [s] G_ rfl rfl rfl rfl rfl (λ_=>rfl) rfl (by decide) (by decide) rfl λu7=>?_);refine ef (app G_ [s] rfl rfl rfl rfl rfl rfl rfl rfl rfl (src_o rfl rfl) (by first|omega|(simp;omega)) rfl λu8=>?_);refine kA 3 ?_;refine sw_val (t:=4) (i:=0) rfl rfl<|kA 1 ?_;refine ro1 (j:=0) rfl rfl rfl ?_;exact (congrArg (λr:(List Bs)=>r) e6).symm
theorem L2_ (b:Ap_) (x:W_) (hs:b.Ba_.length<=1000:=by first|omega|(simp;omega)|decide +kernel):Fn prog gb 113 [.agg (Ap_.pc b), .agg (W_.pc x)] (.tup [.agg (Ap_.pc ((Bz_ b x).1)), .int .i64 ((Bz_ b x).2)]):=by
 refine kG func113 ntmps113 λw N H hG=>?_;have e0:=Bz_.eq_1 b x;generalize Bz_ b x=z at e0 ⊢;refine kB 12 [0,1,2] λB2=>?_;refine call (shop_check _) rfl rfl λw5=>?_;have :=shopE_r x;refine kA 9 ?_;refine cN e0 (λp8 e9=>?_) (λp12 e13=>?_)
 . refine kB 10 [] λ_=>?_;subst e9;exact qr2
 refine kA 7 ?_;refine call (Po_ _ _) rfl rfl λw14=>kB 16 [3] λB16=>?_;refine q1g [25,26] rfl (λhc=>saeq rfl rfl eqg57 (veq57 x ((Eo_ b.Ba_ x.name).getD W_.zero))) ⟨(λhc=>hc),(λhc=>hc),trivial⟩ rfl rfl rfl λ_=>?_;refine kC 4 ?_;refine cE e13 (λh17 e21=>?_) (λh17 e23=>?_)
 . have h18:=bl h17;have h19:=br h17;have p20:=dt h19;refine kB 10 [] λ_=>?_;subst e21;exact qr2
 refine kA 6 ?_;refine cE e23 (λh24 e25=>?_) (λh24 e27=>?_)
 . refine kB 10 [] λ_=>?_;subst e25;exact qr2
 refine kA 9 ?_;refine cD e27 (λp29 e30=>?_) (λp32 e33=>?_)
 . refine kB 10 [] λ_=>?_;subst e30;exact qr2
 refine kA 8 ?_;refine ef (bsl 4 W_.pc [x] G_ rfl rfl rfl rfl rfl (λ_=>rfl) rfl (by decide) (by decide) rfl λu34=>?_);refine give 4 rfl<|ef (bsl 4 (slc W_.pc) [b.Ba_,[x]] G_ rfl rfl rfl rfl rfl (λ_=>rfl) rfl (by decide) (by decide) rfl λu35=>?_);refine give 4 rfl<|call (Sn_ _) rfl rfl λw36=>?_;have hfl36:([b.Ba_,[x]].flatten).length=b.Ba_.length+1:=by simp only[List.flatten_cons,List.flatten_nil,List.length_append,List.length_nil,List.length_cons,Nat.add_zero,Nat.zero_add]
 refine kB 12 [] λ_=>?_;subst e33;exact qr2
theorem Ll_ (b:Ap_) (x:P_):Fn prog gb 197 [.agg (Ap_.pc b), .agg (P_.pc x)] (.int .i64 (Bn_ b x)):=by
 refine kG func197 ntmps197 λw N H hG=>?_;have e0:=Bn_.eq_1 b x;refine kB 13 [0,1] λB2=>?_;refine call (idxF_Bind _ _ _ _ (λz_4:P_=>decide (x=z_4)) (λz_4=>Xn_ x z_4)) rfl rfl λw5=>?_;have hix5:=H8_ (λz_4:P_=>decide (x=z_4)) b.binds;refine kA 4 ?_;exact rt1 rfl rfl (Am_ (λr:Int=> .int .i64 r) e0 (ple rfl))
end Go.SW.V
