/-
  A part of the proof of VaultAgain: How long an image is, of a store that keeps to its bytes. Plain Lean; no condition.
-/
import Derived.Test.YtfojlhfchpkhlaaGreatDoorVaultAgainP4
set_option maxRecDepth 100000
set_option maxHeartbeats 4000000
open Bool renaming not_false->AE,not_true->A2
open Go.IntKind renaming wrap->A0
open List renaming append_assoc->A7,append_nil->AJ,flatMap_cons->B9,getElem?_eq_getElem->AA,length_append->A1,length_cons->A3,length_nil->A6,map_append->BK,mem_cons_of_mem->AB,mem_cons_self->AG,mem_of_getElem?->A4
open UInt8 renaming ofNat->CG
namespace Go.SW.V
open Go.SW
theorem items_len:∀ l:List Z_,((l.flatMap N3_).length:Int)=iz l+l.length
 |[]=>rfl
 |x::l=>by
   have ih:=items_len l
   have e:((N3_ x).length:Int)=D0_ x.Ah_+1:=by simp only[N3_,D0_,A1,Ad_];omega
   simp only[B9,A1,A3,iz]
   omega
theorem rows_len:∀ l:List Go_,(∀ r∈l,LnOk r.l/\Bw_ r.q=0)->((l.flatMap rowB).length:Int)<=rz l+120*l.length
 |[],_=>by simp[rz]
 |r::l,h=>by
   have ih:=rows_len l λy hy=>h y (AB _ hy)
   have⟨h1,h2⟩:=h r (AG ..)
   have hq:=Tw_ h2
   have hi:=items_len r.l.items
   have h64:=h1.1
   simp only[B9,A1,A3,rz,rowB,Ad_,Q7_]
   omega
theorem rsize0:∀ (t:List Mail) (n:Int),0<=B6_ t n-n
 |[],n=>by simp[B6_]
 |m::t,n=>by
   have :=rsize0 t (n+D0_ m)
   have h:0<=D0_ m:=by unfold D0_;omega
   simp only[B6_,lt];omega
theorem rbytes0:∀ (t:List Mail) (o:Out) (n:Int),((Cb_ t o).length:Int)-o.s.length=B6_ t n-n
 |[],o,n=>by simp[Cb_,B6_]
 |m::t,o,n=>by
   have :=rbytes0 t (Af_ o (B0_ m)) (n+D0_ m)
   simp only[Cb_,B6_,lt,Af_,A1,D0_] at this ⊢
   omega
theorem rbytes_len(x:Al_):((Bu_ x).length:Int)=Cj_ x+9:=by
 have :=rbytes0 x.kept (C_ (C_ aE x.total 8) (x.kept.length:Int) 1) 0;have e:((C_ (C_ aE x.total 8) (x.kept.length:Int) 1).s.length:Int)=9:=by
   simp only[C_,A1,Ad_,A6,show numK 8=8 from by decide,show numK 1=1 from by decide];omega
 unfold Bu_ Cj_;omega
theorem up_len(a:A16_RiseR):∀ n,((upB a n).length:Int)<=uz a n+10*n
 |0=>by simp[upB,uz]
 |n+1=>by
   have ih:=up_len a n
   have h1:=rbytes_len (A16.get a (15-n))
   have h0:0<=Cj_ (A16.get a (15-n)):=by have :=rsize0 (A16.get a (15-n)).kept 0;unfold Cj_;omega
   simp only[upB,uz,A1]
   split
   . simp only[A1,Ad_];omega
   . simp only[A6];omega
theorem stk_len{s:I_}{b:Int}(hs:StkOk s)(hq:RoB s)(hk:KOk b s):((X_ s).length:Int)<=b+1200:=by
 rw[ke hs hq];have h1:=rows_len s.rows λr hr=>⟨hs.1.2.1 r hr,hq r hr⟩;have h2:=up_len s.rises 16;have h3:=hs.1.1;have h4:=hk.2;simp only[A1,Ad_];omega
theorem binds_len:∀ l:List Q_,(∀ y∈l,BiB y)->(l.flatMap Mi_).length<=1200*l.length
 |[],_=>by simp
 |y::l,h=>by
   have ih:=binds_len l λz hz=>h z (AB _ hz)
   have⟨h1,h2,h3,h4,h5⟩:=h y (AG ..)
   have hn:=Om_ h2
   have hh:=Gw_ y.want
   simp only[B9,A1,A3,Mi_,Ad_,Q7_]
   omega
theorem shops_len:∀ l:List W_,(∀ s∈l,L2_ s=0/\0<=s.sort)->(l.flatMap Rh_).length<=600*l.length
 |[],_=>by simp
 |y::l,h=>by
   have ih:=shops_len l λz hz=>h z (AB _ hz)
   have hf:=U0_ (h y (AG ..)).1
   simp only[B9,A1,A3,Rh_,Ad_,Q7_]
   omega
theorem notes_len:∀ l:List Eb_,(∀ x∈l,x.text.length<=64/\0<=x.kind/\x.kind<=255)->(l.flatMap Rc_).length<=80*l.length
 |[],_=>by simp
 |y::l,h=>by
   have ih:=notes_len l λz hz=>h z (AB _ hz)
   have hf:=(h y (AG ..)).1
   simp only[B9,A1,A3,Rc_,Ad_,Q7_]
   omega
theorem image_len{x:Ab_}{b:Int}(hi:ImOk x)(hk:KOk b x.E_)(hb:b<=65536):(Az_ x).length<=131072:=by
 have⟨z,hz,e⟩:=ib_eq hi;have⟨h1,h2,h3,h4,h5,h6⟩:=hi;have l1:=stk_len h3 h4 hk;have l2:=binds_len x.book.binds h2.2;have l3:=shops_len x.book.Bs_ h2.1;have l4:=notes_len x.notes.kept h6;have l5:=h1.1;have l6:=h1.2.1;rw[e];simp only[A1,Ad_,hz,bookB,K8_];omega
theorem goes_rt{p:F_}{k:Int}:∀ (g:List G_) (s x:D_),(∀ d∈g,DdOk d/\DdF d/\DdG d)->Rt p k s->StI p k s->goes g s=some x->Rt p k x/\StI p k x
 |[],s,x,_,h,hs,e=>by cases e;exact⟨h,hs⟩
 |d::t,s,x,hd,h,hs,e=>by
   have⟨h1,h2,h3⟩:=hd d (AG ..)
   by_cases q:(H_ s d).2.2=0
   . simp only[goes,q,if_true] at e
     exact goes_rt t _ x (λy hy=>hd y (AB _ hy)) (rt_do h h1 h2) (doI hs h3) e
   . simp only[goes,if_neg q] at e;cases e
structure VcI(p:F_)(r:Int)(v:Ay_)(s0:D_)(gs ws:List (List G_)):Prop where
 st:StI p r v.store
 rt:Rt p r v.store
 r0:Rt p r s0
 go:∀ g∈gs++ws,GrOk g
 lc:LcI v.log (Az_ (S_ s0)::gs.map pk) (ws.map pk)
 eq:Wu_ (gs++ws) s0=some v.store
theorem VcI.vi{p:F_}{r:Int}{v:Ay_}{s0:D_}{gs ws:List (List G_)}(h:VcI p r v s0 gs ws):VI p r v:=⟨h.st,h.lc.lg⟩
theorem im_sz{p:F_}{r:Int}{y:D_}(hy:StI p r y):Az_ (S_ y)≠[]/\(Az_ (S_ y)).length<=131072:=by
 have h1:=im_pos (im_st hy.1 hy.2.1);refine⟨λe=>?_,image_len (im_st hy.1 hy.2.1) hy.2.2.2.2.1 hy.2.2.2.2.2⟩;rw[e] at h1;simp at h1
theorem ot_next{l:C5_}{rs ws:List Bs}(h:LcI l rs ws)(hg:l.gen<1000):OtI l.d.lasts (if l.A4_=0 then 0 else 1) (l.gen+1):=by
 have⟨a,ha,hab,hA,_⟩:=h.ar;have e:(if l.A4_=0 then 0 else 1)=a:=by
   rw[hab]
   exact yK
 exact tC
theorem all_l0_go(v:Ay_)(l:List G_):∀ (t:List G_) (k:Nat) (out:List Aq_) (s:D_),(goes t s=none/\∃ q,B5_ v l t k out s=q/\q.2.2.2=v/\q.2.2.1≠0)\/∃ x out' k',goes t s=some x/\B5_ v l t k out s=B5_ v l [] k' out' x
 |[],k,out,s=> .inr ⟨s,out,k,rfl,rfl⟩
 |d::t,k,out,s=>by
   rw[B5_.eq_2];unfold lt
   by_cases e:(H_ s d).2.2=0
   . simp only[goes,e,if_true,decide_true,A2,cond_false]
     exact all_l0_go v l t (k+1) _ _
   . left
     simp only[goes,if_neg e,e,decide_false,AE,cond_true]
     exact⟨rfl,_,rfl,rfl,e⟩
theorem all_c{p:F_}{r:Int}{v:Ay_}{s0:D_}{gs ws:List (List G_)}(h:VcI p r v s0 gs ws)(hg:v.log.gen<1000){g:List G_}(hd:∀ d∈g,DWf d/\DdOk d/\DdF d/\DdG d)(hp:(∀ d∈g,Fj_ d=0)->(D4_ g).2=0/\0<(D4_ g).1.length/\(D4_ g).1.length<=131072)(hl:g.length<=255)
   (he:∀ (s x:D_),goes g s=some x->∀ d∈g,Fj_ d=0) :
   ∃ q,C7_ v g=q/\((q.2.2.2=v/\q.2.2.1≠0)\/(q.2.2.1=0/\q.2.2.2.log.gen=v.log.gen/\VcI p r q.2.2.2 s0 gs (ws++[g]))\/(q.2.2.1=0/\q.2.2.2.log.gen=v.log.gen+1/\goes g v.store=some q.2.2.2.store/\VcI p r q.2.2.2 q.2.2.2.store [] [])):=by
 have hrd:He_ v.log=true:=h.lc.lg.2.2.1;have h5:¬(255:Int)<(g.length:Int):=by omega
 have e0:C7_ v g=B5_ v g g 0 [] v.store:=by
   unfold C7_ lt
   rw[hrd]
   simp only[h5,decide_false,A2,cond_false]
 rw[e0]
 rcases all_l0_go v g g 0 [] v.store with ⟨_,q,e,e1,e2⟩|⟨x,out,k',e,e1⟩
 exact⟨q,e, .inl ⟨e1,e2⟩⟩
 . rw[e1]
   have hE:=he _ _ e
   have⟨p1,p2,p3⟩:=hp hE
   have⟨hrx,hsx⟩:=goes_rt g v.store x (λd q=>(hd d q).2) h.rt h.st e
   have hGr:GrOk g:=⟨λd q=>⟨(hd d q).1,hE d q,(hd d q).2⟩,p1,by intro q;unfold pk at q;rw[q] at p2;simp at p2,p3⟩
   rw[B5_.eq_1];unfold lt
   simp only[p1,decide_true,A2,cond_false]
   rcases append_c h.lc hGr.2.2.1 hGr.2.2.2 with ea|⟨l',ea,hl',hg'⟩
   . have ea':B1_ v.log [(D4_ g).1]=(17,v.log):=ea
     rw[ea']
     simp only[decide_true,cond_true]
     have⟨i1,i2⟩:=im_sz hsx
     rcases begin_c h.lc.lg.1 h.lc.lg.2.1 h.lc.lg.2.2.2.1 ⟨by have :=h.lc.ge;omega,hg⟩ i1 i2 (ot_next h.lc hg) with eb|⟨d',a,eb,hb⟩
     rw[eb]
     have hn:¬(17:Int)=0:=by decide
     simp only[hn,decide_false,AE,cond_true]
     exact⟨_,rfl, .inl ⟨rfl,hn⟩⟩
     rw[eb]
     simp only[decide_true,A2,cond_false]
     exact⟨_,rfl, .inr (.inr ⟨rfl,rfl,e,⟨hsx,hrx,hrx,λg h=>qS,hb,rfl⟩⟩)⟩
   have ea':B1_ v.log [(D4_ g).1]=(0,l'):=ea
   rw[ea']
   have hn:¬(0:Int)=17:=by decide
   simp only[hn,decide_false,decide_true,A2,cond_false]
   refine⟨_,rfl, .inr (.inl ⟨rfl,hg',⟨hsx,hrx,h.r0,λq hq=>?_,?_,?_⟩⟩)⟩
   . rw[<- A7] at hq
     rcases List.mem_append.1 hq with hq|hq
     exact h.go q hq
     rw[List.mem_singleton.1 hq];exact hGr
   rw[BK];exact hl'
   rw[<- A7,goesG_app _ _ _ _ h.eq]
   simp only[Wu_,e]
theorem commit_v{p:F_}{r:Int}{v:Ay_}{s0:D_}{gs ws:List (List G_)}(h:VcI p r v s0 gs ws):∃ l',Dn_ v=(0,(⟨v.store,l'⟩:Ay_))/\l'.gen=v.log.gen/\VcI p r (⟨v.store,l'⟩:Ay_) s0 (gs++ws) []:=by
 have⟨l',e,hl,hg⟩:=commit_c h.lc;unfold Dn_ lt;rw[e];refine⟨l',rfl,hg,⟨h.st,h.rt,h.r0,λg q=>h.go g pX,?_,by rw[AJ];exact h.eq⟩⟩;rw[BK];exact hl
theorem pol_base{p:F_}(h:(PV.agg (F_.pc p)).wf):∀ y∈p.places,U64 y.base:=λy hy=>by
 have :=h.2.2.1.2 y hy
 exact this.2.2.2.2.1
theorem deed_gk{l:List G_}{k:Nat}{d:G_}(h:(PV.sl G_.pc l).wf)(ha:DdA l)(hd:l[k]? = some d):DdG d/\0<=d.kind:=
 ⟨⟨dd_mem ha hd,(Wn_ h hd).1,(Wn_ h hd).2,deed_hops h hd,deed_sort h hd,deed_want h hd⟩,(h.2 d (A4 hd)).1.1⟩
theorem vi_pre{p:F_}{r:Int}{v:Ay_}(h:VI p r v):DwOk v.log.d/\(v.log.d.waits.length<=50000/\0<=v.log.d.D8_/\v.log.d.lasts.length<=100000/\v.log.done.length<=400000/\v.log.waits.length<=400000/\(-1<=v.log.A4_/\v.log.A4_<=1))/\(v.log.ready=true->0<=v.log.A4_)/\StOk v.store/\StB v.store:=by
 have⟨⟨h1,h2,_⟩,⟨_,_,a1,a2,a3⟩,b1,b2,b3,b4,b5,b6⟩:=h;exact⟨a3,⟨by rw[b1];simp,a1,by omega,by omega,by omega,by omega,by omega⟩,λ_=>by omega,h1,h2⟩
theorem dk_pre{d:Bi_}(h:Em_ 120=d):DwOk d/\(d.lasts.length<=100000/\d.waits.length<=50000/\0<=d.D8_)/\(H0_ d).2.1=[]:=by
 subst h;have⟨_,_,a1,a2,a3⟩:=dkI_new;exact⟨a3,⟨by omega,by show ([]:List _).length<=50000;simp,a1⟩,wopen_new 120⟩
theorem with_st{p:F_}{r:Int}{v:Ay_}{y:Ab_}{s:D_}(h:VI p r v)(hy:L_ v=y)(hs:s=Aw_ p r y):StOk s/\StB s:=by
 have e:s=v.store:=by
   have⟨⟨_,_,h3,h4,_⟩,_⟩:=h
   rw[hs,<- hy,<- h3,<- h4];rfl
 have⟨⟨h1,h2,_⟩,_⟩:=h;rw[e];exact⟨h1,h2⟩
set_option maxRecDepth 8000
def VcX(p:F_)(r:Int)(v:Ay_):Prop:=∃ s0 gs ws,VcI p r v s0 gs ws
def VcC(p:F_)(r:Int)(v:Ay_):Prop:=∃ s0 gs,VcI p r v s0 gs []
theorem VcX.vi{p:F_}{r:Int}{v:Ay_}(h:VcX p r v):VI p r v:=by have⟨_,_,_,h⟩:=h;exact h.vi
theorem VcC.x{p:F_}{r:Int}{v:Ay_}(h:VcC p r v):VcX p r v:=by have⟨_,_,h⟩:=h;exact⟨_,_,_,h⟩
theorem ot_zero{d:Bi_}(h:DkI d)(h0:Dk0 d){g:Int}:OtI d.lasts 1 g:=by
 intro q;have e:=rd_e (l:=(⟨d,-1,0,false,false,[],[]⟩:C5_)) (a:=1) h h0.2 qD;rw[wread_0 (l:=(⟨d,-1,0,false,false,[],[]⟩:C5_)) h0] at e;simp only at e;rw[<- e] at q;cases q
theorem vcx_gen{p:F_}{r tick:Int}{D:Bi_}(hDI:DkI D)(h0:Dk0 D)(hwo:H0_ D=(true,[],[],0,D,(⟨D,-1,0,false,false,[],[]⟩:C5_))){s:D_}(hN:At_ p r=s)(hs:StI p r s)(hr:Rt p r s)(hl:(Az_ (S_ s)).length<=1000):∃ v,Dl_ p r D tick=(true,0,v.log.d,v)/\VcX p r v/\v.log.gen=1/\v.store=s:=by
 have hi:=im_sz hs;have hO:OtI D.lasts (if (-1:Int)=0 then 0 else 1) (0+1):=by
   rw[if_neg qF];exact ot_zero hDI h0
 unfold Dl_ lt;rw[hwo,hN];simp only[decide_true,A2,cond_true,cond_false]
 rcases begin_c (l:=(⟨D,-1,0,false,false,[],[]⟩:C5_)) (x:=Az_ (S_ s)) hDI h0.2 rfl ⟨by simp,by simp⟩ hi.1 hi.2 hO with e|⟨d',a,e,hL⟩
 . exfalso
   have :=begin_i (l:=(⟨D,-1,0,false,false,[],[]⟩:C5_)) (Az_ (S_ s)) hDI Z ⟨by simp,by simp⟩
   rw[e,seg1 hi.1 hi.2] at this
   rcases this with ⟨_,⟨_,q⟩|⟨q,_⟩⟩|⟨d',a,q,_⟩
   rw[Uz_] at q;omega
   exact q Z
   have :=congrArg Prod.fst q;simp at this
 rw[e];simp only[decide_true,A2,cond_false];refine⟨⟨s,⟨d',a,0+1,true,false,segs [Az_ (S_ s)],[]⟩⟩,rfl,⟨s,[],[],⟨hs,hr,hr,λg h=>qS,hL,rfl⟩⟩,rfl,rfl⟩
theorem vcx_new{p:F_}{r tick:Int}(hp:PoOk p)(hk:0<=r/\r<p.places.length)(hb:∀ y∈p.places,U64 y.base):∃ v,Dl_ p r (Em_ 120) tick=(true,0,v.log.d,v)/\VcX p r v/\v.log.gen=1/\v.store=At_ p r:=
 vcx_gen dkI_new (dknew0 120) (wopen_new' 120 qF qF) Z (stI_new hp hk) (rt_new hp hk hb) (img_new hp hk)
theorem dwf_of{d:G_}(h:PV.wfs (G_.pc d)):DWf d:=
 ⟨G_.pwf h,λp hp=>Pair.pwf (h.2.2.2.2.2.2.2.2.2.2.2.2.2.1.2 p hp),λp hp=>Pair.pwf (h.2.2.2.2.2.2.2.2.2.2.2.2.2.2.2.2.2.2.2.2.2.2.2.2.1.2 p hp)⟩
theorem vcx_do{p:F_}{r:Int}{v:Ay_}{d:G_}(h:VcX p r v)(hg:v.log.gen<1000)(h1:DWf d)(h2:DdOk d)(h3:DdF d)(h4:DdG d):VcX p r (Et_ v d).2.2/\v.log.gen<=(Et_ v d).2.2.log.gen/\(Et_ v d).2.2.log.gen<=v.log.gen+1:=by
 have⟨s0,gs,ws,h⟩:=h;have e:(Et_ v d).2.2=(C7_ v [d]).2.2.2:=by
   unfold Et_ lt
   by_cases q:(C7_ v [d]).2.2.1=0
   . simp only[q,decide_true,A2,cond_false]
   . simp only[q,decide_false,AE,cond_true]
 have hk:0<=d.kind:=ddw_k h1;have⟨q,e1,e2⟩:=all_c (g:=[d]) h hg (λy hy=>by rw[List.mem_singleton.1 hy];exact⟨h1,h2,h3,h4⟩)
   (λhE=>by
     have hd:=hE d (AG ..)
     have⟨a1,a2,a3⟩:=pack_l0 [d] [CG ((A0 .u8 (([d].length:Nat):Int))).toNat] (λy hy=>by rw[List.mem_singleton.1 hy];exact⟨hd,hk⟩)
     have e:D4_ [d]=D5_ [d] [CG ((A0 .u8 (([d].length:Nat):Int))).toNat]:=rfl
     rw[e]
     generalize D5_ [d] [CG ((A0 .u8 (([d].length:Nat):Int))).toNat]=q at a1 a2 a3 ⊢
     simp only[A3,A6] at a2 a3
     exact⟨a1,by omega,by omega⟩)
   qI (λs x hx y hy=>by
     rw[List.mem_singleton.1 hy]
     by_cases q:(H_ s d).2.2=0
     . exact do_e q
     . simp only[goes,if_neg q] at hx;cases hx)
 rw[e,e1]
 rcases e2 with ⟨e2,_⟩|⟨_,eg,e2⟩|⟨_,eg,_,e2⟩
 rw[e2];exact⟨⟨_,_,_,h⟩,by omega,by omega⟩;exact⟨⟨_,_,_,e2⟩,by omega,by omega⟩;exact⟨⟨_,_,_,e2⟩,by omega,by omega⟩
theorem vcx_com{p:F_}{r:Int}{v:Ay_}(h:VcX p r v):∃ l',Dn_ v=(0,(⟨v.store,l'⟩:Ay_))/\l'.gen=v.log.gen/\VcC p r (⟨v.store,l'⟩:Ay_):=by
 have⟨s0,gs,ws,h⟩:=h;have⟨l',e,e1,e2⟩:=commit_v h;exact⟨l',e,e1,_,_,e2⟩
theorem wake_ok{tick:Int}(ht:U64 tick):DdOk (Y2_ tick)/\DdF (Y2_ tick)/\DdG (Y2_ tick):=
 have z:(0:Int)<=0:=by decide
 have z5:(0:Int)<=255:=by decide
 have zu:(0:Int)<=18446744073709551615:=by decide
 ⟨lit_g.1,⟨ht,⟨z,z5⟩,z,z,λ_ h=>qS,⟨⟨⟨z,zu⟩,⟨z,zu⟩,z,z5⟩,λ_ h=>qS⟩,⟨z,zu⟩,⟨z,zu⟩,⟨z,zu⟩,z⟩,lit_g⟩
theorem vcx_again{p:F_}{r tick:Int}{v:Ay_}(h:VcC p r v)(hg:v.log.gen<1000)(ht:U64 tick){d:Bi_}(hd:DkI d)(hw:d.waits=[])(hl:d.lasts=v.log.d.lasts) :
   (Dl_ p r d tick).1=false/\(Dl_ p r d tick).2.1=17\/∃ w,Dl_ p r d tick=(true,0,w.log.d,w)/\w.store=(H_ v.store (Y2_ tick)).1/\VcX p r w/\w.log.gen=v.log.gen+1:=by
 have⟨s0,gs,h⟩:=h;have hlc:LcI (⟨d,v.log.A4_,v.log.gen,v.log.ready,v.log.broken,v.log.done,v.log.waits⟩:C5_) (Az_ (S_ s0)::gs.map pk) []:=by
   have⟨⟨a1,a2,a3,a4,a5,a6,a7⟩,b1,b2,b3,b4,b5,b6,b7,b8⟩:=h.lc
   exact⟨⟨hd,hw,a3,a4,a5,a6,a7⟩,b1,b2,b3,b4,b5,b6,b7,by simp only[hl];exact b8⟩
 have⟨a,ha,eo,hO⟩:=open_c hlc hg;simp only at eo hO;have e1:gt (Az_ (S_ s0)::gs.map pk) 0=Az_ (S_ s0):=rfl;have e2:(Az_ (S_ s0)::gs.map pk).drop 1=gs.map pk:=rfl;rw[e1,e2] at eo;have hgo:Wu_ gs s0=some v.store:=by have :=h.eq;rwa [AJ] at this
 have hrep:=replay_c h.r0 (λg q=>h.go g (by rwa [AJ])) hgo;have hi0:Az_ (S_ s0)≠[]:=(hlc.ro _ (AG ..)).1;have⟨w1,w2,w3⟩:=wake_ok ht;have hs3:=doI (d:=Y2_ tick) h.st w3;have hr3:=rt_do (d:=Y2_ tick) h.rt w1 w2;have⟨i1,i2⟩:=im_sz hs3;unfold Dl_ lt;rw[eo];simp only[hi0,hrep,decide_true,decide_false,A2,AE,cond_true,cond_false]
 rcases begin_c (l:=(⟨d,(a:Int),v.log.gen,false,false,[],[]⟩:C5_)) (x:=Az_ (S_ (H_ v.store (Y2_ tick)).1)) hd hw rfl ⟨by have :=h.lc.ge;simp only[];omega,hg⟩ i1 i2 hO with e|⟨d',b,e,hL⟩
 left;rw[e];have hn:¬(17:Int)=0:=by decide
 simp only[hn,decide_false,AE,cond_true];exact⟨trivial,trivial⟩;right;rw[e];simp only[decide_true,A2,cond_false];exact⟨⟨(H_ v.store (Y2_ tick)).1,⟨d',b,v.log.gen+1,true,false,segs [Az_ (S_ (H_ v.store (Y2_ tick)).1)],[]⟩⟩,rfl,rfl,⟨_,[],[],⟨hs3,hr3,hr3,λg h=>qS,hL,rfl⟩⟩,rfl⟩
theorem down_e{d:Bi_}(h:DkI d)(hw:d.waits=[])(cut:Int):Cq_ d cut=(⟨d.lasts,[],false,d.armed,d.D8_,d.cut⟩:Bi_):=by
 unfold Cq_ Fy_ lt;rw[h.1,hw];rfl
theorem up_e{d:Bi_}(h:DkI d):DkI (G0_ (⟨d.lasts,[],false,d.armed,d.D8_,d.cut⟩:Bi_))/\(G0_ (⟨d.lasts,[],false,d.armed,d.D8_,d.cut⟩:Bi_)).waits=[]/\(G0_ (⟨d.lasts,[],false,d.armed,d.D8_,d.cut⟩:Bi_)).lasts=d.lasts:=
 ⟨⟨rfl,rfl,Int.le_refl 0,h.2.2.2.1,λ_ q=>(by cases q)⟩,rfl,rfl⟩
theorem vx_open{p:F_}{r:Int}{d:Bi_}{x:Bool×Int×Bi_×Ay_}(hp:PoOk p)(hk:0<=r/\r<p.places.length)(hb:∀ y∈p.places,U64 y.base)(hd:Em_ 120=d)(h:Dl_ p r d 0=x):x.1=true/\x.2.1=0/\VcX p r (⟨x.2.2.2.store,(⟨x.2.2.1,x.2.2.2.log.A4_,x.2.2.2.log.gen,x.2.2.2.log.ready,x.2.2.2.log.broken,x.2.2.2.log.done,x.2.2.2.log.waits⟩:C5_)⟩:Ay_)/\x.2.2.2.log.gen=1:=by
 have⟨v,e,hv,hg,_⟩:=vcx_new (p:=p) (r:=r) (tick:=0) hp hk hb;rw[hd,h] at e;rw[e];exact⟨rfl,rfl,hv,hg⟩
theorem vx_do{p:F_}{r:Int}{v:Ay_}{l:List G_}{k:Nat}{d:G_}{x:Aq_×Int×Ay_}(h:VcX p r v)(hg:v.log.gen<1000)(hw:(PV.sl G_.pc l).wf)(ha:DdA l)(hd:l[k]? = some d)(e:Et_ v d=x):VcX p r x.2.2/\v.log.gen<=x.2.2.log.gen/\x.2.2.log.gen<=v.log.gen+1:=by
 rw[<- e];have hc:=hw.2 d (A4 hd);have hg2:=(deed_gk hw ha hd).1;exact vcx_do h hg (dwf_of hc) hg2.1 (deed_f1 hc) hg2
theorem vx_com{p:F_}{r:Int}{v:Ay_}{x:Int×Ay_}(h:VcX p r v)(e:Dn_ v=x):x.1=0/\VcC p r x.2/\x.2.log.gen=v.log.gen:=by
 have⟨l',e1,e2,e3⟩:=vcx_com h;rw[e1] at e;rw[<- e];exact⟨rfl,e3,e2⟩
def DnI(d d1:Bi_):Prop:=DkI d/\d1=(⟨d.lasts,[],false,d.armed,d.D8_,d.cut⟩:Bi_)
theorem dw_down{p:F_}{r:Int}{v:Ay_}{cut:Int}{d1:Bi_}(h:VcC p r v)(e:Cq_ v.log.d cut=d1):DnI v.log.d d1:=by
 have⟨s0,gs,h⟩:=h;exact⟨h.lc.lg.1,by rw[<- e];exact down_e h.lc.lg.1 h.lc.lg.2.1 cut⟩
theorem dw_up{d d1 d2:Bi_}(h:DnI d d1)(e:G0_ d1=d2):DkI d2/\d2.waits=[]/\d2.lasts=d.lasts:=by
 obtain⟨h1,rfl⟩:=h;rw[<- e];exact up_e h1
theorem dk_op{d:Bi_}(h:DkI d/\d.waits=[]):DwOk d/\(d.lasts.length<=100000/\d.waits.length<=50000/\0<=d.D8_):=by
 have⟨⟨_,_,a1,a2,a3⟩,a4⟩:=h;exact⟨a3,by omega,by rw[a4];simp,a1⟩
theorem wk_st{s:D_}{tick:Int}{x:D_×Aq_×Int}(h1:StOk s)(h2:StB s)(e:H_ s (Y2_ tick)=x):StOk x.1/\StB x.1:=by
 have :=lit_g (k:=11) (t:=tick);rw[<- e];exact⟨Uh_ h1 this.1 this.2.2.2.1,doB ⟨this.2.1,this.2.2.1⟩ h1 this.2.2.2.1 this.2.2.2.2.1 this.2.2.2.2.2 h2⟩
theorem vx_two{p:F_}{r tick:Int}{v:Ay_}{d:Bi_}{x:Bool×Int×Bi_×Ay_}(h:VcC p r v)(hg:v.log.gen<1000)(ht:0<=tick/\tick<=18446744073709551615)(hd:DkI d/\d.waits=[]/\d.lasts=v.log.d.lasts)(e:Dl_ p r d tick=x):(x.1=false->x.2.1=17)/\(x.1=true->x.2.1=0/\StOk x.2.2.2.store/\StB x.2.2.2.store):=by
 rcases vcx_again h hg ht hd.1 hd.2.1 hd.2.2 with ⟨e1,e2⟩|⟨w,e1,e2,e3,_⟩
 rw[<- e];exact⟨λ_=>e2,λq=>(by rw[e1] at q;cases q)⟩;rw[e1] at e;rw[<- e];exact⟨λq=>(by cases q),λ_=>⟨rfl,e3.vi.1.1,e3.vi.1.2.1⟩⟩
end Go.SW.V
namespace Go.SW
variable{P:Program}{n:Nat}{N:Rest}{H0:Env}{all rest:List Oper}{Q:Qs}{ks:List Kt}{T ty d:Nat}{pos:String}{af:Array Edge}{x:Operand}{K:St->Prop}
theorem sel_pick(L:Ls)(js:List Nat):selL L js (Mn_ L js)=L:=funext λq=>by
 unfold selL
 cases h:posL js q with
 |none=>rfl
 |some a=>show Mn_ L js a=L q;unfold Mn_;rw[Tv_ h]
theorem gcallg{ι:Type}{f:FuncId}{args args':List PV}{as0:Array Operand}{ats:Array TypeId}{pre:List Blk}{Φ:ι->Prop}{res:ι->PV}{A:ι}{s:St}{j:Nat}{want g:Bool}(js:List Nat)(hg:gOp s all j want=some g)(h:g=true->Fg P H0.g f args pre Φ res (λ_=>pre))(hr:∀ i,Φ i->A=i)
   (ha:argsP (strG (Mc_ as0.toList) s.F) x as0.toList=some (f,args')) (hc:AllP (Rp_ s.F g (Mc_ as0.toList) [])) (hno:Ns_ s.F (Mc_ as0.toList)=true) (he:args'=args.map (renP js)) (hj:M6_ js=true) (hl:js.length=pre.length) (hL:BLe (js.map s.L) (pre.map (renB js))) (hi:inBs js.length pre=true) (hia:inPs js.length args=true) (hd:Nat.blt d n=true) (hn2:(renR js (res A)).noOsl=true)
   (kk:K ⟨updp (Ry_ js s.F) d (.gv g (renR js (res A))),newL js pre s.L⟩):E2 P n N H0 all ⟨some d, .call ⟨.value x,as0,ats⟩,ty,pos,af,some (j,want)⟩ js s K:=by
 intro F H L hab;have⟨c,b,hy,hge⟩:=Pw_ hab hg;have hn:=P9_ hj;have hs:=ble_at hL;have hpre:∀ (a:Nat) B,pre[a]? = some B->SimB (lofB pre) H B (Mn_ L js a):=λa B hB=>by
   have ha':a<js.length:=by rw[hl];exact (List.getElem?_eq_some_iff.1 hB).1
   have e1:js[a]? = some js[a]:=AA ha'
   have e2:lofB pre a=B:=by unfold lofB;rw[Gu_,hB]
   have h5:=hab.l js[a]
   have h6:=hs a js[a] pW
   rw[e2] at h6
   have h7:Mn_ L js a=L js[a]:=by unfold Mn_;rw[e1]
   rw[h7]
   rcases h6 with h6|h6
   . subst h6;trivial
   . exact xK
 refine op1_gd3 hy hd (λe=>?_) (λe=>?_);have hgt:=hge.trans e;have hF:=h hgt;have⟨us,h1,h2⟩:=If_ (ats:=ats) (N5_ hab.f (λt ht c v e=>(J0_ hc).2 t ht c v e hgt) (Ja_ hno)) ha hF.cb;subst he;have h3:Sims H args us:=⟨by simpa using h1.1,λi p v hp hv=>Tz_ (λl b o q=>Um_ (Qu_ hia hp) l (.inl ⟨b,o,q⟩)) (h1.2 i (renP js p) v pV hv)⟩;intro a w hA hm;rw[if_pos qM];unfold Oper.wp;rw[hA.eval,h2];refine (hF.run N H L w js us hab.g h3 hn hl hpre hm).mono λe' w' ⟨i,H',M,v,he',hi',hv,hM,hl',hm'⟩=>?_;subst he';obtain rfl :=hr i hi';have g1:=(hab.mono hl').turnJ (M:=M) hn hl hM;refine⟨_,H',_,hA.put qO v,hm',hl',λq hq=>?_,_,Abs.put (p:= .gv g (renR js (res A))) g1 d ?_,kk⟩;exact tR;rw[hgt];exact Sim.gvt (renR_sim hv);exact yW
end Go.SW
namespace Go.SW.V
open Go.SW
variable{P:Program}{n:Nat}{N:Rest}{H0:Env}{all rest:List Oper}{Q:Qs}{ks:List Kt}{fF:Nat->PV}{fL:Nat->Blk}{T ty d:Nat}{pos:String}{af:Array Edge}{x:Operand}{K:St->Prop}
theorem gcallg{ι:Type}{f:FuncId}{args args':List PV}{as0:Array Operand}{ats:Array TypeId}{pre:List Blk}{Φ:ι->Prop}{res:ι->PV}{A:ι}{j:Nat}{want g:Bool}(js:List Nat)(hg:gOp ⟨fF,fL⟩ all j want=some g)(h:g=true->Fg P H0.g f args pre Φ res (λ_=>pre))(hr:∀ i,Φ i->A=i)
   (ha:argsP (strG (Mc_ as0.toList) fF) x as0.toList=some (f,args')) (hc:AllP (Rp_ fF g (Mc_ as0.toList) [])) (hno:Ns_ fF (Mc_ as0.toList)=true) (he:args'=args.map (renP js)) (hj:M6_ js=true) (hl:js.length=pre.length) (hL:BLe (js.map fL) (pre.map (renB js))) (hi:inBs js.length pre=true) (hia:inPs js.length args=true) (hd:Nat.blt d n=true) (hn2:(renR js (res A)).noOsl=true)
   (kk:K ⟨updp (Ry_ js fF) d (.gv g (renR js (res A))),newL js pre fL⟩):E2 P n N H0 all ⟨some d, .call ⟨.value x,as0,ats⟩,ty,pos,af,some (j,want)⟩ js ⟨fF,fL⟩ K:=by
 intro F H L hab;have⟨c,b,hy,hge⟩:=Pw_ hab hg;have hn:=P9_ hj;have hs:=ble_at hL;have hpre:∀ (a:Nat) B,pre[a]? = some B->SimB (lofB pre) H B (Mn_ L js a):=λa B hB=>by
   have ha':a<js.length:=by rw[hl];exact (List.getElem?_eq_some_iff.1 hB).1
   have e1:js[a]? = some js[a]:=AA ha'
   have e2:lofB pre a=B:=by unfold lofB;rw[Gu_,hB]
   have h5:=hab.l js[a]
   have h6:=hs a js[a] pW
   rw[e2] at h6
   have h7:Mn_ L js a=L js[a]:=by unfold Mn_;rw[e1]
   rw[h7]
   rcases h6 with h6|h6
   . subst h6;trivial
   . exact xK
 refine op1_gd3 hy hd (λe=>?_) (λe=>?_);have hgt:=hge.trans e;have hF:=h hgt;have⟨us,h1,h2⟩:=If_ (ats:=ats) (N5_ hab.f (λt ht c v e=>(J0_ hc).2 t ht c v e hgt) (Ja_ hno)) ha hF.cb;subst he;have h3:Sims H args us:=⟨by simpa using h1.1,λi p v hp hv=>Tz_ (λl b o q=>Um_ (Qu_ hia hp) l (.inl ⟨b,o,q⟩)) (h1.2 i (renP js p) v pV hv)⟩;intro a w hA hm;rw[if_pos qM];unfold Oper.wp;rw[hA.eval,h2];refine (hF.run N H L w js us hab.g h3 hn hl hpre hm).mono λe' w' ⟨i,H',M,v,he',hi',hv,hM,hl',hm'⟩=>?_;subst he';obtain rfl :=hr i hi';have g1:=(hab.mono hl').turnJ (M:=M) hn hl hM;refine⟨_,H',_,hA.put qO v,hm',hl',λq hq=>?_,_,Abs.put (p:= .gv g (renR js (res A))) g1 d ?_,kk⟩;exact tR;rw[hgt];exact Sim.gvt (renR_sim hv);exact yW
def rl(l:List (Nat×UInt8)):Bs:=l.flatMap λx=>List.replicate x.1 x.2
abbrev p25:F_:=aW
abbrev d25n:G_:=bO
abbrev d25w:G_:=(⟨11,0,aO,aM,aP,[],0,0,0,0,0,aJ,[]⟩:G_)
def d25a:Bi_:=⟨rl [(1,83),(1,84),(1,82),(1,87),(7,0),(1,1),(1,36),(1,130),(1,170),(1,105),(1,165),(50,0),(1,225),(5,0),(1,10),(7,0),(1,1),(211,0),(1,189),(1,15),(1,98),(1,114),(1,165),(4822,0)],[],true,false,0,0⟩
def d25c:Bi_:=⟨rl [(1,83),(1,84),(1,82),(1,87),(7,0),(1,1),(1,36),(1,130),(1,170),(1,105),(1,165),(50,0),(1,225),(5,0),(1,10),(7,0),(1,1),(211,0),(1,189),(1,15),(1,98),(1,114),(1,165),(3,0),(1,13),(1,1),(1,12),(8,0),(1,9),(2,0),(1,169),(1,88),(1,46),(1,109),(1,165),(4800,0)],[],true,false,0,0⟩
def d25f:Bi_:=⟨rl [(1,83),(1,84),(1,82),(1,87),(7,0),(1,1),(1,36),(1,130),(1,170),(1,105),(1,165),(50,0),(1,225),(5,0),(1,10),(7,0),(1,1),(211,0),(1,189),(1,15),(1,98),(1,114),(1,165),(3,0),(1,13),(1,1),(1,12),(8,0),(1,9),(2,0),(1,169),(1,88),(1,46),(1,109),(1,165),(2240,0),(1,83),(1,84),(1,82),(1,87),(7,0),(1,2),(1,189),(1,139),(1,251),(1,211),(1,165),(50,0),(1,247),(5,0),(1,10),(7,0),(1,1),(9,0),(2,2),(8,0),(1,9),(10,0),(1,3),(202,0),(1,79),(1,2),(1,175),(1,135),(1,165),(2240,0)],[],true,false,0,0⟩
def g25a:C5_:=⟨d25a,0,1,true,false,rl [(3,0),(1,225),(5,0),(1,10),(7,0),(1,1),(211,0),(1,189),(1,15),(1,98),(1,114),(1,165)],[]⟩
def g25b:C5_:=⟨d25a,0,1,true,false,rl [(3,0),(1,225),(5,0),(1,10),(7,0),(1,1),(211,0),(1,189),(1,15),(1,98),(1,114),(1,165)],rl [(3,0),(1,13),(1,1),(1,12),(8,0),(1,9),(2,0),(1,169),(1,88),(1,46),(1,109),(1,165)]⟩
def g25c:C5_:=⟨d25c,0,1,true,false,rl [(3,0),(1,225),(5,0),(1,10),(7,0),(1,1),(211,0),(1,189),(1,15),(1,98),(1,114),(1,165),(3,0),(1,13),(1,1),(1,12),(8,0),(1,9),(2,0),(1,169),(1,88),(1,46),(1,109),(1,165)],[]⟩
def g25f:C5_:=⟨d25f,1,2,true,false,rl [(3,0),(1,247),(5,0),(1,10),(7,0),(1,1),(9,0),(2,2),(8,0),(1,9),(10,0),(1,3),(202,0),(1,79),(1,2),(1,175),(1,135),(1,165)],[]⟩
def s25a:D_:=At_ p25 0
def s25b:D_:=(H_ s25a d25n).1
def s25f:D_:=(H_ s25b d25w).1
end Go.SW.V
