/-
  A part of the proof of VaultAgain: Law 25, VaultAgain: a vault whose power goes behind a Commit is opened as0 the store that it was. Plain
-/
import Derived.Test.YtfojlhfchpkhlaaGreatDoorVaultAgainP11
set_option maxRecDepth 100000
set_option maxHeartbeats 4000000
open Bool renaming not_false->AE,or_true->GQ,true_or->FC
namespace Go.SW.V
open Go.SW
theorem again_fin{p:F_}{r tick cut:Int}{v:Ay_}(h:VcX p r v)(hg:v.log.gen<1000)(ht:U64 tick):Eo_ p tick cut r [] v=true:=by
 have⟨l',e1,e2,hc⟩:=vcx_com h;rw[Eo_.eq_1];simp only[lt];rw[e1];simp only[decide_true,Bool.not_true,cond_false];have hwth:Aw_ p r (L_ (⟨v.store,l'⟩:Ay_))=v.store:=by
   have⟨⟨_,_,h3,h4,_⟩,_⟩:=hc.x.vi
   simp only at h3 h4
   rw[<- h3,<- h4];rfl
 rw[hwth];have⟨s0,gs,hv⟩:=hc;have hd:=hv.lc.lg;have hdn:=down_e hd.1 hd.2.1 cut;have⟨u1,u2,u3⟩:=up_e hd.1;simp only at hdn u1 u2 u3;rw[hdn]
 rcases vcx_again ⟨s0,gs,hv⟩ (by simp only[e2];exact hg) ht u1 u2 u3 with ⟨f1,f2⟩|⟨w,f1,f2,_,_⟩
 rw[f1,f2];simp only[cond_false,decide_true,FC];rw[f1];have e:L_ (⟨w.store,(⟨w.log.d,w.log.A4_,w.log.gen,w.log.ready,w.log.broken,w.log.done,w.log.waits⟩:C5_)⟩:Ay_)=S_ w.store:=rfl;simp only[cond_true,decide_true,Bool.true_and,e];rw[f2,Yt_,GQ]
theorem again_l0{p:F_}{r tick cut:Int}(ht:U64 tick):∀ (l:List G_) (v:Ay_),(∀ d∈l,DWf d/\DdOk d/\DdF d/\DdG d)->VcX p r v->0<=v.log.gen->v.log.gen+(l.length:Int)<1000->Eo_ p tick cut r l v=true
 |[],v,_,hv,h0,h1=>again_fin hv (by simpa using h1) ht
 |d::t,v,hd,hv,h0,h1=>by
   rw[Eo_.eq_2];unfold lt
   simp only[List.length_cons] at h1
   have⟨a1,a2,a3,a4⟩:=hd d (List.mem_cons_self ..)
   have :=vcx_do hv qD a1 a2 a3 a4
   exact again_l0 ht t _ (λy hy=>hd y (List.mem_cons_of_mem _ hy)) this.1 qD qD
theorem again_gen{p:F_}{r tick cut:Int}{l:List G_}{D:Bi_}(ht:U64 tick)(hd:∀ d∈l,DWf d/\DdOk d/\DdF d/\DdG d)(hl:l.length<=40)(h:∃ v,Dl_ p r D 0=(true,0,v.log.d,v)/\VcX p r v/\v.log.gen=1):(lt (Dl_ p r D 0) λr2=>bif r2.1 then Eo_ p tick cut r l (⟨r2.2.2.2.store,(⟨r2.2.2.1,r2.2.2.2.log.A4_,r2.2.2.2.log.gen,r2.2.2.2.log.ready,r2.2.2.2.log.broken,r2.2.2.2.log.done,r2.2.2.2.log.waits⟩:C5_)⟩:Ay_) else false)=true:=by
 have⟨v,e,hv,hg⟩:=h;rw[e];exact again_l0 ht l v hd hv qD qD
theorem again_new{p:F_}{r:Int}(hp:PoOk p)(hk:0<=r/\r<p.places.length)(hb:∀ y∈p.places,U64 y.base):∃ v,Dl_ p r (Em_ 120) 0=(true,0,v.log.d,v)/\VcX p r v/\v.log.gen=1:=by
 have⟨v,e,hv,hg,_⟩:=vcx_new (tick:=0) hp hk hb;exact⟨v,e,hv,hg⟩
theorem law25_again{p:F_}{place tick cut:Int}{l:List G_}(hpw:(PV.agg (F_.pc p)).wf)(hw:(PV.sl G_.pc l).wf)(ht:U64 tick):Ln_ p place l tick cut=true:=by
 unfold Ln_
 cases h1:N4_ p with
 |false=>simp only[AE,FC,cond_true]
 |true=>
   cases h2:Of_ l with
   |false=>simp only[AE,GQ,cond_true]
   |true=>
     have⟨hpo,hpl0,hpl1,hsl0,hsl1,hgl⟩:=l05_may h1
     have hat:=at_r p place qD
     have⟨a1,a2⟩:=l23_ddl h2
     have d1:∀ d∈l,DWf d/\DdOk d/\DdF d/\DdG d:=λd hd=>by
       have⟨k,hk⟩:=List.getElem?_of_mem hd
       have hc:=hw.2 d hd
       have hg2:=(deed_gk hw a1 hk).1
       exact⟨dwf_of hc,hg2.1,deed_f1 hc,hg2⟩
     have hz:=again_gen (cut:=cut) ht d1 a2 (again_new hpo hat (pol_base hpw))
     generalize Em_ 120=D at hz ⊢
     exact hz
end Go.SW.V
