/-
  A part of the proof of VaultTogether.
-/
import Derived.Test.YthjabjnhbhmdfaaGreatDoorVaultTogetherP12
import Derived.Test.YthjabjnhbhmdfaaGreatDoorVaultTogetherP4
set_option linter.unusedVariables false
set_option linter.unusedSimpArgs false
set_option maxRecDepth 100000
set_option maxHeartbeats 4000000
namespace Go.SW.V
open Go.SW
theorem tog_l0{p:F_}{r:Int}{group:List G_}(hfin:∀ v,VI p r v->0<=v.log.gen/\v.log.gen<1000->togF p r v group=true):∀ (l:List G_) (v:Au_),(∀ d∈l,DdG d)->VI p r v->0<=v.log.gen->v.log.gen+(l.length:Int)<1000->Cz_ p group r l v=true
 |[],v,_,hv,h0,h1=>hfin v hv ⟨h0,by simpa using h1⟩
 |d::t,v,hd,hv,h0,h1=>by
   rw[Cz_.eq_2];unfold lt
   simp only[List.length_cons] at h1
   have :=do_vi hv ⟨h0,by omega⟩ (hd d (List.mem_cons_self ..))
   exact tog_l0 hfin t _ (λy hy=>hd y (List.mem_cons_of_mem _ hy)) this.1 rV rV
def DdW(l:List G_):Prop:=∀ d∈l,0<=d.code/\d.code<=255/\0<=d.Ad_.hops/\0<=d.Bl_.sort/\∀ q∈d.bind.want,q.wf
theorem law25_tog{p:F_}{place:Int}{l group:List G_}(hw1:DdW l)(hw2:DdW group)(hk:∀ d∈group,0<=d.kind):H7_ p place l group=true:=by
 unfold H7_
 cases h1:Np_ p with
 |false=>rfl
 |true=>
   cases h2:Kq_ l with
   |false=>rfl
   |true=>
     cases h3:Kq_ group with
     |false=>rfl
     |true=>
       obtain⟨hpo,hpl0,hpl1,hsl0,hsl1,hgl⟩:=l05_may h1
       have hat:=at_r p place rV
       obtain⟨a1,a2⟩:=l23_ddl h2
       obtain⟨b1,b2⟩:=l23_ddl h3
       have d1:∀ d∈l,DdG d:=λd hd=>⟨a1.1 d hd,hw1 d hd⟩
       have d2:∀ d∈group,DdG d:=λd hd=>⟨b1.1 d hd,hw2 d hd⟩
       have hI:∀ r y,StI p r y->0<(Be_ (Aa_ y)).length/\(Be_ (Aa_ y)).length<=131072:=λr y hy=>⟨im_pos (im_st hy.1 hy.2.1),image_len (im_st hy.1 hy.2.1) hy.2.2.2.2.1 hy.2.2.2.2.2⟩
       have key:∀ (d:Bw_) (r:Int),(∃ v,Dx_ p r d 0=(true,0,v.log.d,v)/\VI p r v/\v.log.gen=1)->(lt (Dx_ p r d 0) λr2=>bif r2.1 then Cz_ p group r l (⟨r2.2.2.2.store,(⟨r2.2.2.1,r2.2.2.2.log.Bj_,r2.2.2.2.log.gen,r2.2.2.2.log.ready,r2.2.2.2.log.broken,r2.2.2.2.log.done,r2.2.2.2.log.waits⟩:Dy_)⟩:Au_) else false)=true:=by
         rintro d r ⟨v,e,hv,hg⟩
         rw[e]
         exact tog_l0 (λw hw hwg=>tog_fin hw hwg b2 d2 (λq=>pack_ok hk b2 q) (hI _)) l v d1 hv rV rV
       have hx:=vopen_new (tick:=0) hpo hat
       have hq:∃ v,Dx_ p (Uf_ p place) (Da_ 120) 0=(true,0,v.log.d,v)/\VI p (Uf_ p place) v/\v.log.gen=1:=by
         obtain⟨v,e,hv,hg,_⟩:=hx;exact⟨v,e,hv,hg⟩
       have hz:=key (Da_ 120) (Uf_ p place) hq
       generalize Da_ 120=D at hz ⊢
       exact hz
end Go.SW.V
