/-
  A part of the proof of SessionPlays: Drafts: the code's answers are the document's; the laws of chapter 26. Plain laws; each asks what it lists.
-/
import Derived.Test.YtifcilncaepeoaaGreatDoorSessionPlaysP3
import Derived.Test.YtifcilncaepeoaaGreatDoorSessionPlaysP2
import Derived.Shelf.LaysM
import Derived.Shelf.Strings.IndexAnyAll
import Derived.Test.YtifcilncaepeoaaGreatDoorProg
import Derived.Shelf.Strings.Split
import Derived.KernelRfl
set_option linter.unusedVariables false
set_option linter.unusedSimpArgs false
set_option maxRecDepth 100000
set_option maxHeartbeats 4000000
namespace Go.SW.V
open Go.SW
theorem Ql_ (t:Int):∀ (l out:List DeedR),(∀ d∈l,Cq_ d=true)->(∀ d∈out,Cq_ d=true)->∀ d∈Ee_ t l out,Cq_ d=true
  |[],out,_,h=>h
  |x::l,out,hl,h=>by
    simp only[Ee_,Bool.cond_eq_ite]
    have hx:=hl x List.mem_cons_self
    have hl':=fun d (hd:d∈l)=>hl d (List.mem_cons_of_mem _ hd)
    split
    · refine Ql_ t l _ hl' fun d hd=>?_
      rcases List.mem_append.1 hd with q|q
      · exact h d q
      · rw[List.mem_singleton.1 q];exact hx
    · refine Ql_ t l _ hl' fun d hd=>?_
      rcases List.mem_append.1 hd with q|q
      · exact h d q
      · rw[List.mem_singleton.1 q];exact hx
theorem Rz_:∀ (l out:List DeedR),(∀ d∈l,Cq_ d=true)->D8_ l out=(out++l,true)
  |[],out,_=>by simp[D8_]
  |x::l,out,h=>by
    simp only[D8_,h x List.mem_cons_self,Bool.not_true,cond_false]
    rw[Rz_ l _ fun d hd=>h d (List.mem_cons_of_mem _ hd)]
    simp
theorem Qq_ {l:List DeedR} (h:∀ d∈l,Cq_ d=true):Ic_ l=(l,true):=by
  have :=Rz_ l [] h
  simpa [Ic_] using this
theorem W8_:∀ (k:Nat) (a b:List DeedR),a.length+k=b.length->C5_ b a k = decide (a=b.drop k)
  |k,[],b,h=>by
    have :b.drop k=[]:=List.drop_of_length_le (by simp at h;omega)
    simp[C5_,this]
  |k,x::a,b,h=>by
    simp only[List.length_cons] at h
    simp only[C5_]
    rw[Fr_ (xs:=b) (k:=k) (by omega),W8_ (k+1) a b (by omega)]
    by_cases e:x=gt b k<;>simp[e]
theorem Ur_ (a b:List DeedR):Fs_ a b = decide (a=b):=by
  unfold Fs_
  by_cases e:(a.length:Int)=b.length
  · simp only[e,decide_true,Bool.not_true,cond_false]
    rw[W8_ 0 a b (by omega)];simp
  · simp only[e,decide_false,Bool.not_false,cond_true]
    have :a≠b:=fun q=>e (by rw[q])
    simp[this]
theorem P8_ (x:List DeedR) (hx:∀ d∈x,Cq_ d=true):∀ (l out:List DeedR),(∀ d∈l,Cq_ d=true)->(∀ d∈out,Cq_ d=true)->∀ d∈(Dk_ x l out).1,Cq_ d=true
  |[],out,_,h=>h
  |y::l,out,hl,h=>by
    have hy:=hl y List.mem_cons_self
    have hl':=fun d (hd:d∈l)=>hl d (List.mem_cons_of_mem _ hd)
    simp only[Dk_,Bool.cond_eq_ite]
    repeat' split
    all_goals first
      |exact hx
      | (refine P8_ x hx l _ hl' fun d hd=>?_
         rcases List.mem_append.1 hd with q|q
         · exact h d q
         · rw[List.mem_singleton.1 q];exact hy)
theorem radd_light {x l:List DeedR} (hx:∀ d∈x,Cq_ d=true) (hl:∀ d∈l,Cq_ d=true):∀ d∈(Jl_ x l).1,Cq_ d=true:=P8_ x hx l x hl hx
theorem Q8_ {α:Type} (p:α->Bool):∀ (l:List α) (k:Nat),idxF p k l = if idxP p l<0 then -1 else idxP p l+k
  |[],k=>by simp[idxF,idxP]
  |x::l,k=>by
    have h1:=Q8_ p l (k+1)
    have h2:=Q8_ p l (0+1)
    simp only[idxP,idxF] at *
    by_cases e:p x=true
    · simp[e]
    · simp only[e,Bool.false_eq_true,if_false]
      rw[h1,h2]
      by_cases q:idxF p 0 l<0
      · simp[q]
      · simp only[q,if_false]
        rw[if_neg (by omega)]
        omega
theorem Vr_ {α:Type} (p:α->Bool) (x:α) (l:List α):idxP p (x::l) = if p x=true then 0 else if idxP p l<0 then -1 else idxP p l+1:=by
  have :=Q8_ p l 1
  simp only[idxP,idxF] at *
  split
  · rfl
  · simpa using this
structure Inv (c:ChanR):Prop where
  tags:(c.takers.map L_.tag).Nodup
  held:c.drafts=false->c.held.l=[]
  puts:c.sure=false->c.puts=0
  light:∀ d∈c.held.l,Cq_ d=true
  lent:∀ x∈c.lent,x.queue.length<=40
theorem inv_new:Inv Cz_:=⟨by simp[Cz_],by simp[Cz_],by simp[Cz_],by simp[Cz_],by simp[Cz_]⟩
theorem e_Credit (c:ChanR) {n:Int} (h:0<=n):F2_ c n=Ae_ c n:=by
  simp only[F2_,Ae_]
  have :decide (n<1) = decide (n=0):=by rw[Bool.eq_iff_iff];simp;omega
  rw[this]
theorem take0 (c:ChanR) (t:Int) (q:Bs):∀ l,C7_ c t q l = bif l.any (fun x=>decide (x.tag=t)) then (c,9) else C7_ c t q []
  |[]=>rfl
  |x::l=>by
    simp only[C7_,List.any_cons]
    rw[take0 c t q l]
    cases decide (x.tag=t)<;>rfl
theorem e_Take (c:ChanR) (t:Int) (q:Bs):Hv_ c t q=Bi_ c t q:=by
  simp only[Hv_,Bi_,lt]
  rw[take0,show Dp_ c t=idxP (fun z:L_=>decide (z.tag=t)) c.takers from rfl]
  have :decide (0<=idxP (fun z:L_=>decide (z.tag=t)) c.takers)=c.takers.any (fun x=>decide (x.tag=t)):=by
    rw[Bool.eq_iff_iff,decide_eq_true_eq,Pa_]
  simp only[C7_,List.flatten_cons,List.flatten_nil,List.append_nil]
  simp only[this]
theorem leave0 (c:ChanR) (t:Int):∀ (l out:List L_),Cf_ c t l out=Cf_ c t [] (out++l.filter (fun x=>!decide (x.tag=t)))
  |[],out=>by simp
  |x::l,out=>by
    conv=>lhs;unfold Cf_
    cases e:decide (x.tag=t)
    · simp only[Bool.not_false,cond_true]
      rw[leave0 c t l]
      simp[e]
    · simp only[Bool.not_true,cond_false]
      rw[leave0 c t l]
      simp[e]
theorem No_ (t:Int):∀ (l:List L_),(l.map L_.tag).Nodup->(idxP (fun z:L_=>decide (z.tag=t)) l<0->l.filter (fun x=>!decide (x.tag=t))=l) /\
    (0<=idxP (fun z:L_=>decide (z.tag=t)) l->l.filter (fun x=>!decide (x.tag=t))=l.take (idxP (fun z:L_=>decide (z.tag=t)) l).toNat++l.drop (idxP (fun z:L_=>decide (z.tag=t)) l+1).toNat)
  |[],_=>⟨fun _=>rfl,fun h=>by simp[idxP,idxF] at h⟩
  |x::l,hn=>by
    simp only[List.map_cons,List.nodup_cons] at hn
    obtain⟨i1,i2⟩:=No_ t l hn.2
    have hb:=Lm_ (fun z:L_=>decide (z.tag=t)) l
    rw[Vr_]
    by_cases e:x.tag=t
    · have hl:l.filter (fun x=>!decide (x.tag=t))=l:=by
        rw[List.filter_eq_self]
        intro y hy
        have :y.tag≠t:=fun q=>hn.1 (by rw[e,<- q];exact List.mem_map_of_mem hy)
        simp[this]
      simp[e,hl]
    · simp only[e,decide_false,Bool.false_eq_true,if_false,Bool.not_false,List.filter_cons,if_true]
      constructor
      · intro h
        have :idxP (fun z:L_=>decide (z.tag=t)) l<0:=by
          by_cases q:idxP (fun z:L_=>decide (z.tag=t)) l<0
          · exact q
          · rw[if_neg q] at h;omega
        rw[i1 this]
      · intro h
        have q:¬idxP (fun z:L_=>decide (z.tag=t)) l<0:=by
          intro q
          rw[if_pos q] at h
          omega
        rw[if_neg q]
        have h2:=i2 (by omega)
        generalize idxP (fun z:L_=>decide (z.tag=t)) l=r at *
        rw[h2]
        have e1:(r+1).toNat=r.toNat+1:=by omega
        have e2:(r+1+1).toNat=(r.toNat+1)+1:=by omega
        rw[e1,e2]
        simp
theorem e_Leave {c:ChanR} (t:Int) (h:Inv c):He_ c t=A1_ c t:=by
  simp only[He_,A1_,lt]
  rw[leave0,show Dp_ c t=idxP (fun z:L_=>decide (z.tag=t)) c.takers from rfl]
  obtain⟨i1,i2⟩:=No_ t c.takers h.tags
  have hb:=Lm_ (fun z:L_=>decide (z.tag=t)) c.takers
  simp only[Cf_,List.nil_append]
  by_cases q:idxP (fun z:L_=>decide (z.tag=t)) c.takers<0
  · rw[i1 q];simp[q]
  · have h2:=i2 (by omega)
    rw[h2]
    have hl:¬((c.takers.take (idxP (fun z:L_=>decide (z.tag=t)) c.takers).toNat++c.takers.drop (idxP (fun z:L_=>decide (z.tag=t)) c.takers+1).toNat).length:Int)=(c.takers.length:Int):=by
      simp;omega
    simp only[hl,q,decide_false,cond_false,List.flatten_cons,List.flatten_nil,List.append_nil]
theorem e_Lend (c:ChanR) (x:LentR):Is_ c x=B4_ c x:=by
  simp[Is_,B4_]
theorem open0 (c:ChanR):∀ (l out:List LentR),De_ c l out=out++l.filter (fun x=>!(C9_ c.held.l x.queue x.id))
  |[],out=>by simp[De_]
  |x::l,out=>by
    simp only[De_]
    cases e:C9_ c.held.l x.queue x.id
    · simp only[Bool.not_false,cond_true];rw[open0 c l];simp[e]
    · simp only[Bool.not_true,cond_false];rw[open0 c l];simp[e]
theorem sets0 {c:ChanR} (i w:Int) (u:Bool) (h:Inv c):∀ (l:List LentR) (out:List DeedR),I_ c i w u l out=B7_ i w u (l.filter (fun x=>!(C9_ c.held.l x.queue x.id))) out
  |[],out=>rfl
  |x::l,out=>by
    have hs:(c.drafts&&Ce_ c.held x.queue x.id)=C9_ c.held.l x.queue x.id:=by
      rw[show Ce_ c.held x.queue x.id=_ from dset c.held.l _ _]
      cases e:c.drafts
      · rw[h.held e];rfl
      · rfl
    simp only[I_,hs]
    cases e:C9_ c.held.l x.queue x.id
    · simp only[List.filter_cons,e,Bool.not_false,if_true,B7_,Bool.false_or]
      by_cases e2:x.id=i
      · simp[e2]
      · cases u
        · simp[e2];exact sets0 i w false h l out
        · simp[e2];exact sets0 i w true h l _
    · simp only[List.filter_cons,e,Bool.not_true,Bool.true_or,cond_true,Bool.false_eq_true,if_false]
      exact sets0 i w u h l out
theorem Vv_ {c:ChanR} (i w:Int) (u:Bool) (h:Inv c):Er_ c i w u=Q_ c i w u:=by
  simp only[Er_,Q_,lt,In_,open0,List.nil_append,sets0 i w u h]
def cutL (x:LentR):List LentR->List LentR
  |[]=>[]
  |y::l=>if x=y then l else y::cutL x l
theorem gone1 (c:ChanR) (d:DeedR):∀ (l out:List LentR),B2_ c d l out true={c with lent:=out++l}/\B2_ c d l out false={c with lent:=out++cutL ⟨d.id,d.name⟩ l}
  |[],out=>by simp[B2_,cutL]
  |x::l,out=>by
    constructor
    · simp only[B2_,Bool.not_true,Bool.false_and,cond_false]
      rw[(gone1 c d l _).1];simp
    · simp only[B2_,Bool.not_false,Bool.true_and,cutL]
      by_cases e:(⟨d.id,d.name⟩:LentR)=x
      · subst e
        simp only[decide_true,Bool.and_self,cond_true,if_true]
        exact (gone1 c d l out).1
      · have :(decide (x.id=d.id) && decide (x.queue=d.name))=false:=by
          rw[Bool.and_eq_false_iff]
          by_cases q:x.id=d.id
          · right
            have :x.queue≠d.name:=fun q2=>e (by cases x;simp_all)
            simp[this]
          · left;simp[q]
        rw[this,if_neg e]
        simp only[cond_false]
        rw[(gone1 c d l _).2];simp
theorem cut_idx (x:LentR):∀ (l:List LentR),(idxP (fun y=>decide (x=y)) l<0->cutL x l=l)/\(0<=idxP (fun y=>decide (x=y)) l->cutL x l=l.take (idxP (fun y=>decide (x=y)) l).toNat++l.drop (idxP (fun y=>decide (x=y)) l+1).toNat)
  |[]=>⟨fun _=>rfl,fun h=>by simp[idxP,idxF] at h⟩
  |y::l=>by
    obtain⟨i1,i2⟩:=cut_idx x l
    rw[Vr_]
    by_cases e:x=y
    · simp[e,cutL]
    · simp only[e,decide_false,Bool.false_eq_true,if_false,cutL]
      have hb:=Lm_ (fun y=>decide (x=y)) l
      constructor
      · intro h
        have :idxP (fun y=>decide (x=y)) l<0:=by
          by_cases q:idxP (fun y=>decide (x=y)) l<0
          · exact q
          · rw[if_neg q] at h;omega
        rw[i1 this]
      · intro h
        have q:¬idxP (fun y=>decide (x=y)) l<0:=by
          intro q;rw[if_pos q] at h;omega
        rw[if_neg q]
        have h2:=i2 (by omega)
        generalize idxP (fun y=>decide (x=y)) l=r at *
        rw[h2]
        have e1:(r+1).toNat=r.toNat+1:=by omega
        have e2:(r+1+1).toNat=(r.toNat+1)+1:=by omega
        rw[e1,e2]
        simp
theorem Y4_:∀ (l:List DeedR) (c:ChanR),Ef_ l c=W_ l c
  |[],c=>rfl
  |d::l,c=>by
    simp only[Ef_,W_,lt,lt1]
    by_cases e:d.kind=8
    · obtain⟨i1,i2⟩:=cut_idx ⟨d.id,d.name⟩ c.lent
      have h1:=(gone1 c d c.lent []).2
      simp only[e,decide_true,Bool.not_true,cond_false,Bool.true_and,h1,List.nil_append]
      rw[Y4_ l]
      by_cases q:0<=idxP (fun y=>decide ((⟨d.id,d.name⟩:LentR)=y)) c.lent
      · simp only[q,decide_true,cond_true,i2 q,List.flatten_cons,List.flatten_nil,List.append_nil]
      · simp only[q,decide_false,cond_false,i1 (by omega)]
    · simp only[e,decide_false,Bool.not_false,cond_true,Bool.false_and,cond_false]
      exact Y4_ l c
theorem e_Gone (c:ChanR) (l:List DeedR):Ir_ c l=Bn_ c l:=Y4_ l c
theorem e_Put {c:ChanR} (h:Inv c):I0_ c=Bp_ c:=by
  simp only[I0_,Bp_]
  cases e:c.sure
  · simp only[Bool.not_false,cond_true,cond_false,h.puts e]
  · rfl
theorem e_Sure (c:ChanR):K5_ c=Bx_ c:=rfl
theorem e_Draft (c:ChanR):Jc_ c=Be_ c:=rfl
theorem e_Undo (c:ChanR):Il_ c=Bk_ c:=rfl
theorem inv_same {c d:ChanR} (h:Inv c) (h2:d.takers=c.takers) (h3:d.lent=c.lent) (h4:d.held=c.held) (h5:d.drafts=c.drafts) (h6:d.sure=c.sure) (h7:d.puts=c.puts):Inv d:=⟨by rw[h2];exact h.tags,by rw[h4,h5];exact h.held,by rw[h6,h7];exact h.puts,by rw[h4];exact h.light,by rw[h3];exact h.lent⟩
theorem inv_Credit {c:ChanR} (n:Int) (h:Inv c):Inv (Ae_ c n).1:=by
  simp only[Ae_,Bool.cond_eq_ite];split<;>exact inv_same h rfl rfl rfl rfl rfl rfl
theorem inv_Take {c:ChanR} (t:Int) (q:Bs) (h:Inv c):Inv (Bi_ c t q).1:=by
  simp only[Bi_,lt,Bool.cond_eq_ite]
  repeat' split
  all_goals first|exact h|skip
  rename_i e _
  refine⟨?_,h.held,h.puts,h.light,h.lent⟩
  have e2:∀ x∈c.takers,x.tag≠t:=by
    intro x hx he
    apply e
    rw[decide_eq_true_eq,show Dp_ c t=idxP (fun z:L_=>decide (z.tag=t)) c.takers from rfl,Pa_,List.any_eq_true]
    exact⟨x,hx,by simp[he]⟩
  simp only[List.flatten_cons,List.flatten_nil,List.append_nil,List.map_append,List.map_cons,List.map_nil]
  rw[List.nodup_append]
  refine⟨h.tags,by simp,fun a ha b hb=>?_⟩
  obtain⟨x,hx,rfl⟩:=List.mem_map.1 ha
  rw[List.mem_singleton.1 hb]
  exact e2 x hx
theorem inv_Leave {c:ChanR} (t:Int) (h:Inv c):Inv (A1_ c t).1:=by
  simp only[A1_,lt,Bool.cond_eq_ite]
  split
  · exact h
  · refine⟨?_,h.held,h.puts,h.light,h.lent⟩
    rename_i e
    rw[show Dp_ c t=idxP (fun z:L_=>decide (z.tag=t)) c.takers from rfl] at e ⊢
    simp only[decide_eq_true_eq] at e
    have :=(No_ t c.takers h.tags).2 (by omega)
    simp only[List.flatten_cons,List.flatten_nil,List.append_nil]
    rw[<- this]
    exact (List.Sublist.map _ List.filter_sublist).nodup h.tags
theorem inv_Lend {c:ChanR} {x:LentR} (hx:x.queue.length<=40) (h:Inv c):Inv (B4_ c x):=by
  refine⟨h.tags,h.held,h.puts,h.light,fun y hy=>?_⟩
  simp only[B4_,List.flatten_cons,List.flatten_nil,List.append_nil,List.mem_append,List.mem_singleton] at hy
  rcases hy with hy|rfl
  · exact h.lent y hy
  · exact hx
theorem Qk_:∀ (l:List DeedR) {c:ChanR},Inv c->Inv (W_ l c)
  |[],c,h=>h
  |d::l,c,h=>by
    simp only[W_,lt,Bool.cond_eq_ite]
    split
    · refine Qk_ l ⟨h.tags,h.held,h.puts,h.light,fun y hy=>?_⟩
      simp only[List.flatten_cons,List.flatten_nil,List.append_nil,List.mem_append] at hy
      rcases hy with hy|hy
      · exact h.lent y (List.mem_of_mem_take hy)
      · exact h.lent y (List.mem_of_mem_drop hy)
    · exact Qk_ l h
theorem inv_Gone {c:ChanR} (l:List DeedR) (h:Inv c):Inv (Bn_ c l):=Qk_ l h
theorem inv_Sure {c:ChanR} (h:Inv c):Inv (Bx_ c).1:=by
  simp only[Bx_,Bool.cond_eq_ite]
  split
  · exact h
  · exact⟨h.tags,h.held,fun e=>(by cases e),h.light,h.lent⟩
theorem inv_Put {c:ChanR} (h:Inv c):Inv (Bp_ c).1:=by
  simp only[Bp_,Bool.cond_eq_ite]
  split
  · exact h
  · rename_i e
    exact⟨h.tags,h.held,fun q=>absurd (by simp[show c.sure=false from q]) e,h.light,h.lent⟩
theorem inv_Draft {c:ChanR} (h:Inv c):Inv (Be_ c).1:=by
  simp only[Be_,Bool.cond_eq_ite]
  split
  · exact h
  · exact⟨h.tags,fun e=>(by cases e),h.puts,h.light,h.lent⟩
theorem inv_Undo {c:ChanR} (h:Inv c):Inv (Bk_ c).1:=by
  simp only[Bk_,Bool.cond_eq_ite]
  split
  · exact h
  · exact⟨h.tags,fun _=>rfl,h.puts,fun d hd=>(by simp at hd),h.lent⟩
theorem inv_Hold {c:ChanR} {l:List DeedR} (hl:∀ d∈l,Cq_ d=true) (h:Inv c):Inv (Af_ c l).1:=by
  simp only[Af_,lt,Bool.cond_eq_ite]
  split
  · exact h
  · rename_i e
    refine⟨h.tags,fun q=>absurd (by simp[show c.drafts=false from q]) e,h.puts,?_,h.lent⟩
    rw[show Dd_ c.held l=_ from dadd c.held.l l]
    exact radd_light h.light hl
theorem L8_ {c:ChanR} (i w:Int) (u:Bool):∀ (l:List LentR) (out:List DeedR),(∀ x∈l,x.queue.length<=40)->(∀ d∈out,Cq_ d=true)->∀ d∈(I_ c i w u l out).1,Cq_ d=true
  |[],out,_,_=>by simp[I_]
  |x::l,out,hl,ho=>by
    have hx:=hl x List.mem_cons_self
    have hl':=fun y (hy:y∈l)=>hl y (List.mem_cons_of_mem _ hy)
    have hd:Cq_ ⟨8,0,⟨[],0,[]⟩,⟨[],0,0,[]⟩,⟨[],[],false,[],[],false⟩,x.queue,x.id,IntKind.wrap .u8 w,0,0,0,⟨0,[],[],[],[],0,0⟩,[]⟩=true:=by
      simp[Cq_,Hj_,F7_];omega
    have ho':∀ d∈out++[(⟨8,0,⟨[],0,[]⟩,⟨[],0,0,[]⟩,⟨[],[],false,[],[],false⟩,x.queue,x.id,IntKind.wrap .u8 w,0,0,0,⟨0,[],[],[],[],0,0⟩,[]⟩:DeedR)],Cq_ d=true:=by
      intro d hd2
      rcases List.mem_append.1 hd2 with q|q
      · exact ho d q
      · rw[List.mem_singleton.1 q];exact hd
    simp only[I_,Bool.cond_eq_ite]
    repeat' split
    all_goals first
      |exact L8_ i w u l out hl' ho
      |exact L8_ i w u l _ hl' ho'
      |exact ho'
theorem sets_light {c:ChanR} (i w:Int) (u:Bool) (h:Inv c):∀ d∈(Q_ c i w u).1,Cq_ d=true:=by
  simp only[Q_,Bool.cond_eq_ite]
  split
  · simp
  · exact L8_ i w u c.lent [] h.lent (by simp)
theorem rown_ok {c:ChanR} {n:Nat} {m:Method} (hn:0<=m.n) (h:COk c n):COk (H0_ c m).1 n:=by
  unfold H0_
  let P:(ChanR×Int)->Prop:=fun r=>COk r.1 n
  change P _
  repeat' (with_reducible first|(refine ltP (fun v hv=>?_))|(refine An_ (fun _=>?_) (fun _=>?_)))
  all_goals subst hv
  · exact Yl_ hn h
  · exact cok_Take' _ _ h
  · exact cok_Leave' _ h
  · exact cok_Sure h
  · exact Xj_ h
  · exact Pe_ h
theorem rsent_ok {q:SessR} {n:Nat} (t:TakerS) (x:ItemR) (h:QOk q n) (ht:0<=t.channel):QOk (Ga_ q t x).1 (n+1):=by
  simp only[Ga_,lt,Bool.cond_eq_ite]
  split
  · exact Fq_ h (by omega)
  · rename_i hc
    simp only[Bool.or_eq_true,decide_eq_true_eq,not_or] at hc
    exact Hk_ (Fq_ h (by omega)) (by omega) (cok_Lend' _ (h _ (by omega)))
def PQ3 (n:Nat) (r:SessR×List Reply×List DeedR):Prop:=QOk r.1 n
theorem rput_Q {q:SessR} {m:Method} {t:Int} {n:Nat} (h:QOk q n) (h0:0<=m.channel) (h4:m.channel<=4):PQ3 n (Du_ q m t):=by
  have hc:=h m.channel.toNat (by omega)
  unfold Du_
  refine An_ (fun _=>ltP fun r hr=>ltP fun r1 _=>Hk_ h (by omega) (by subst hr;exact cok_Put' hc)) fun _=>ltP fun r2 _=>ltP fun r3 h3=>An_ (fun _=>ltP fun _ _=>h) fun _=>Hk_ h (by omega) (by subst h3;rw[T5_];exact Oz_ _ hc)
theorem rsettle_Q {q:SessR} {m:Method} {t:Int} {n:Nat} (h:QOk q n) (h0:0<=m.channel) (h4:m.channel<=4):PQ3 n (B6_ q m t):=by
  have hc:=h m.channel.toNat (by omega)
  unfold B6_
  refine An_ (fun _=>ltP fun r _=>An_ (fun _=>ltP fun _ _=>h) fun _=>h) fun _=>ltP fun r2 _=>An_ (fun _=>ltP fun _ _=>h) fun _=>An_ (fun _=>ltP fun r4 h4'=>ltP fun _ _=>Hk_ h (by omega) (by subst h4';rw[T5_];exact Oz_ _ hc)) fun _=>ltP fun _ _=>h
def PQ4 (n:Nat) (r:SessR×List Reply×List DeedR×Int):Prop:=QOk r.1 n
theorem rPlan_Q {q:SessR} {m:Method} {t:Int} {n:Nat} (h:QOk q n) (h0:0<=m.channel) (hn:0<=m.n):PQ4 n (E4_ q m t):=by
  unfold E4_
  refine ltP fun r hr=>An_ (fun _=>h) fun hz=>An_ (fun _=>U1_ h rfl) fun hk=>?_
  have h4:m.channel<=4:=by
    have h1:=rmay_ch q m
    subst hr
    have h2:Jn_ q m=0:=by simpa using hz
    have h3:¬m.kind=0:=by simpa using hk
    omega
  have hc:=h m.channel.toNat (by omega)
  refine An_ (fun _=>ltP fun r1 h1=>ltP fun r2 _=>Hk_ h (by omega) (by subst h1;exact cok_new' n)) fun _=>?_
  refine lp0P True (PQ4 n) ?_ (fun _=>ltP fun r10 h10=>ltP fun r11 _=>Hk_ h (by omega) (by subst h10;exact rown_ok hn hc)) (fun r hr=>hr)
  refine An_ (fun _=>ltP fun r3 _=>An_ (fun _=>h) fun _=>ltP fun r4 _=>Hk_ h (by omega) (Fa_ n)) fun _=>lt1P fun v _=>An_ (fun _=>ltP fun r5 _=>h) fun _=>An_ (fun _=>ltP fun r6 h6=>by subst h6;exact rput_Q (t:=t) h h0 h4) fun _=>An_ (fun _=>ltP fun r7 _=>An_ (fun _=>ltP fun r8 _=>h) fun _=>h) fun _=>lt1P fun v1 _=>An_ (fun _=>ltP fun r9 h9=>by subst h9;exact rsettle_Q (t:=t) h h0 h4) fun _=>trivial
def PQ2 (n:Nat) (r:SessR×List Reply):Prop:=QOk r.1 n
theorem rTold_Q {q:SessR} {m:Method} {x:ItemR} {e:Int} {n:Nat} (h:QOk q n) (h0:0<=m.channel) (h4:m.channel<=4):PQ2 (n+1) (D3_ q m x e):=by
  have h1:=Fq_ h (Nat.le_succ n)
  have hc:=h1 m.channel.toNat (by omega)
  unfold D3_
  refine lp2P (fun x=>QOk x.1 (n+1)) (PQ2 (n+1)) ?_ (fun a b ha=>ltP fun _ _=>ha) (fun r hr=>hr)
  refine An_ (fun _=>An_ (fun _=>Hk_ h1 (by omega) (Fa_ _)) fun _=>h1) fun _=>An_ (fun _=>An_ (fun _=>ltP fun _ _=>h1) fun _=>An_ (fun _=>ltP fun _ _=>h1) fun _=>An_ (fun _=>h1) fun _=>h1) fun _=>?_
  refine An_ (fun _=>An_ (fun _=>ltP fun _ _=>h1) fun _=>An_ (fun _=>ltP fun r3 h3=>by subst h3;exact rsent_ok _ _ h h0) fun _=>h1) fun _=>An_ (fun _=>ltP fun r4 _=>An_ (fun _=>ltP fun r5 h5=>Hk_ h1 (by omega) (by subst h5;exact W7_ _ hc)) fun _=>h1) fun _=>An_ (fun _=>lt1P fun x3 hx=>?_) fun _=>h1
  have hx3:COk x3 (n+1):=by
    subst hx
    exact An_ (P:=fun c=>COk c (n+1)) (fun _=>ltP (P:=fun c=>COk c (n+1)) fun r6 h6=>by subst h6;exact W7_ _ hc) fun _=>hc
  exact ltP fun r7 h7=>by subst h7;exact Hk_ h1 (by omega) (Pe_ hx3)
theorem kinds {k:Int} (h0:0<=k) (h:k<=20) :
    (Dj_ k=[110]/\Im_ k=⟨false,false,false,false,false,false,false,true,false,false⟩) \/
    (Dj_ k=[]/\Im_ k=⟨false,false,false,false,false,false,false,false,false,false⟩) \/
    (Dj_ k=[65,110,120]/\Im_ k=⟨true,true,true,false,false,false,false,true,false,false⟩) \/
    (Dj_ k=[65]/\Im_ k=⟨true,false,false,false,false,false,false,false,false,false⟩) \/
    (Dj_ k=[65,110,109,120]/\Im_ k=⟨true,true,true,false,false,false,false,true,true,false⟩) \/
    (Dj_ k=[65,79,112,104,121]/\Im_ k=⟨true,true,false,true,true,true,false,false,false,true⟩) \/
    (Dj_ k=[65,107,104,109,98]/\Im_ k=⟨true,false,false,true,false,true,true,false,true,false⟩) \/
    (Dj_ k=[65,110]/\Im_ k=⟨true,false,false,false,false,false,false,true,false,false⟩) \/
    (Dj_ k=[110,109,121]/\Im_ k=⟨false,false,false,false,false,false,false,true,true,true⟩):=by
  have :k=0\/k=1\/k=2\/k=3\/k=4\/k=5\/k=6\/k=7\/k=8\/k=9\/k=10\/k=11\/k=12\/k=13\/k=14\/k=15\/k=16\/k=17\/k=18\/k=19\/k=20:=by omega
  rcases this with rfl|rfl|rfl|rfl|rfl|rfl|rfl|rfl|rfl|rfl|rfl|rfl|rfl|rfl|rfl|rfl|rfl|rfl|rfl|rfl|rfl<;>decide
theorem bes_t:Cg_ true=patB:=rfl
theorem bes_f:Cg_ false=[]:=rfl
theorem Vn_ {m:Method} (h0:0<=m.kind):Db_ m=E6_ m:=by
  unfold Db_ E6_
  by_cases h:20<m.kind
  · simp[h]
  · simp only[lt,lt1,Bool.cond_eq_ite,decide_eq_true_eq,if_neg h]
    rcases kinds h0 (by omega) with ⟨e1,e2⟩|⟨e1,e2⟩|⟨e1,e2⟩|⟨e1,e2⟩|⟨e1,e2⟩|⟨e1,e2⟩|⟨e1,e2⟩|⟨e1,e2⟩|⟨e1,e2⟩
    all_goals
      simp only[e1,e2,L4_,hasK,ckGo,oneE,bes_t,bes_f]
      simp[Mk_]
      split
      · rfl
      · rename_i q
        by_cases a1:Cr_ m.name=0
        · by_cases a2:m.other=[]
          · by_cases a4:keyE patB m.key=0<;>by_cases a5:keyE [] m.key=0<;>by_cases a6:Df_ m.head=0<;>by_cases a7:Cr_ m.other=0<;>simp_all
          · by_cases a3:Cr_ m.other=0<;>by_cases a4:keyE patB m.key=0<;>by_cases a5:keyE [] m.key=0<;>by_cases a6:Df_ m.head=0<;>simp_all
        · simp_all
def wB (m:Method) (c:UInt8):Bs:=
  if c=65 then txtB m.name else if c=120 then txtB m.other else if c=79 then txtB m.other else if c=107 then txtB m.key else if c=112 then txtB m.key
  else if c=104 then r9B m.head else if c=98 then txtB m.body else if c=110 then numB 8 m.n.toNat else if c=109 then numB 8 m.m.toNat else if c=121 then numB 1 (bitN m.yes).toNat else []
theorem bdec {α:Type} {p:Prop} [Decidable p] {a b:α}:(bif decide p then a else b) = if p then a else b:=by by_cases h:p<;>simp[h]
theorem ck_all {m:Method} (h:E6_ m=0):∀ c∈Dj_ m.kind,oneE m (c.toNat:Int)=0:=fun c hc=>by
  obtain⟨p,hp,rfl⟩:=List.getElem_of_mem hc
  have :=S9_ h hp
  rwa [List.getD_eq_getElem?_getD,List.getElem?_eq_getElem hp] at this
section steps
variable (l:List UInt8) (x:Method) (i:In)
theorem o65:E_ (65::l) x i=E_ l ⟨x.channel,x.kind,(V_ i 16).1,x.other,x.key,x.head,x.body,x.n,x.m,x.yes⟩ (V_ i 16).2:=by rw[E_];rfl
theorem o120:E_ (120::l) x i=E_ l ⟨x.channel,x.kind,x.name,(V_ i 16).1,x.key,x.head,x.body,x.n,x.m,x.yes⟩ (V_ i 16).2:=by rw[E_];rfl
theorem o79:E_ (79::l) x i=E_ l ⟨x.channel,x.kind,x.name,(V_ i 16).1,x.key,x.head,x.body,x.n,x.m,x.yes⟩ (V_ i 16).2:=by rw[E_];rfl
theorem o107:E_ (107::l) x i=E_ l ⟨x.channel,x.kind,x.name,x.other,(V_ i 64).1,x.head,x.body,x.n,x.m,x.yes⟩ (V_ i 64).2:=by rw[E_];rfl
theorem o112:E_ (112::l) x i=E_ l ⟨x.channel,x.kind,x.name,x.other,(V_ i 64).1,x.head,x.body,x.n,x.m,x.yes⟩ (V_ i 64).2:=by rw[E_];rfl
theorem o104:E_ (104::l) x i=E_ l ⟨x.channel,x.kind,x.name,x.other,x.key,(A0_ i).1,x.body,x.n,x.m,x.yes⟩ (A0_ i).2:=by rw[E_];rfl
theorem o98:E_ (98::l) x i=E_ l ⟨x.channel,x.kind,x.name,x.other,x.key,x.head,(V_ i 256).1,x.n,x.m,x.yes⟩ (V_ i 256).2:=by rw[E_];rfl
theorem o110:E_ (110::l) x i=E_ l ⟨x.channel,x.kind,x.name,x.other,x.key,x.head,x.body,(S_ i 8).1,x.m,x.yes⟩ (S_ i 8).2:=by rw[E_];rfl
theorem o109:E_ (109::l) x i=E_ l ⟨x.channel,x.kind,x.name,x.other,x.key,x.head,x.body,x.n,(S_ i 8).1,x.yes⟩ (S_ i 8).2:=by rw[E_];rfl
def Tg_ (i:In):In:=if 1<(S_ i 1).1 then A2_ (S_ i 1).2 4 else (S_ i 1).2
theorem o121:E_ (121::l) x i=E_ l ⟨x.channel,x.kind,x.name,x.other,x.key,x.head,x.body,x.n,x.m,decide ((S_ i 1).1=1)⟩ (Tg_ i):=by
  have e:E_ (121::l) x i=(bif decide (1<(S_ i 1).1) then E_ l ⟨x.channel,x.kind,x.name,x.other,x.key,x.head,x.body,x.n,x.m,decide ((S_ i 1).1=1)⟩ (A2_ (S_ i 1).2 4) else E_ l ⟨x.channel,x.kind,x.name,x.other,x.key,x.head,x.body,x.n,x.m,decide ((S_ i 1).1=1)⟩ (S_ i 1).2):=by rw[E_];rfl
  rw[e,bdec]
  unfold Tg_
  split<;>rfl
end steps
theorem Ua_ {m:Method} (h:E6_ m=0):L4_ m=false:=by
  unfold E6_ at h
  split at h
  · cases h
  · split at h
    · cases h
    · simpa using ‹¬L4_ m=true›
theorem J3_ {r:RIn} {i:In} (h:RSt r i) (c:Int):RSt (U_ r c) (A2_ i c):=by
  have e:U_ r c=Zb_ r c:=by unfold U_ Zb_;rw[bdec]
  rw[e];exact h.failA c
theorem st_Raw {r:RIn} {i:In} (h:RSt r i) (n:Int):(A9_ r n).1=(Dc_ i n).1/\RSt (A9_ r n).2 (Dc_ i n).2:=by
  have lo:=h.lo
  by_cases hc:r.code=0
  · by_cases hn:n<=0
    · have e:A9_ r n=([],r):=by simp[A9_,hn]
      rw[e,h.raw0 (.inr hn)];exact⟨rfl,h⟩
    · by_cases hl:(r.s.length:Int)-r.pos<n
      · have e:A9_ r n=([],⟨r.s,r.pos,3⟩):=by simp[A9_,U_,lt,hn,hl,hc]
        rw[e,h.raw3 hc hn hl];exact⟨rfl,h.err3⟩
      · obtain⟨e2,s2⟩:=h.rawS hc hn hl
        have e:A9_ r n=((r.s.drop r.pos.toNat).take n.toNat,⟨r.s,r.pos+n,r.code⟩):=by
          have a1:r.pos+n-n=r.pos:=by omega
          have a2:(r.pos+n).toNat-r.pos.toNat=n.toNat:=by omega
          simp[A9_,lt,hn,hl,hc,a1,a2]
        rw[e,e2];exact⟨rfl,s2⟩
  · have e:A9_ r n=([],r):=by simp[A9_,hc]
    rw[e,h.raw0 (.inl hc)];exact⟨rfl,h⟩
theorem Pv_ {r:RIn} {i:In} (h:RSt r i) (b:Int):(Y_ r b).1=(S_ i b).1/\RSt (Y_ r b).2 (S_ i b).2:=by
  obtain⟨e,s⟩:=st_Raw h (min b 8)
  rw[num_eq]
  exact⟨by simp only[S_,e],s⟩
theorem Ul_ {r:RIn} {i:In} (h:RSt r i) (m:Int):(As_ r m).1=(V_ i m).1/\RSt (As_ r m).2 (V_ i m).2:=by
  obtain⟨e,s⟩:=Pv_ h 2
  have hr:=Da_ i 2
  have hw:IntKind.wrap .i64 (S_ i 2).1=(S_ i 2).1:=wrapB hr.1 (hr.2.2.1 (by omega))
  simp only[As_,lt,lt1,bdec,e,hw,V_]
  by_cases q:m<(S_ i 2).1
  · simp only[if_pos q];exact st_Raw (J3_ s 5) _
  · simp only[if_neg q];exact st_Raw s _
theorem wrapU {m:Int} (h:0<=m) (k:m<=255):IntKind.wrap .u8 m=m:=by
  simp only[IntKind.wrap,IntKind.bits,IntKind.signed];simp;omega
theorem st_one (r:Int×RIn) (f:Nat) (h:List Pair) (k:Nat) {x:RIn} {i:In} (s:RSt x i) (hk:(k:Int)<IntKind.wrap .i64 r.1) (hc:x.code=0) :
    ∃ y,Bc_ r (f+1) h k x=Bc_ r f (h++[(X_ i).1]) (k+1) y/\RSt y (if (X_ i).2.err=0 then A2_ (X_ i).2 (Aj_ (X_ i).1 h) else (X_ i).2):=by
  obtain⟨e1,s1⟩:=Ul_ s 16
  obtain⟨e2,s2⟩:=Pv_ s1 1
  have hr:=Da_ (V_ i 16).2 1
  have hw:IntKind.wrap .u8 (S_ (V_ i 16).2 1).1=(S_ (V_ i 16).2 1).1:=wrapU hr.1 (hr.2.2.2 (by omega))
  have c1:(decide ((k:Int)<IntKind.wrap .i64 r.1) && decide (x.code=0))=true:=by simp[hk,hc]
  rw[Bc_]
  simp only[lt,c1,cond_true,e1,e2,hw,bdec]
  by_cases q0:(S_ (V_ i 16).2 1).1=0
  · obtain⟨e4,s4⟩:=Pv_ s2 8
    have er:=s4.err
    have ro:X_ i=(⟨(V_ i 16).1,0,IntKind.wrap .i64 (S_ (S_ (V_ i 16).2 1).2 8).1,[]⟩,(S_ (S_ (V_ i 16).2 1).2 8).2):=by simp[X_,q0]
    rw[if_pos q0,ro]
    simp only[q0,e4,er]
    split
    · exact⟨_,rfl,J3_ s4 _⟩
    · exact⟨_,rfl,s4⟩
  · rw[if_neg q0]
    by_cases q1:(S_ (V_ i 16).2 1).1=1
    · obtain⟨e4,s4⟩:=Ul_ s2 64
      have er:=s4.err
      have ro:X_ i=(⟨(V_ i 16).1,1,0,(V_ (S_ (V_ i 16).2 1).2 64).1⟩,(V_ (S_ (V_ i 16).2 1).2 64).2):=by simp[X_,q1]
      rw[if_pos q1,ro]
      simp only[q1,e4,er]
      split
      · exact⟨_,rfl,J3_ s4 _⟩
      · exact⟨_,rfl,s4⟩
    · rw[if_neg q1]
      by_cases q2:(S_ (V_ i 16).2 1).1=2
      · obtain⟨e4,s4⟩:=Pv_ s2 1
        have er:=s4.err
        have ro:X_ i=(⟨(V_ i 16).1,2,IntKind.wrap .i64 (S_ (S_ (V_ i 16).2 1).2 1).1,[]⟩,(S_ (S_ (V_ i 16).2 1).2 1).2):=by simp[X_,q2]
        rw[if_pos q2,ro]
        simp only[q2,e4,er]
        split
        · exact⟨_,rfl,J3_ s4 _⟩
        · exact⟨_,rfl,s4⟩
      · have s4:=J3_ s2 8
        have er:=s4.err
        have ro:X_ i=(⟨(V_ i 16).1,(S_ (V_ i 16).2 1).1,0,[]⟩,A2_ (S_ (V_ i 16).2 1).2 8):=by simp[X_,q0,q1,q2]
        rw[if_neg q2,ro]
        simp only[er]
        split
        · exact⟨_,rfl,J3_ s4 _⟩
        · exact⟨_,rfl,s4⟩
theorem st_go (r:Int×RIn) (N:Nat) (hN:IntKind.wrap .i64 r.1=(N:Int)):∀ (f:Nat) (h:List Pair) (k:Nat) (x:RIn) (i:In),RSt x i->N<f+k->k<=N ->
    (x.code≠0->Bc_ r f h k x=([],x))/\(x.code=0->(Bc_ r f h k x).1=(Fk_ (N-k) i h).1/\RSt (Bc_ r f h k x).2 (Fk_ (N-k) i h).2)
  |0,h,k,x,i,s,h1,h2=>by exfalso;omega
  |f+1,h,k,x,i,s,h1,h2=>by
    refine⟨fun hc=>?_,fun hc=>?_⟩
    · rw[Bc_];simp[hc]
    · by_cases hk:k<N
      · obtain⟨y,e,s'⟩:=st_one r f h k s (by omega) hc
        obtain⟨i1,i2⟩:=st_go r N hN f (h++[(X_ i).1]) (k+1) y _ s' (by omega) (by omega)
        have er:=s'.err
        rw[e,show N-k=(N-(k+1))+1 by omega,Ii_ (p:=(X_ i).1) (q:=(X_ i).2) rfl]
        by_cases yc:y.code=0
        · rw[if_neg (by rw[er];simpa using yc)];exact i2 yc
        · rw[if_pos (by rw[er];exact yc),i1 yc];exact⟨rfl,s'⟩
      · have e:Bc_ r (f+1) h k x=(h,x):=by
          rw[Bc_]
          have :¬(k:Int)<IntKind.wrap .i64 r.1:=by omega
          simp[this,hc]
        rw[e,show N-k=0 by omega];exact⟨rfl,s⟩
theorem st_Read {r:RIn} {i:In} (h:RSt r i):(Fb_ r).1=(A0_ i).1/\RSt (Fb_ r).2 (A0_ i).2:=by
  obtain⟨e,s⟩:=Pv_ h 1
  have hr:=Da_ i 1
  have hw:IntKind.wrap .i64 (S_ i 1).1=(S_ i 1).1:=wrapB hr.1 (by have :=hr.2.2.2 (by omega);omega)
  have hN:IntKind.wrap .i64 (Y_ r 1).1=(((S_ i 1).1.toNat:Nat):Int):=by rw[e,hw];omega
  simp only[Fb_,lt,bdec,A0_]
  rw[e,hw]
  by_cases q:8<(S_ i 1).1
  · simp only[if_pos q]
    have s6:=J3_ s 6
    have er:=s6.err
    have hne:(A2_ (S_ i 1).2 6).err≠0:=by
      unfold A2_
      split
      · show (6:Int)≠0;decide
      · rename_i z;exact fun w=>z ⟨w,by decide⟩
    have hc:¬(U_ (Y_ r 1).2 6).code=0:=by rw[<- er];exact hne
    rw[Ss_ hne,C8_]
    simp only[hc,decide_false,Bool.and_false,cond_false,Bool.not_false,cond_true]
    exact⟨trivial,s6⟩
  · simp only[if_neg q]
    obtain⟨a,b⟩:=st_go (Y_ r 1) _ hN ((S_ i 1).1.toNat-0+1) [] 0 _ _ s (by omega) (by omega)
    by_cases hc:(Y_ r 1).2.code=0
    · exact b hc
    · have hne:(S_ i 1).2.err≠0:=by rw[s.err];exact hc
      rw[a hc,Ss_ hne];exact⟨rfl,s⟩
theorem Hl_ {r:RIn} {i:In} (h:RSt r i) (m:Int):∃ t y j,As_ r m=(t,y)/\V_ i m=(t,j)/\RSt y j:=
  ⟨(As_ r m).1,(As_ r m).2,(V_ i m).2,rfl,Prod.ext (Ul_ h m).1.symm rfl,(Ul_ h m).2⟩
theorem Ln_ {r:RIn} {i:In} (h:RSt r i) (m:Int):∃ t y j,Y_ r m=(t,y)/\S_ i m=(t,j)/\RSt y j:=
  ⟨(Y_ r m).1,(Y_ r m).2,(S_ i m).2,rfl,Prod.ext (Pv_ h m).1.symm rfl,(Pv_ h m).2⟩
theorem ex_Read {r:RIn} {i:In} (h:RSt r i):∃ t y j,Fb_ r=(t,y)/\A0_ i=(t,j)/\RSt y j:=
  ⟨(Fb_ r).1,(Fb_ r).2,(A0_ i).2,rfl,Prod.ext (st_Read h).1.symm rfl,(st_Read h).2⟩
def Ot_ (x:Method) (y:RIn):Method×Int:=
  lt (Cs_ y) fun r11=>lt1 (bif decide (r11.1=0) then lt (Db_ x) fun r12=>r12 else r11.1) fun e_1=>bif !decide (e_1=0) then ((⟨0,0,[],[],[],[],[],0,0,false⟩:Method),e_1) else (x,0)
theorem Gm_ {x:Method} (hk:0<=x.kind) {y:RIn} {i:In} (s:RSt y i):Ot_ x y=E_ [] x i:=by
  have e1:(Cs_ y).1=Qa_ i:=by
    rw[s.end']
    simp only[Cs_]
    by_cases q:y.code=0/\y.pos<y.s.length
    · rw[if_pos q];simp[q.1,q.2]
    · rw[if_neg q]
      have :(decide (y.code=0) && decide (y.pos<(y.s.length:Int)))=false:=by
        by_cases a:y.code=0
        · simp[a];exact Int.not_lt.1 fun z=>q ⟨a,z⟩
        · simp[a]
      rw[this];rfl
  rw[E_]
  simp only[Ot_,lt,lt1,e1,Vn_ hk,O4_,Bool.cond_eq_ite,decide_eq_true_eq]
  by_cases z:Qa_ i=0
  · simp[z]
  · simp[z]
theorem parse_eq {f:Frame} (h0:0<=f.kind) (hl:f.body.length<=9223372036854775807):Hb_ f=Cb_ f:=by
  simp only[Cb_,bdec]
  by_cases h:20<f.kind
  · simp[Hb_,h]
  · rw[if_neg h]
    have s0:=RSt.new f.body hl
    show _=E_ (Dj_ f.kind) _ _
    have e0:decide (20<f.kind)=false:=by simpa using h
    rw[Hb_,e0,cond_false,lt]
    rcases kinds h0 (by omega) with ⟨e1,e2⟩|⟨e1,e2⟩|⟨e1,e2⟩|⟨e1,e2⟩|⟨e1,e2⟩|⟨e1,e2⟩|⟨e1,e2⟩|⟨e1,e2⟩|⟨e1,e2⟩
    all_goals rw[e1,e2]
    · obtain⟨t0,y0,j0,p0,q0,s1⟩:=Ln_ s0 8
      refine Eq.trans ?_ ((Gm_ (x:=⟨f.channel,f.kind,[],[],[],[],[],t0,0,false⟩) h0 s1).trans ?_)
      · simp only[lt2,lt,lt1,Ot_,cond_true,cond_false,Bool.not_true,Bool.not_false,Bool.true_and,Bool.false_and,Bool.and_true,Bool.and_false,p0]
        by_cases h1:(Cs_ y0).1=0<;>by_cases h2:Db_ ⟨f.channel,f.kind,[],[],[],[],[],t0,0,false⟩=0<;>simp[h1,h2]
      · simp only[o110,q0]
    · skip
      exact Gm_ h0 s0
    · obtain⟨t0,y0,j0,p0,q0,s1⟩:=Hl_ s0 16;obtain⟨t1,y1,j1,p1,q1,s2⟩:=Ln_ s1 8;obtain⟨t2,y2,j2,p2,q2,s3⟩:=Hl_ s2 16
      refine Eq.trans ?_ ((Gm_ (x:=⟨f.channel,f.kind,t0,t2,[],[],[],t1,0,false⟩) h0 s3).trans ?_)
      · simp only[lt2,lt,lt1,Ot_,cond_true,cond_false,Bool.not_true,Bool.not_false,Bool.true_and,Bool.false_and,Bool.and_true,Bool.and_false,p0,p1,p2]
        by_cases h1:(Cs_ y2).1=0<;>by_cases h2:Db_ ⟨f.channel,f.kind,t0,t2,[],[],[],t1,0,false⟩=0<;>simp[h1,h2]
      · simp only[o65,o110,o120,q0,q1,q2]
    · obtain⟨t0,y0,j0,p0,q0,s1⟩:=Hl_ s0 16
      refine Eq.trans ?_ ((Gm_ (x:=⟨f.channel,f.kind,t0,[],[],[],[],0,0,false⟩) h0 s1).trans ?_)
      · simp only[lt2,lt,lt1,Ot_,cond_true,cond_false,Bool.not_true,Bool.not_false,Bool.true_and,Bool.false_and,Bool.and_true,Bool.and_false,p0]
        by_cases h1:(Cs_ y0).1=0<;>by_cases h2:Db_ ⟨f.channel,f.kind,t0,[],[],[],[],0,0,false⟩=0<;>simp[h1,h2]
      · simp only[o65,q0]
    · obtain⟨t0,y0,j0,p0,q0,s1⟩:=Hl_ s0 16;obtain⟨t1,y1,j1,p1,q1,s2⟩:=Ln_ s1 8;obtain⟨t2,y2,j2,p2,q2,s3⟩:=Ln_ s2 8;obtain⟨t3,y3,j3,p3,q3,s4⟩:=Hl_ s3 16
      refine Eq.trans ?_ ((Gm_ (x:=⟨f.channel,f.kind,t0,t3,[],[],[],t1,t2,false⟩) h0 s4).trans ?_)
      · simp only[lt2,lt,lt1,Ot_,cond_true,cond_false,Bool.not_true,Bool.not_false,Bool.true_and,Bool.false_and,Bool.and_true,Bool.and_false,p0,p1,p2,p3]
        by_cases h1:(Cs_ y3).1=0<;>by_cases h2:Db_ ⟨f.channel,f.kind,t0,t3,[],[],[],t1,t2,false⟩=0<;>simp[h1,h2]
      · simp only[o65,o110,o109,o120,q0,q1,q2,q3]
    · obtain⟨t0,y0,j0,p0,q0,s1⟩:=Hl_ s0 16;obtain⟨t1,y1,j1,p1,q1,s2⟩:=Hl_ s1 16;obtain⟨t2,y2,j2,p2,q2,s3⟩:=Hl_ s2 64;obtain⟨t3,y3,j3,p3,q3,s4⟩:=ex_Read s3;obtain⟨t4,y4,j4,p4,q4,s5⟩:=Ln_ s4 1
      by_cases hb:1<t4
      · refine Eq.trans ?_ ((Gm_ (x:=⟨f.channel,f.kind,t0,t1,t2,t3,[],0,0,decide (t4=1)⟩) h0 (J3_ s5 4)).trans ?_)
        · simp only[lt2,lt,lt1,Ot_,cond_true,cond_false,Bool.not_true,Bool.not_false,Bool.true_and,Bool.false_and,Bool.and_true,Bool.and_false,p0,p1,p2,p3,p4,hb,decide_true]
          by_cases h1:(Cs_ (U_ y4 4)).1=0<;>by_cases h2:Db_ ⟨f.channel,f.kind,t0,t1,t2,t3,[],0,0,decide (t4=1)⟩=0<;>simp[h1,h2]
        · simp only[o65,o79,o112,o104,o121,q0,q1,q2,q3,q4,Tg_,if_pos hb]
      · refine Eq.trans ?_ ((Gm_ (x:=⟨f.channel,f.kind,t0,t1,t2,t3,[],0,0,decide (t4=1)⟩) h0 s5).trans ?_)
        · simp only[lt2,lt,lt1,Ot_,cond_true,cond_false,Bool.not_true,Bool.not_false,Bool.true_and,Bool.false_and,Bool.and_true,Bool.and_false,p0,p1,p2,p3,p4,hb,decide_false]
          by_cases h1:(Cs_ y4).1=0<;>by_cases h2:Db_ ⟨f.channel,f.kind,t0,t1,t2,t3,[],0,0,decide (t4=1)⟩=0<;>simp[h1,h2]
        · simp only[o65,o79,o112,o104,o121,q0,q1,q2,q3,q4,Tg_,if_neg hb]
    · obtain⟨t0,y0,j0,p0,q0,s1⟩:=Hl_ s0 16;obtain⟨t1,y1,j1,p1,q1,s2⟩:=Hl_ s1 64;obtain⟨t2,y2,j2,p2,q2,s3⟩:=ex_Read s2;obtain⟨t3,y3,j3,p3,q3,s4⟩:=Ln_ s3 8;obtain⟨t4,y4,j4,p4,q4,s5⟩:=Hl_ s4 256
      refine Eq.trans ?_ ((Gm_ (x:=⟨f.channel,f.kind,t0,[],t1,t2,t4,0,t3,false⟩) h0 s5).trans ?_)
      · simp only[lt2,lt,lt1,Ot_,cond_true,cond_false,Bool.not_true,Bool.not_false,Bool.true_and,Bool.false_and,Bool.and_true,Bool.and_false,p0,p1,p2,p3,p4]
        by_cases h1:(Cs_ y4).1=0<;>by_cases h2:Db_ ⟨f.channel,f.kind,t0,[],t1,t2,t4,0,t3,false⟩=0<;>simp[h1,h2]
      · simp only[o65,o107,o104,o109,o98,q0,q1,q2,q3,q4]
    · obtain⟨t0,y0,j0,p0,q0,s1⟩:=Hl_ s0 16;obtain⟨t1,y1,j1,p1,q1,s2⟩:=Ln_ s1 8
      refine Eq.trans ?_ ((Gm_ (x:=⟨f.channel,f.kind,t0,[],[],[],[],t1,0,false⟩) h0 s2).trans ?_)
      · simp only[lt2,lt,lt1,Ot_,cond_true,cond_false,Bool.not_true,Bool.not_false,Bool.true_and,Bool.false_and,Bool.and_true,Bool.and_false,p0,p1]
        by_cases h1:(Cs_ y1).1=0<;>by_cases h2:Db_ ⟨f.channel,f.kind,t0,[],[],[],[],t1,0,false⟩=0<;>simp[h1,h2]
      · simp only[o65,o110,q0,q1]
    · obtain⟨t0,y0,j0,p0,q0,s1⟩:=Ln_ s0 8;obtain⟨t1,y1,j1,p1,q1,s2⟩:=Ln_ s1 8;obtain⟨t2,y2,j2,p2,q2,s3⟩:=Ln_ s2 1
      by_cases hb:1<t2
      · refine Eq.trans ?_ ((Gm_ (x:=⟨f.channel,f.kind,[],[],[],[],[],t0,t1,decide (t2=1)⟩) h0 (J3_ s3 4)).trans ?_)
        · simp only[lt2,lt,lt1,Ot_,cond_true,cond_false,Bool.not_true,Bool.not_false,Bool.true_and,Bool.false_and,Bool.and_true,Bool.and_false,p0,p1,p2,hb,decide_true]
          by_cases h1:(Cs_ (U_ y2 4)).1=0<;>by_cases h2:Db_ ⟨f.channel,f.kind,[],[],[],[],[],t0,t1,decide (t2=1)⟩=0<;>simp[h1,h2]
        · simp only[o110,o109,o121,q0,q1,q2,Tg_,if_pos hb]
      · refine Eq.trans ?_ ((Gm_ (x:=⟨f.channel,f.kind,[],[],[],[],[],t0,t1,decide (t2=1)⟩) h0 s3).trans ?_)
        · simp only[lt2,lt,lt1,Ot_,cond_true,cond_false,Bool.not_true,Bool.not_false,Bool.true_and,Bool.false_and,Bool.and_true,Bool.and_false,p0,p1,p2,hb,decide_false]
          by_cases h1:(Cs_ y2).1=0<;>by_cases h2:Db_ ⟨f.channel,f.kind,[],[],[],[],[],t0,t1,decide (t2=1)⟩=0<;>simp[h1,h2]
        · simp only[o110,o109,o121,q0,q1,q2,Tg_,if_neg hb]
theorem Fi_ {i:In} {m:Int} (h:(V_ i m).2.err=0):i.err=0/\i.s=txtB (V_ i m).1++(V_ i m).2.s:=by
  obtain⟨h1,h2,_,_⟩:=H9_ h
  exact⟨h1,by rw[txtB,List.append_assoc];exact h2⟩
theorem Xy_ {i:In} (h:(A0_ i).2.err=0):i.err=0/\i.s=r9B (A0_ i).1++(A0_ i).2.s:=by
  obtain⟨h1,h2,h3⟩:=Tk_ h
  rw[Ly_ h3 (fun p hp=>(Lx_ i p hp).1.1)] at h2
  exact⟨h1,h2⟩
theorem Xz_ {i:In} (h:(Tg_ i).err=0):i.err=0/\i.s=numB 1 (bitN (decide ((S_ i 1).1=1))).toNat++(Tg_ i).s:=by
  have hr:=(Da_ i 1).1
  unfold Tg_ at h ⊢
  by_cases q:1<(S_ i 1).1
  · rw[if_pos q] at h
    exfalso
    unfold A2_ at h
    split at h
    · cases h
    · rename_i z;exact z ⟨h,by decide⟩
  · rw[if_neg q] at h ⊢
    obtain⟨h1,h2⟩:=G4_ h
    refine⟨h1,?_⟩
    have e:bitN (decide ((S_ i 1).1=1))=(S_ i 1).1:=by
      unfold bitN
      by_cases z:(S_ i 1).1=1
      · simp[z]
      · simp[z];omega
    rw[e];exact h2
theorem o_nil {x:Method} {i:In} (h:(E_ [] x i).2=0):i.err=0/\i.s=[]/\E6_ x=0/\E_ [] x i=(x,0):=by
  rw[E_] at h ⊢
  simp only[lt,O4_,Bool.cond_eq_ite] at h ⊢
  by_cases z:Qa_ i=0
  · by_cases c:E6_ x=0
    · have z':=z
      unfold Qa_ at z'
      split at z'
      · cases z'
      · rename_i q
        refine⟨z',?_,c,by simp[z,c]⟩
        cases hs:i.s with
        |nil=>rfl
        |cons a b=>exact absurd ⟨z',by rw[hs];simp⟩ q
    · exfalso;simp[z,c] at h
  · exfalso;simp[z] at h
theorem w65 (m:Method):wB m 65=txtB m.name:=rfl
theorem w120 (m:Method):wB m 120=txtB m.other:=rfl
theorem w79 (m:Method):wB m 79=txtB m.other:=rfl
theorem w107 (m:Method):wB m 107=txtB m.key:=rfl
theorem w112 (m:Method):wB m 112=txtB m.key:=rfl
theorem w104 (m:Method):wB m 104=r9B m.head:=rfl
theorem w98 (m:Method):wB m 98=txtB m.body:=rfl
theorem w110 (m:Method):wB m 110=numB 8 m.n.toNat:=rfl
theorem w109 (m:Method):wB m 109=numB 8 m.m.toNat:=rfl
theorem w121 (m:Method):wB m 121=numB 1 (bitN m.yes).toNat:=rfl
theorem of_back {f:Frame} (h0:0<=f.kind) (h:(Cb_ f).2=0):∃ x,Cb_ f=(x,0)/\E6_ x=0/\x.channel=f.channel/\x.kind=f.kind/\f.body=(Dj_ f.kind).flatMap (wB x)/\∀ p∈x.head,0<=p.kind:=by
  by_cases hk:20<f.kind
  · exfalso;simp[Cb_,hk] at h
  have e:Cb_ f=E_ (Dj_ f.kind) ⟨f.channel,f.kind,[],[],[],[],[],0,0,false⟩ ⟨f.body,0⟩:=by
    simp only[Cb_,bdec,if_neg hk]
  rw[e] at h ⊢
  have nh:∀ p∈([]:List Pair),0<=p.kind:=fun p hp=>by cases hp
  rcases kinds h0 (by omega) with ⟨e1,-⟩|⟨e1,-⟩|⟨e1,-⟩|⟨e1,-⟩|⟨e1,-⟩|⟨e1,-⟩|⟨e1,-⟩|⟨e1,-⟩|⟨e1,-⟩
  all_goals
    rw[e1] at h ⊢
    (try simp only[o65,o120,o79,o107,o112,o104,o98,o110,o109,o121] at h ⊢)
    obtain⟨a0,b0,c0,d0⟩:=o_nil h
    refine⟨_,d0,c0,rfl,rfl,?_,?_⟩
  · obtain⟨a1,b1⟩:=E9_ a0;show f.body=_
    simp only[List.flatMap_cons,List.flatMap_nil,w65,w120,w79,w107,w112,w104,w98,w110,w109,w121]
    refine b1.trans ?_
    rw[b0]
  · exact nh
  · show f.body=_
    exact b0
  · exact nh
  · obtain⟨a1,b1⟩:=Fi_ a0;obtain⟨a2,b2⟩:=E9_ a1;obtain⟨a3,b3⟩:=Fi_ a2;show f.body=_
    simp only[List.flatMap_cons,List.flatMap_nil,w65,w120,w79,w107,w112,w104,w98,w110,w109,w121]
    refine b3.trans ?_
    rw[b2]
    rw[b1]
    rw[b0]
  · exact nh
  · obtain⟨a1,b1⟩:=Fi_ a0;show f.body=_
    simp only[List.flatMap_cons,List.flatMap_nil,w65,w120,w79,w107,w112,w104,w98,w110,w109,w121]
    refine b1.trans ?_
    rw[b0]
  · exact nh
  · obtain⟨a1,b1⟩:=Fi_ a0;obtain⟨a2,b2⟩:=E9_ a1;obtain⟨a3,b3⟩:=E9_ a2;obtain⟨a4,b4⟩:=Fi_ a3;show f.body=_
    simp only[List.flatMap_cons,List.flatMap_nil,w65,w120,w79,w107,w112,w104,w98,w110,w109,w121]
    refine b4.trans ?_
    rw[b3]
    rw[b2]
    rw[b1]
    rw[b0]
  · exact nh
  · obtain⟨a1,b1⟩:=Xz_ a0;obtain⟨a2,b2⟩:=Xy_ a1;obtain⟨a3,b3⟩:=Fi_ a2;obtain⟨a4,b4⟩:=Fi_ a3;obtain⟨a5,b5⟩:=Fi_ a4;show f.body=_
    simp only[List.flatMap_cons,List.flatMap_nil,w65,w120,w79,w107,w112,w104,w98,w110,w109,w121]
    refine b5.trans ?_
    rw[b4]
    rw[b3]
    rw[b2]
    rw[b1]
    rw[b0]
  · exact fun p hp=>(Lx_ _ p hp).1.1
  · obtain⟨a1,b1⟩:=Fi_ a0;obtain⟨a2,b2⟩:=E9_ a1;obtain⟨a3,b3⟩:=Xy_ a2;obtain⟨a4,b4⟩:=Fi_ a3;obtain⟨a5,b5⟩:=Fi_ a4;show f.body=_
    simp only[List.flatMap_cons,List.flatMap_nil,w65,w120,w79,w107,w112,w104,w98,w110,w109,w121]
    refine b5.trans ?_
    rw[b4]
    rw[b3]
    rw[b2]
    rw[b1]
    rw[b0]
  · exact fun p hp=>(Lx_ _ p hp).1.1
  · obtain⟨a1,b1⟩:=E9_ a0;obtain⟨a2,b2⟩:=Fi_ a1;show f.body=_
    simp only[List.flatMap_cons,List.flatMap_nil,w65,w120,w79,w107,w112,w104,w98,w110,w109,w121]
    refine b2.trans ?_
    rw[b1]
    rw[b0]
  · exact nh
  · obtain⟨a1,b1⟩:=Xz_ a0;obtain⟨a2,b2⟩:=E9_ a1;obtain⟨a3,b3⟩:=E9_ a2;show f.body=_
    simp only[List.flatMap_cons,List.flatMap_nil,w65,w120,w79,w107,w112,w104,w98,w110,w109,w121]
    refine b3.trans ?_
    rw[b2]
    rw[b1]
    rw[b0]
  · exact nh
theorem A5.get_map {α β:Type} (f:α->β) (a:A5 α) (k:Nat):(⟨f a.e0,f a.e1,f a.e2,f a.e3,f a.e4⟩:A5 β).get k=f (a.get k):=by
  match k with
  |0=>rfl
  |1=>rfl
  |2=>rfl
  |3=>rfl
  |_+4=>rfl
def A5.map {α β:Type} (f:α->β) (a:A5 α):A5 β:=⟨f a.e0,f a.e1,f a.e2,f a.e3,f a.e4⟩
theorem A5.gmap {α β:Type} (f:α->β) (a:A5 α) (k:Nat):(a.map f).get k=f (a.get k):=A5.get_map f a k
theorem A5.map_set {α β:Type} (f:α->β) (a:A5 α) (v:α) (k:Nat):(a.set v k).map f=(a.map f).set (f v) k:=by
  match k with
  |0=>rfl
  |1=>rfl
  |2=>rfl
  |3=>rfl
  |_+4=>rfl
theorem A5.set_get {α:Type} (a:A5 α) (k:Nat):a.set (a.get k) k=a:=by
  match k with
  |0=>rfl
  |1=>rfl
  |2=>rfl
  |3=>rfl
  |_+4=>rfl
def toQ (s:A_):SessR:=⟨s.place,s.feed.rest,s.feed.err,s.begun,s.over,s.slots.map SlotR.isopen,s.slots.map SlotR.chan⟩
theorem Mr_ (s:A_) (k:Nat):A5.get (toQ s).opens k=(A5.get s.slots k).isopen:=A5.gmap _ _ _
theorem Dx_ (s:A_) (k:Nat):A5.get (toQ s).chans k=(A5.get s.slots k).chan:=A5.gmap _ _ _
theorem Yf_ (p:Bs) (f:Feed) (b o:Bool) (a:A5_SlotR) (x:SlotR) (k:Nat):toQ ⟨p,f,b,o,A5.set a x k⟩=⟨p,f.rest,f.err,b,o,(a.map SlotR.isopen).set x.isopen k,(a.map SlotR.chan).set x.chan k⟩:=by
  simp only[toQ,A5.map_set]
theorem Oi_ (s:A_) (c:ChanR) (k:Nat):toQ ⟨s.place,s.feed,s.begun,s.over,A5.set s.slots ⟨c,(A5.get s.slots k).isopen⟩ k⟩=⟨(toQ s).place,(toQ s).rest,(toQ s).bad,(toQ s).begun,(toQ s).over,(toQ s).opens,A5.set (toQ s).chans c k⟩:=by
  rw[Yf_]
  simp only[toQ]
  congr 1
  rw[<- A5.gmap SlotR.isopen,A5.set_get]
structure KInv (c:ChanR) (n:Nat):Prop where
  inv:Inv c
  tkq:∀ t∈c.takers,t.queue.length<=40
  pu:0<=c.puts/\c.puts<=n
structure SInv (s:A_) (n:Nat):Prop where
  ch:∀ k,k<5->KInv (A5.get s.slots k).chan n
  zo:s.slots.e0=⟨⟨0,[],[],false,false,0,⟨[]⟩⟩,false⟩
theorem Ex_ (m:Method) (e:Int):Bw_ m e=Ab_ m e:=by
  simp only[Bw_,Ab_,Gz_,lt]
theorem put_eq (m:Method) (t d:Int):Ib_ m t d=Bd_ m t d:=rfl
theorem at0_eq (t:Int):∀ (l out:List DeedR),F8_ t l out=out++l.map (Ho_ t)
  |[],out=>by simp[F8_]
  |x::l,out=>by rw[F8_,at0_eq t l];simp[Ho_]
theorem at_eq (l:List DeedR) (t:Int):Rc_ l t=Cm_ l t:=by rw[Sx_,Rc_,at0_eq];simp
theorem may_eq (s:A_) (m:Method):Jn_ (toQ s) m=Al_ s m:=by
  simp only[Jn_,Al_,Mr_]
  generalize (A5.get s.slots m.channel.toNat).isopen=b
  show (bif s.over then _ else bif !s.begun then _ else _)=_
  cases s.over<;>cases s.begun<;>cases decide (m.kind=0)<;>cases decide (m.channel=0)<;>cases decide (m.n=1)<;>cases decide (4<m.channel)<;>cases decide (m.kind=1)<;>cases b<;>rfl
theorem adm_eq {m:Method} (t:Int) (hn:0<=m.n) (h3:3<=m.kind) (h:m.kind<=10):B0_ m t=(Hc_ m t,true):=by
  have hk:m.kind=3\/m.kind=4\/m.kind=5\/m.kind=6\/m.kind=7\/m.kind=8\/m.kind=9\/m.kind=10:=by omega
  rcases hk with e|e|e|e|e|e|e|e
  · simp only[B0_,Hc_,e,decide_true,cond_true]
    by_cases h5:255<m.n
    · rw[show min m.n 255=255 by omega];simp[h5];rfl
    · rw[show min m.n 255=m.n by omega];simp[h5]
  all_goals simp[B0_,Hc_,e,lt1]
theorem adm_no {m:Method} (t:Int) (h:m.kind<3\/10<m.kind):B0_ m t=([],false):=by
  have h3:¬m.kind=3:=by omega
  have h4:¬m.kind=4:=by omega
  have h5:¬m.kind=5:=by omega
  have h6:¬m.kind=6:=by omega
  have h7:¬m.kind=7:=by omega
  have h8:¬m.kind=8:=by omega
  have h9:¬m.kind=9:=by omega
  have h10:¬m.kind=10:=by omega
  simp[B0_,lt1,h3,h4,h5,h6,h7,h8,h9,h10]
def ownK (k:Int):Prop:=k=12\/k=13\/k=14\/k=17\/k=18\/k=20
theorem own_eq {c:ChanR} {m:Method} (hi:Inv c) (hn:0<=m.n) (h:ownK m.kind):C6_ c m=((H0_ c m).1,(H0_ c m).2,true):=by
  rcases h with e|e|e|e|e|e<;>simp[C6_,H0_,e,lt,e_Credit c hn,e_Take,e_Leave m.n hi,e_Sure,e_Draft,e_Undo]
theorem own_no {c:ChanR} {m:Method} (h:¬ownK m.kind):C6_ c m=(c,0,false):=by
  simp only[ownK,not_or] at h
  obtain⟨a,b,d,e,f,g⟩:=h
  simp[C6_,a,b,d,e,f,g]
theorem room_eq (c:ChanR):J5_ c=Ar_ c:=by
  simp only[J5_,Ar_,Bool.cond_eq_ite,decide_eq_true_eq]
  split<;>omega
theorem sent_eq (s:A_) (t:TakerS) (x:ItemR):Ga_ (toQ s) t x=(toQ (M_ s t x).1,(M_ s t x).2):=by
  simp only[Ga_,M_,lt,Mr_,Dx_,Bool.cond_eq_ite]
  split
  · rfl
  · simp only[Oi_,e_Lend]
theorem Se_ (f:DeedR->DeedR) (hf:∀ d,(f d).kind=d.kind/\(f d).id=d.id/\(f d).name=d.name):∀ (l:List DeedR) (c:ChanR),W_ (l.map f) c=W_ l c
  |[],c=>rfl
  |d::l,c=>by
    obtain⟨h1,h2,h3⟩:=hf d
    simp only[List.map_cons,W_,h1,h2,h3,Se_ f hf l]
theorem V9_ (f:DeedR->DeedR) (hf:∀ d,(f d).kind=d.kind/\(f d).id=d.id/\(f d).name=d.name) (l:List DeedR) (c:ChanR):Bn_ c (l.map f)=Bn_ c l:=Se_ f hf l c
theorem gone_at (c:ChanR) (l:List DeedR) (t:Int):Bn_ c (Cm_ l t)=Bn_ c l:=by
  rw[Sx_];exact V9_ (Ho_ t) (fun _=>⟨rfl,rfl,rfl⟩) l c
def tk6 (t:Int) (d:DeedR):DeedR:=if d.kind=6 then ⟨d.kind,t,d.shop,d.queue,d.bind,d.name,d.id,d.how,d.frm,d.code,d.number,⟨d.mail.id,d.mail.shop,d.mail.key,d.mail.head,d.mail.body,Gc_ t d.mail.due,d.mail.hops⟩,d.text⟩ else Ho_ t d
theorem tk6_k (t:Int) (d:DeedR):(tk6 t d).kind=d.kind/\(tk6 t d).id=d.id/\(tk6 t d).name=d.name:=by
  unfold tk6
  split<;>exact⟨rfl,rfl,rfl⟩
theorem at_tk6 (t:Int):∀ (l out:List DeedR),Ee_ t l out=out++l.map (tk6 t)
  |[],out=>by simp[Ee_]
  |x::l,out=>by
    simp only[Ee_,Bool.cond_eq_ite,decide_eq_true_eq]
    split
    · rename_i h;rw[at_tk6 t l];simp[h,tk6]
    · rename_i h;rw[at_tk6 t l];simp[h,Ho_,tk6]
theorem Xt_ {c:ChanR} (hi:Inv c):Bn_ c (A4_ c 0).1=Bn_ c c.held.l:=by
  simp only[A4_,Bool.cond_eq_ite]
  cases e:c.drafts
  · simp only[Bool.not_false,if_true,hi.held e]
  · simp only[Bool.not_true,Bool.false_eq_true,if_false,lt]
    rw[show Ct_ c.held 0=_ from dat c.held.l 0]
    rw[S7_,at_tk6,List.nil_append]
    exact V9_ (tk6 0) (tk6_k 0) _ _
theorem held_eq (c:ChanR) (t:Int):Jy_ c t=A4_ c t:=by
  simp only[Jy_,A4_,lt]
  rw[show Ct_ c.held t=_ from dat c.held.l t]
theorem Nd_ {s:A_} (k:Nat):toQ ⟨s.place,s.feed,s.begun,s.over,A5.set s.slots ⟨⟨0,[],[],false,false,0,⟨[]⟩⟩,false⟩ k⟩=⟨(toQ s).place,(toQ s).rest,(toQ s).bad,(toQ s).begun,(toQ s).over,A5.set (toQ s).opens false k,A5.set (toQ s).chans ⟨0,[],[],false,false,0,⟨[]⟩⟩ k⟩:=Yf_ ..
theorem told_eq {s:A_} {m:Method} {l:List Bs_} {x:ItemR} {e:Int} (h4:m.channel<=4) (ho:(A5.get s.slots m.channel.toNat).isopen=true) (hi:Inv (A5.get s.slots m.channel.toNat).chan)
    (hl:e=0->m.kind=15->0<l.length/\(gt l 0).item=x) (hp:m.kind=11->(A5.get s.slots m.channel.toNat).chan.sure=true->(A5.get s.slots m.channel.toNat).chan.puts≠0) :
    D3_ (toQ s) m x e=(toQ (H_ s m l e).1,(H_ s m l e).2):=by
  have hc:(decide (4<m.channel)||!(A5.get s.slots m.channel.toNat).isopen)=false:=by simp[ho];omega
  by_cases k11:m.kind=11
  · have hq:=hp k11
    have hz:=hi.puts
    simp only[D3_,H_,hc,cond_false,k11,Dx_]
    generalize hcc:(A5.get s.slots m.channel.toNat)=c at *
    by_cases hs:c.chan.sure=true
    · have hq:=hq hs
      by_cases he:e=0<;>simp[lp2,lt,Bu_,E2_,he,hs,hq,Gz_]
    · have hs:c.chan.sure=false:=by simpa using hs
      have hz:=hz hs
      by_cases he:e=0<;>simp[lp2,lt,Bu_,E2_,he,hs,hz,Ex_]
  by_cases k15:m.kind=15
  · simp only[D3_,H_,hc,cond_false,k15,Dx_]
    by_cases h15:e=15
    · simp[lp2,lt,h15,Gz_]
    · by_cases he:e=0
      · obtain⟨a,b⟩:=hl he k15
        have :l≠[]:=fun q=>by simp[q] at a
        simp[lp2,lt,he,a,b,sent_eq,this]
      · simp[lp2,lt,h15,he,Ex_]
  by_cases k16:m.kind=16
  · simp only[D3_,H_,hc,cond_false,k16,Dx_,lp2,lt,lt1,A6_,Vv_ _ _ _ hi,gone_at,e_Gone,Ex_]
    by_cases he:e=0
    · simp[he,Oi_,gone_at]
    · simp[he,A5.set_get]
  by_cases k19:m.kind=19
  · simp only[D3_,H_,hc,cond_false,k19,Dx_,lp2,lt,lt1,A6_,Xt_ hi,e_Gone,e_Undo,Ex_]
    by_cases he:e=0
    · simp[he,Oi_,Xt_ hi]
    · simp[he,Oi_]
  by_cases k2:m.kind=2
  · simp only[D3_,H_,hc,cond_false,k2,Dx_,lp2,lt,lt1,Ex_]
    by_cases he:e=0
    · simp[he,Nd_]
    · simp[he]
  · simp[D3_,H_,hc,k11,k15,k16,k19,k2,lp2,lt,lt1,Ex_]
theorem Sy_ {c:ChanR} (i w:Int) (u:Bool):∀ (l:List LentR) (out:List DeedR),(I_ c i w u l out).2=0->0<(I_ c i w u l out).1.length
  |[],out,h=>by simp[I_] at h
  |x::l,out,h=>by
    have ih:=Sy_ (c:=c) i w u l
    revert h
    simp only[I_,Bool.cond_eq_ite]
    repeat' split
    all_goals first|exact ih _|(intro _;simp)
theorem sets_none {c:ChanR} (i w:Int) (u:Bool) (h:(Q_ c i w u).2=0):0<(Q_ c i w u).1.length:=by
  revert h
  simp only[Q_,Bool.cond_eq_ite]
  split
  · intro h;simp at h
  · exact Sy_ i w u _ _
theorem Su_ {c:ChanR} (i w:Int) (u:Bool):∀ (l:List LentR) (out:List DeedR),(∀ d∈out,Ho_ 0 d=d)->∀ d∈(I_ c i w u l out).1,Ho_ 0 d=d
  |[],out,_=>by simp[I_]
  |x::l,out,ho=>by
    have ih:=Su_ (c:=c) i w u l
    have ho':∀ d∈out++[(⟨8,0,⟨[],0,[]⟩,⟨[],0,0,[]⟩,⟨[],[],false,[],[],false⟩,x.queue,x.id,IntKind.wrap .u8 w,0,0,0,⟨0,[],[],[],[],0,0⟩,[]⟩:DeedR)],Ho_ 0 d=d:=by
      intro d hd
      rcases List.mem_append.1 hd with q|q
      · exact ho d q
      · rw[List.mem_singleton.1 q];rfl
    simp only[I_,Bool.cond_eq_ite]
    repeat' split
    all_goals first|exact ih _ ho|exact ih _ ho'|exact ho'
theorem Wb_ {c:ChanR} (i w:Int) (u:Bool):Cm_ (Q_ c i w u).1 0=(Q_ c i w u).1:=by
  rw[Sx_]
  have h:∀ d∈(Q_ c i w u).1,Ho_ 0 d=d:=by
    simp only[Q_,Bool.cond_eq_ite]
    split
    · simp
    · exact Su_ i w u _ _ (by simp)
  rw[List.map_congr_left h];simp
theorem at_at (l:List DeedR) (t u:Int):Cm_ (Cm_ l t) u=Cm_ l u:=by
  simp only[Sx_,List.map_map];rfl
theorem back_told {s:A_} {m:Method} (h4:m.channel<=4) (ho:(A5.get s.slots m.channel.toNat).isopen=true) (k2:m.kind=2) :
    H_ s m [] 0=(⟨s.place,s.feed,s.begun,s.over,A5.set s.slots ⟨⟨0,[],[],false,false,0,⟨[]⟩⟩,false⟩ m.channel.toNat⟩,Ab_ m 0):=by
  have hc:(decide (4<m.channel)||!(A5.get s.slots m.channel.toNat).isopen)=false:=by simp[ho];omega
  simp[H_,hc,k2,lp2,lt,lt1]
theorem Xi_ {s:A_} {m:Method} (h:Al_ s m=0) (k0:¬m.kind=0) (k1:¬m.kind=1):m.channel<=4/\(A5.get s.slots m.channel.toNat).isopen=true:=by
  revert h
  simp only[Al_]
  generalize (A5.get s.slots m.channel.toNat).isopen=b
  by_cases h4:4<m.channel<;>cases s.over<;>cases s.begun<;>cases b<;>by_cases c0:m.channel=0<;>simp[k0,k1,h4,c0]<;>omega
theorem planPut_eq {s:A_} {m:Method} (t:Int) (hi:Inv (A5.get s.slots m.channel.toNat).chan) (k:m.kind=11) :
    Du_ (toQ s) m t=(toQ (F_ s m t).1,(F_ s m t).2.1,(F_ s m t).2.2):=by
  have ha:=adm_no (m:=m) t (by omega)
  have hb:=own_no (c:=(A5.get s.slots m.channel.toNat).chan) (m:=m) (by rw[k];simp[ownK])
  simp only[F_,lt,ha,hb,cond_false,k,decide_true,cond_true,lp0,Du_,Dx_,Dm_,put_eq,T5_,Ex_,e_Put hi,R_]
  cases hd:(A5.get s.slots m.channel.toNat).chan.drafts
  · simp[Oi_]
  · by_cases he:(Af_ (A5.get s.slots m.channel.toNat).chan [Bd_ m 0 m.m]).2=0
    · simp[he,Oi_]
    · simp[he]
theorem Ty_ {s:A_} {m:Method} (t:Int) (hi:Inv (A5.get s.slots m.channel.toNat).chan) (k:m.kind=16\/m.kind=19) :
    B6_ (toQ s) m t=(toQ (F_ s m t).1,(F_ s m t).2.1,(F_ s m t).2.2):=by
  have ha:=adm_no (m:=m) t (by omega)
  have hb:=own_no (c:=(A5.get s.slots m.channel.toNat).chan) (m:=m) (by rcases k with e|e<;>rw[e]<;>simp[ownK])
  rcases k with k|k
  · have hn:=sets_none (c:=(A5.get s.slots m.channel.toNat).chan) m.n m.m m.yes
    simp only[F_,lt,lt1,ha,hb,cond_false,k,decide_true,cond_true,lp0,B6_,Dx_,Dm_,A6_,Vv_ _ _ _ hi,at_at,Wb_,T5_,Ex_,R_,at_eq]
    by_cases he:(Q_ (A5.get s.slots m.channel.toNat).chan m.n m.m m.yes).2=0
    · have hn:=hn he
      cases hd:(A5.get s.slots m.channel.toNat).chan.drafts
      · have :¬(((Cm_ (Q_ (A5.get s.slots m.channel.toNat).chan m.n m.m m.yes).1 t).length:Int)=0):=by rw[Ud_];omega
        have hne:Cm_ (Q_ (A5.get s.slots m.channel.toNat).chan m.n m.m m.yes).1 t≠[]:=fun q=>this (by rw[q];rfl)
        simp[he,hne]
      · simp[he,Oi_,at_at,Wb_]
    · simp[he]
  · simp only[F_,lt,lt1,ha,hb,cond_false,k,decide_true,cond_true,lp0,B6_,Dx_,Dm_,A6_,held_eq,Ex_,R_]
    by_cases he:(A4_ (A5.get s.slots m.channel.toNat).chan t).2=0
    · by_cases hz:(A4_ (A5.get s.slots m.channel.toNat).chan t).1=[]
      · simp[he,hz]
      · simp[he,hz]
    · simp[he]
theorem Plan_eq {s:A_} {m:Method} (t:Int) {n:Nat} (hs:SInv s n) (hk:m.kind<=20) (h0:0<=m.kind) (hn:0<=m.n) (hc0:0<=m.channel) :
    E4_ (toQ s) m t=(toQ (G_ s m t).1,(G_ s m t).2.1,(G_ s m t).2.2.1,(G_ s m t).2.2.2):=by
  simp only[E4_,G_,lt,may_eq]
  by_cases hm:Al_ s m=0
  · rw[hm]
    by_cases k0:m.kind=0
    · simp[k0];exact⟨rfl,rfl⟩
    by_cases k1:m.kind=1
    · simp[k1,Yf_,Ex_];exact⟨rfl,rfl,rfl,rfl,rfl,rfl,rfl⟩
    obtain⟨h4,ho⟩:=Xi_ hm k0 k1
    have hi:=(hs.ch m.channel.toNat (by omega)).inv
    simp only[k0,k1,decide_true,decide_false,Bool.not_true,cond_false]
    by_cases k11:m.kind=11
    · have :=planPut_eq t hi k11
      simp[k11,lp0,lt1,this]
    by_cases k69:m.kind=16\/m.kind=19
    · have :=Ty_ t hi k69
      rcases k69 with e|e<;>simp[e,lp0,lt1,this]
    by_cases k310:3<=m.kind/\m.kind<=10
    · have ha:=adm_eq (m:=m) t hn k310.1 k310.2
      have :m.kind=3\/m.kind=4\/m.kind=5\/m.kind=6\/m.kind=7\/m.kind=8\/m.kind=9\/m.kind=10:=by omega
      simp only[F_,lt,ha,cond_true]
      rcases this with e|e|e|e|e|e|e|e<;>simp[e,lp0,lt1]
    have ha:=adm_no (m:=m) t (by omega)
    by_cases hw:ownK m.kind
    · have hb:=own_eq hi hn hw
      simp only[F_,lt,ha,hb,cond_true,cond_false,Dx_,Ex_,R_,Oi_]
      rcases hw with e|e|e|e|e|e<;>simp[e,lp0,lt1]
    have hb:=own_no (c:=(A5.get s.slots m.channel.toNat).chan) hw
    by_cases k15:m.kind=15
    · simp only[F_,lt,ha,hb,cond_true,cond_false,Dx_,Ex_,room_eq]
      by_cases hr:Ar_ (A5.get s.slots m.channel.toNat).chan=0<;>simp[k15,lp0,lt1,hr]
    have k2:m.kind=2:=by simp only[ownK,not_or] at hw;omega
    simp only[F_,lt,ha,hb,cond_true,cond_false,Dx_,Ex_,U2_,k2,back_told h4 ho k2,Nd_]
    by_cases hl:C0_ (A5.get s.slots m.channel.toNat).chan t=[]
    · simp[hl,lp0,lt1,Nd_]
    · have :0<(C0_ (A5.get s.slots m.channel.toNat).chan t).length:=List.length_pos_iff.2 hl
      simp[hl,lp0,lt1,this]
  · simp[hm]
def Ju_:SlotR:=⟨⟨0,[],[],false,false,0,⟨[]⟩⟩,false⟩
def tkL (s:A_) (k:Nat):List TakerS:=bif (A5.get s.slots k).isopen && decide (0<Ar_ (A5.get s.slots k).chan) then (A5.get s.slots k).chan.takers.map (fun x=>(⟨IntKind.wrap .u8 (k:Int),x.tag,x.queue⟩:TakerS)) else []
theorem stk1 (v:Nat):∀ (l:List L_) (out:List TakerS),Ao_ v l out=out++l.map (fun x=>(⟨IntKind.wrap .u8 (v:Int),x.tag,x.queue⟩:TakerS))
  |[],out=>by simp[Ao_]
  |x::l,out=>by rw[Ao_,stk1 v l];simp
theorem M6_ (s:A_) (f:Nat) (out:List TakerS) (v:Nat) (h:v<5):Ax_ s (f+1) out v=Ax_ s f (out++tkL s v) (v+1):=by
  rw[Ax_,show decide ((v:Int)<5)=true by simp;omega,cond_true]
  simp only[lt1,lt,tkL,Ey_,stk1]
  cases ((A5.get s.slots v).isopen && decide (0<Ar_ (A5.get s.slots v).chan))<;>simp
theorem Z4_ (s:A_):K_ s=tkL s 0++tkL s 1++tkL s 2++tkL s 3++tkL s 4:=by
  rw[K_,M6_ _ _ _ _ (by omega),M6_ _ _ _ _ (by omega),M6_ _ _ _ _ (by omega),M6_ _ _ _ _ (by omega),M6_ _ _ _ _ (by omega)]
  simp[Ax_]
theorem rtk1 (q:SessR) (k:Nat):∀ (f:Nat) (out:List TakerS) (v:Nat),(A5.get q.chans k).takers.length<f+v->v<=(A5.get q.chans k).takers.length ->
    Fy_ q k f out v=out++((A5.get q.chans k).takers.drop v).map (fun x=>(⟨IntKind.wrap .u8 (k:Int),x.tag,x.queue⟩:TakerS))
  |0,out,v,h,h2=>by omega
  |f+1,out,v,h,h2=>by
    rw[Fy_,Bool.cond_eq_ite]
    by_cases hv:v<(A5.get q.chans k).takers.length
    · rw[if_pos (by simpa using hv),rtk1 q k f _ (v+1) (by omega) (by omega),Fr_ hv];simp
    · rw[if_neg (by simpa using hv),List.drop_of_length_le (by omega)];simp
theorem O9_ (s:A_) (f:Nat) (out:List TakerS) (v:Nat) (h:v<5):Ek_ (toQ s) (f+1) out v=Ek_ (toQ s) f (out++tkL s v) (v+1):=by
  rw[Ek_,show decide ((v:Int)<=4)=true by simp;omega,cond_true]
  simp only[lt1,tkL,Mr_,Dx_,room_eq]
  rw[rtk1 _ _ _ _ _ (by rw[Dx_];omega) (by omega)]
  simp only[Dx_,List.drop_zero]
  have hr:0<=Ar_ (A5.get s.slots v).chan:=by simp only[Ar_];omega
  cases (A5.get s.slots v).isopen
  · simp
  · by_cases h0:Ar_ (A5.get s.slots v).chan=0
    · simp[h0]
    · have :0<Ar_ (A5.get s.slots v).chan:=by omega
      simp[h0,this]
theorem tkL_closed {s:A_} {k:Nat} (h:(A5.get s.slots k).isopen=false):tkL s k=[]:=by simp[tkL,h]
theorem tk_eq {s:A_} (h:s.slots.e0.isopen=false):Gi_ (toQ s)=K_ s:=by
  rw[Z4_,Gi_,O9_ _ _ _ _ (by omega),O9_ _ _ _ _ (by omega),O9_ _ _ _ _ (by omega),O9_ _ _ _ _ (by omega),tkL_closed (k:=0) h]
  simp[Ek_]
def clr (s:A_) (k:Nat):A_:=⟨s.place,s.feed,s.begun,s.over,A5.set s.slots Ju_ k⟩
def bkL (s:A_) (t:Int) (k:Nat):List DeedR:=bif (A5.get s.slots k).isopen then C0_ (A5.get s.slots k).chan t else []
theorem Kd_ (t:Int) (f:Nat) (out:List DeedR) (v:Nat) (s:A_) (h:v<5):A7_ t (f+1) out v s=A7_ t f (out++bkL s t v) (v+1) (clr s v):=by
  rw[A7_,show decide ((v:Int)<5)=true by simp;omega,cond_true]
  simp only[lt,bkL]
  cases (A5.get s.slots v).isopen
  · simp;rfl
  · simp;rfl
theorem Mg_ (t:Int) (f:Nat) (out:List DeedR) (v:Nat) (s:A_) (h:v<5):Ev_ t (f+1) out v (toQ s)=Ev_ t f (out++bkL s t v) (v+1) (toQ (clr s v)):=by
  rw[Ev_,show decide ((v:Int)<=4)=true by simp;omega,cond_true]
  simp only[lt1,lt,bkL,Mr_,Dx_,U2_,clr,Ju_,Nd_]
  cases (A5.get s.slots v).isopen<;>simp
theorem Qr_ (s:A_) (t:Int):Ai_ s t=(⟨s.place,s.feed,s.begun,true,⟨Ju_,Ju_,Ju_,Ju_,Ju_⟩⟩,bkL s t 0++bkL s t 1++bkL s t 2++bkL s t 3++bkL s t 4):=by
  rw[Ai_,Kd_ _ _ _ _ _ (by omega),Kd_ _ _ _ _ _ (by omega),Kd_ _ _ _ _ _ (by omega),Kd_ _ _ _ _ _ (by omega),Kd_ _ _ _ _ _ (by omega)]
  simp only[A7_]
  rw[show decide (((0+1+1+1+1+1:Nat):Int)<5)=false from rfl,cond_false]
  rfl
theorem end_eq {s:A_} (t:Int) (h:s.slots.e0=Ju_):Ix_ (toQ s) t=(toQ (Ai_ s t).1,(Ai_ s t).2):=by
  rw[Qr_,Ix_,Mg_ _ _ _ _ _ (by omega),Mg_ _ _ _ _ _ (by omega),Mg_ _ _ _ _ _ (by omega),Mg_ _ _ _ _ _ (by omega)]
  simp only[Ev_]
  rw[show decide (((1+1+1+1+1:Nat):Int)<=4)=false from rfl,cond_false]
  have hb:bkL s t 0=[]:=by
    have :(A5.get s.slots 0).isopen=false:=by rw[show A5.get s.slots 0=s.slots.e0 from rfl,h];rfl
    simp[bkL,this]
  rw[hb]
  have e:toQ (clr (clr (clr (clr s 1) 2) 3) 4)=toQ ⟨s.place,s.feed,s.begun,s.over,⟨Ju_,Ju_,Ju_,Ju_,Ju_⟩⟩:=by
    rw[show clr (clr (clr (clr s 1) 2) 3) 4=⟨s.place,s.feed,s.begun,s.over,⟨s.slots.e0,Ju_,Ju_,Ju_,Ju_⟩⟩ from rfl,h]
  rw[e]
  rfl
theorem Zv_:∀ (k:Nat) (r:Bs) (out:List Frame),r.length<k->F0_ k r out=((Gt_ k r out).2,(Gt_ k r out).1.rest,(Gt_ k r out).1.err)
  |0,r,out,h=>by omega
  |k+1,r,out,h=>by
    simp only[F0_,lt,U7_,Gt_,Bool.cond_eq_ite,decide_eq_true_eq]
    by_cases h3:(Di_ r).2.2=3
    · simp[h3]
    · by_cases h0:(Di_ r).2.2=0
      · have :=Mv_ r h0
        simp only[h0,if_true,decide_true,Bool.not_true,Bool.false_eq_true,if_false]
        rw[if_neg (by decide)]
        exact Zv_ k _ _ (by rw[List.length_drop];omega)
      · simp[h3,h0]
theorem feed_wf0:∀ (k:Nat) (r:Bs) (out:List Frame),(∀ f∈out,f.wf)->∀ f∈(Gt_ k r out).2,f.wf
  |0,r,out,h=>h
  |k+1,r,out,h=>by
    simp only[Gt_]
    split
    · refine feed_wf0 k _ _ fun f hf=>?_
      rcases List.mem_append.1 hf with q|q
      · exact h f q
      · rw[List.mem_singleton.1 q];exact parseF_wf r
    · split<;>exact h
theorem feed_wf (f:Feed) (s:Bs):∀ x∈(Ac_ f s).2,x.wf:=by
  unfold Ac_
  split
  · simp
  · exact feed_wf0 _ _ _ (by simp)
theorem kinv_le {c:ChanR} {n m:Nat} (h:KInv c n) (k:n<=m):KInv c m:=⟨h.inv,h.tkq,h.pu.1,by have :=h.pu.2;omega⟩
theorem Rd_ (n:Nat):KInv ⟨0,[],[],false,false,0,⟨[]⟩⟩ n:=⟨⟨by simp,by simp,by simp,by simp,by simp⟩,by simp,by simp⟩
theorem kinv_new (n:Nat):KInv Cz_ n:=⟨inv_new,by simp[Cz_],by simp[Cz_]⟩
theorem Id_ {c d:ChanR} {n:Nat} (h:KInv c n) (hi:Inv d) (h2:d.takers=c.takers) (h7:d.puts=c.puts):KInv d n:=⟨hi,by rw[h2];exact h.tkq,by rw[h7];exact h.pu⟩
theorem Yr_ {c:ChanR} {n:Nat} (k:Int) (h:KInv c n):KInv (Ae_ c k).1 n:=Id_ h (inv_Credit k h.inv) (by simp only[Ae_,Bool.cond_eq_ite];split<;>rfl) (by simp only[Ae_,Bool.cond_eq_ite];split<;>rfl)
theorem kinv_Sure {c:ChanR} {n:Nat} (h:KInv c n):KInv (Bx_ c).1 n:=Id_ h (inv_Sure h.inv) (by simp only[Bx_,Bool.cond_eq_ite];split<;>rfl) (by simp only[Bx_,Bool.cond_eq_ite];split<;>rfl)
theorem kinv_Draft {c:ChanR} {n:Nat} (h:KInv c n):KInv (Be_ c).1 n:=Id_ h (inv_Draft h.inv) (by simp only[Be_,Bool.cond_eq_ite];split<;>rfl) (by simp only[Be_,Bool.cond_eq_ite];split<;>rfl)
theorem U8_ {c:ChanR} {n:Nat} (h:KInv c n):KInv (Bk_ c).1 n:=Id_ h (inv_Undo h.inv) (by simp only[Bk_,Bool.cond_eq_ite];split<;>rfl) (by simp only[Bk_,Bool.cond_eq_ite];split<;>rfl)
theorem V0_ {c:ChanR} {n:Nat} {l:List DeedR} (hl:∀ d∈l,Cq_ d=true) (h:KInv c n):KInv (Af_ c l).1 n:=Id_ h (inv_Hold hl h.inv) (by simp only[Af_,lt,Bool.cond_eq_ite];split<;>rfl) (by simp only[Af_,lt,Bool.cond_eq_ite];split<;>rfl)
theorem kinv_Lend {c:ChanR} {n:Nat} {x:LentR} (hx:x.queue.length<=40) (h:KInv c n):KInv (B4_ c x) n:=Id_ h (inv_Lend hx h.inv) rfl rfl
theorem Ny_:∀ (l:List DeedR) (c:ChanR),(W_ l c).takers=c.takers/\(W_ l c).puts=c.puts
  |[],c=>⟨rfl,rfl⟩
  |d::l,c=>by
    simp only[W_,lt,Bool.cond_eq_ite]
    split<;>exact Ny_ l _
theorem kinv_Gone {c:ChanR} {n:Nat} (l:List DeedR) (h:KInv c n):KInv (Bn_ c l) n:=Id_ h (inv_Gone l h.inv) (Ny_ l c).1 (Ny_ l c).2
theorem kinv_Take {c:ChanR} {n:Nat} (t:Int) {q:Bs} (hq:q.length<=40) (h:KInv c n):KInv (Bi_ c t q).1 n:=by
  refine⟨inv_Take t q h.inv,?_,?_⟩
  · simp only[Bi_,lt,Bool.cond_eq_ite]
    repeat' split
    all_goals first|exact h.tkq|skip
    intro x hx
    simp only[List.flatten_cons,List.flatten_nil,List.append_nil,List.mem_append,List.mem_singleton] at hx
    rcases hx with hx|rfl
    · exact h.tkq x hx
    · exact hq
  · simp only[Bi_,lt,Bool.cond_eq_ite]
    repeat' split
    all_goals exact h.pu
theorem kinv_Leave {c:ChanR} {n:Nat} (t:Int) (h:KInv c n):KInv (A1_ c t).1 n:=by
  refine⟨inv_Leave t h.inv,?_,?_⟩
  · simp only[A1_,lt,Bool.cond_eq_ite]
    split
    · exact h.tkq
    · intro x hx
      simp only[List.flatten_cons,List.flatten_nil,List.append_nil,List.mem_append] at hx
      rcases hx with hx|hx
      · exact h.tkq x (List.mem_of_mem_take hx)
      · exact h.tkq x (List.mem_of_mem_drop hx)
  · simp only[A1_,lt,Bool.cond_eq_ite]
    split<;>exact h.pu
theorem wrapP {k:Int} (h:0<=k) (h2:k<=1000000000):IntKind.wrap .u64 (k+1)=k+1:=by
  simp only[IntKind.wrap,IntKind.bits,IntKind.signed];simp;omega
theorem kinv_Put {c:ChanR} {n:Nat} (hn:n<=1000000000) (h:KInv c n):KInv (Bp_ c).1 (n+1)/\((Bp_ c).1.sure=true->(Bp_ c).1.puts≠0):=by
  have hi:=inv_Put h.inv
  have hw:=wrapP h.pu.1 (by have :=h.pu.2;omega)
  have h1:=h.pu
  revert hi
  simp only[Bp_,Bool.cond_eq_ite,hw]
  split
  · rename_i e
    exact fun _=>⟨kinv_le h (by omega),fun q=>absurd (show c.sure=true from q) (by simpa using e)⟩
  · exact fun hi=>⟨⟨hi,h.tkq,by show 0<=c.puts+1;omega,by show c.puts+1<=_;omega⟩,fun _=>by show c.puts+1≠0;omega⟩
def Qe_ (m:Method):Prop:=E6_ m=0/\0<=m.channel/\0<=m.kind/\0<=m.n
theorem goodK {m:Method} (h:Qe_ m):m.kind<=20:=Ke_ h.1
theorem fits {m:Method} (h0:0<=m.kind) (h:E6_ m=0):m.name.length<=16/\m.other.length<=16/\m.key.length<=64/\Df_ m.head=0/\m.body.length<=256:=by
  have hs:=Ua_ h
  have hc:=ck_all h
  have hk:=Ke_ h
  have hh:=headE_nil
  rcases kinds h0 hk with ⟨e1,-⟩|⟨e1,-⟩|⟨e1,-⟩|⟨e1,-⟩|⟨e1,-⟩|⟨e1,-⟩|⟨e1,-⟩|⟨e1,-⟩|⟨e1,-⟩
  all_goals
    simp only[L4_,hasK,e1] at hs hc
    simp[Mk_,oneE] at hs hc
    have n16:Cr_ m.name=0->m.name.length<=16:=Dt_
    have o16:Cr_ m.other=0->m.other.length<=16:=Dt_
    have k1:keyE [] m.key=0->m.key.length<=64:=N9_
    have k2:keyE patB m.key=0->m.key.length<=64:=N9_
    have on:m.other=[]->m.other.length<=16:=fun e=>by simp[e]
    grind
theorem Xd_ {h:List Pair} (e:Df_ h=0):F7_ h=true:=Y6_ e
theorem Ms_:F7_ []=true:=rfl
theorem W6_ {m:Method} {t d:Int} (h0:0<=m.kind) (h:E6_ m=0):Cq_ (Bd_ m t d)=true:=by
  obtain⟨h1,h2,h3,h4,h5⟩:=fits h0 h
  have :=Xd_ h4
  unfold Bd_
  simp only[Cq_,Hj_,this,Ms_,Bool.and_eq_true,decide_eq_true_eq,List.length_nil,and_true,true_and]
  omega
theorem adm_light {m:Method} {t:Int} (h0:0<=m.kind) (h:E6_ m=0):∀ d∈(B0_ m t).1,Cq_ d=true:=by
  obtain⟨h1,h2,h3,h4,h5⟩:=fits h0 h
  have hl:=Xd_ h4
  simp only[B0_,lt1,Bool.cond_eq_ite]
  repeat' split
  all_goals first|(intro d hd;simp at hd;done)|(intro d hd;rw[List.mem_singleton.1 hd];simp only[Cq_,Hj_,hl,Ms_,Bool.and_eq_true,decide_eq_true_eq,List.length_nil,and_true,true_and];omega)
theorem tick_light (t:Int) (d:DeedR):Cq_ (Ho_ t d)=Cq_ d:=rfl
theorem X6_ {l:List DeedR} (t:Int) (h:∀ d∈l,Cq_ d=true):∀ d∈Cm_ l t,Cq_ d=true:=by
  rw[Sx_]
  intro d hd
  obtain⟨x,hx,rfl⟩:=List.mem_map.1 hd
  rw[tick_light];exact h x hx
theorem held_light {c:ChanR} (t:Int) (h:Inv c):∀ d∈(A4_ c t).1,Cq_ d=true:=by
  simp only[A4_,lt,Bool.cond_eq_ite]
  split
  · simp
  · rw[show Ct_ c.held t=_ from dat c.held.l t]
    exact Ql_ t _ [] h.light (by simp)
theorem R8_ {c:ChanR} (m:Method) (t:Int) (h:Inv c):∀ d∈(A6_ c m t).1,Cq_ d=true:=by
  simp only[A6_,lt,Bool.cond_eq_ite]
  split
  · exact held_light t h
  · exact X6_ t (sets_light _ _ _ h)
theorem Sa_ {c:ChanR} (t:Int) (h:Inv c):∀ d∈C0_ c t,Cq_ d=true:=by
  rw[Ug_]
  intro d hd
  obtain⟨x,hx,rfl⟩:=List.mem_map.1 hd
  have :=h.lent x hx
  simp only[Cq_,Hj_,Ms_,Bool.and_eq_true,decide_eq_true_eq,List.length_nil,and_true,true_and];omega
theorem Hn_ {s:A_} {n m:Nat} (h:SInv s n) (k:n<=m):SInv s m:=⟨fun q hq=>kinv_le (h.ch q hq) k,h.zo⟩
theorem Wl_ {s t:A_} {n:Nat} (h:SInv s n) (e:t.slots=s.slots):SInv t n:=⟨fun q hq=>by rw[e];exact h.ch q hq,by rw[e];exact h.zo⟩
theorem set_e0 {α:Type} (a:A5 α) (v:α) {k:Nat} (h:0<k):(a.set v k).e0=a.e0:=by
  match k,h with
  |1,_=>rfl
  |2,_=>rfl
  |3,_=>rfl
  |_+4,_=>rfl
theorem K2_ {s:A_} {n k:Nat} {x:SlotR} (h:SInv s n) (h0:0<k) (hk:k<5) (hx:KInv x.chan n) {p:Bs} {f:Feed} {b o:Bool}:SInv ⟨p,f,b,o,A5.set s.slots x k⟩ n:=⟨fun q hq=>by
  simp only[A5.get_set _ _ _ _ hk hq]
  split
  · exact hx
  · exact h.ch q hq,(set_e0 _ _ h0).trans h.zo⟩
theorem Mu_ {s:A_} {m:Method} {c:ChanR} {n:Nat} (h:SInv s n) (hc:KInv c n) (h0:0<m.channel) (h4:m.channel<=4):SInv (R_ s m c) n:=K2_ h (by omega) (by omega) hc
theorem kinv_own {c:ChanR} {n:Nat} {m:Method} (hm:m.name.length<=40) (h:KInv c n):KInv (C6_ c m).1 n:=by
  unfold C6_
  let P:(ChanR×Int×Bool)->Prop:=fun r=>KInv r.1 n
  change P _
  repeat' (with_reducible first|(refine ltP (fun v hv=>?_))|(refine An_ (fun _=>?_) (fun _=>?_))|(subst hv;first|exact Yr_ _ h|exact kinv_Take _ hm h|exact kinv_Leave _ h|exact kinv_Sure h|exact kinv_Draft h|exact U8_ h)|exact h)
theorem V8_ {s:A_} {n:Nat} {t:TakerS} (x:ItemR) (hq:t.queue.length<=40) (h:SInv s n) (ht:0<=t.channel):SInv (M_ s t x).1 n:=by
  simp only[M_,lt,Bool.cond_eq_ite]
  split
  · exact h
  · rename_i hc
    simp only[Bool.or_eq_true,decide_eq_true_eq,not_or,Bool.not_eq_true'] at hc
    have h0:0<t.channel.toNat:=by
      by_cases q:t.channel.toNat=0
      · exfalso;apply hc.2;rw[q];show s.slots.e0.isopen=false;rw[h.zo]
      · omega
    exact K2_ h h0 (by omega) (kinv_Lend hq (h.ch _ (by omega)))
theorem Pi_ {s:A_} {m:Method} {l:List Bs_} {e:Int} {n:Nat} (h:SInv s n) (hm:m.name.length<=40) (h0:0<m.channel):SInv (H_ s m l e).1 n:=by
  let P:(A_×List Reply)->Prop:=fun r=>SInv r.1 n
  unfold H_
  change P _
  refine An_ (fun _=>h) fun hc=>?_
  simp only[Bool.or_eq_false_iff,decide_eq_false_iff_not] at hc
  have hch:=h.ch m.channel.toNat (by omega)
  refine lp2P (fun x=>SInv x.1 n) P ?_ (fun a b ha=>ltP fun r hr=>ha) (fun r hr=>hr)
  refine An_ (fun _=>ltP fun r hr=>h) fun _=>?_
  refine An_ (fun _=>An_ (fun _=>h) fun _=>An_ (fun hz=>ltP fun r1 hr=>?_) fun _=>h) fun _=>?_
  · subst hr;exact V8_ _ hm h (by show 0<=m.channel;omega)
  refine lt1P fun v _=>An_ (fun _=>ltP fun r2 h2=>lt1P fun x2 hx=>?_) fun _=>An_ (fun _=>An_ (fun _=>K2_ h (by omega) (by omega) (Rd_ n)) fun _=>h) fun _=>h
  have hx2:KInv x2.chan n:=by
    subst hx
    exact An_ (P:=fun c:SlotR=>KInv c.chan n) (fun _=>ltP (P:=fun c:SlotR=>KInv c.chan n) fun r6 h6=>by subst h6;exact kinv_Gone _ hch) fun _=>hch
  exact An_ (fun _=>ltP fun r4 h4=>by subst h4;exact K2_ h (by omega) (by omega) (U8_ hx2)) fun _=>K2_ h (by omega) (by omega) hx2
structure PlanR (n:Nat) (m:Method) (s:A_) (l:List DeedR):Prop where
  inv:SInv s (n+1)
  lig:∀ d∈l,Cq_ d=true
  nxt:0<l.length->0<m.channel/\m.channel<=4/\(A5.get s.slots m.channel.toNat).isopen=true/\(m.kind=11->(A5.get s.slots m.channel.toNat).chan.sure=true->(A5.get s.slots m.channel.toNat).chan.puts≠0)
theorem Ft_ {n:Nat} {m:Method} {s:A_} (h:SInv s (n+1)):PlanR n m s []:=⟨h,by simp,by simp⟩
theorem M9_ {n:Nat} {m:Method} {s:A_} {l:List DeedR} (h:SInv s n) (hl:∀ d∈l,Cq_ d=true) (h0:0<m.channel) (h4:m.channel<=4) (ho:(A5.get s.slots m.channel.toNat).isopen=true) (hk:m.kind≠11):PlanR n m s l:=
  ⟨Hn_ h (by omega),hl,fun _=>⟨h0,h4,ho,fun q=>absurd q hk⟩⟩
theorem splan_R {s:A_} {m:Method} {t:Int} {n:Nat} (hn:n<=1000000000) (h:SInv s n) (hm:Qe_ m) (h0:0<m.channel) (h4:m.channel<=4) (ho:(A5.get s.slots m.channel.toNat).isopen=true) :
    PlanR n m (F_ s m t).1 (F_ s m t).2.2:=by
  have hch:=h.ch m.channel.toNat (by omega)
  have hf:=fits hm.2.2.1 hm.1
  have h1:=Hn_ h (Nat.le_succ n)
  let P:(A_×List Reply×List DeedR)->Prop:=fun r=>PlanR n m r.1 r.2.2
  have had:=adm_light (m:=m) (t:=t) hm.2.2.1 hm.1
  have hadk:m.kind=11->B0_ m t=([],false):=fun q=>adm_no t (by omega)
  change P _
  unfold F_
  refine ltP fun r hr=>An_ (fun hb=>?_) fun _=>ltP fun r1 h1'=>An_ (fun _=>ltP fun r2 h2=>ltP fun r3 h3=>?_) fun _=>?_
  · subst hr
    exact M9_ h had h0 h4 ho (fun q=>by rw[hadk q] at hb;cases hb)
  · subst h2;subst h1'
    exact Ft_ (Hn_ (Mu_ h (kinv_own (by omega) hch) h0 h4) (Nat.le_succ n))
  refine lp0P (m.kind≠11) P ?_ (fun k11=>?_) (fun r hr=>hr)
  · refine An_ (fun k11=>An_ (fun _=>ltP fun r4 h4'=>ltP fun r5 h5=>An_ (fun _=>ltP fun r6 h6=>?_) fun _=>ltP fun r7 h7=>Ft_ h1) fun _=>ltP fun r8 h8=>ltP fun r9 h9=>ltP fun r10 h10=>?_) fun k11=>?_
    · subst h6;subst h5;subst h4'
      exact Ft_ (Hn_ (Mu_ h (V0_ (fun d hd=>by rw[List.mem_singleton.1 hd];exact W6_ hm.2.2.1 hm.1) hch) h0 h4) (Nat.le_succ n))
    · subst h9;subst h8;subst h10
      obtain⟨p1,p2⟩:=kinv_Put hn hch
      refine⟨Mu_ h1 p1 h0 h4,fun d hd=>by rw[List.mem_singleton.1 hd];exact W6_ hm.2.2.1 hm.1,fun _=>⟨h0,h4,?_,?_⟩⟩
      · simp only[R_,A5.get_set _ _ _ _ (show m.channel.toNat<5 by omega) (show m.channel.toNat<5 by omega),if_true];exact ho
      · intro _
        simp only[R_,A5.get_set _ _ _ _ (show m.channel.toNat<5 by omega) (show m.channel.toNat<5 by omega),if_true];exact p2
    have k11:m.kind≠11:=by simpa using k11
    refine An_ (fun _=>ltP fun r11 _=>An_ (fun _=>ltP fun r12 h12=>Ft_ h1) fun _=>M9_ h (fun d hd=>?_) h0 h4 ho k11) fun _=>lt1P fun v _=>An_ (fun _=>?_) fun _=>k11
    · rw[List.mem_singleton.1 hd]
      simp only[Cq_,Hj_,Ms_,Bool.and_eq_true,decide_eq_true_eq,List.length_nil,and_true,true_and]
      omega
    refine ltP fun r13 h13=>An_ (fun _=>ltP fun r14 h14=>ltP fun r15 h15=>ltP fun r16 h16=>ltP fun r17 h17=>?_) fun _=>?_
    · subst h16;subst h15;subst h14;subst h13
      exact Ft_ (Hn_ (Mu_ h (V0_ (X6_ _ (R8_ _ _ hch.inv)) hch) h0 h4) (Nat.le_succ n))
    refine An_ (fun _=>ltP fun r18 h18=>Ft_ h1) fun _=>An_ (fun _=>ltP fun r19 h19=>Ft_ h1) fun _=>?_
    subst h13
    exact M9_ h (R8_ _ _ hch.inv) h0 h4 ho k11
  · refine ltP fun r20 h20=>An_ (fun _=>ltP fun r21 h21=>?_) fun _=>?_
    · subst h21
      exact Ft_ (Pi_ h1 (by omega) h0)
    · subst h20
      exact M9_ h (Sa_ t hch.inv) h0 h4 ho k11
theorem plan_ch0 {s:A_} {m:Method} (h:Al_ s m=0) (k0:¬m.kind=0):m.channel≠0/\m.channel<=4:=by
  revert h
  simp only[Al_]
  generalize (A5.get s.slots m.channel.toNat).isopen=b
  by_cases h4:4<m.channel<;>cases s.over<;>cases s.begun<;>cases b<;>by_cases c0:m.channel=0<;>simp[k0,h4,c0]<;>omega
theorem sPlan_R {s:A_} {m:Method} {t:Int} {n:Nat} (hn:n<=1000000000) (h:SInv s n) (hm:Qe_ m):PlanR n m (G_ s m t).1 (G_ s m t).2.2.1:=by
  have h1:=Hn_ h (Nat.le_succ n)
  let P:(A_×List Reply×List DeedR×Int)->Prop:=fun r=>PlanR n m r.1 r.2.2.1
  change P _
  unfold G_
  refine ltP fun r hr=>An_ (fun _=>Ft_ h1) fun hz=>An_ (fun _=>Ft_ (Wl_ h1 rfl)) fun hk=>?_
  have hz:Al_ s m=0:=by subst hr;simpa using hz
  have hk:¬m.kind=0:=by simpa using hk
  obtain⟨c0,c4⟩:=plan_ch0 hz hk
  have hp:=hm.2.1
  refine An_ (fun _=>ltP fun r1 h1'=>ltP fun r2 h2=>?_) fun hk1=>ltP fun r3 h3=>?_
  · subst h1'
    exact Ft_ (K2_ h1 (by omega) (by omega) (kinv_new _))
  · have hk1:¬m.kind=1:=by simpa using hk1
    subst h3
    exact splan_R hn h hm (by omega) c4 (Xi_ hz hk hk1).2
theorem rsame0:∀ (k:Nat) (a b:List Reply),a.length+k=b.length->C4_ b a k = decide (a=b.drop k)
  |k,[],b,h=>by
    have :b.drop k=[]:=List.drop_of_length_le (by simp at h;omega)
    simp[C4_,this]
  |k,x::a,b,h=>by
    simp only[List.length_cons] at h
    simp only[C4_]
    rw[Fr_ (xs:=b) (k:=k) (by omega),rsame0 (k+1) a b (by omega)]
    by_cases e:x=gt b k<;>simp[e]
theorem rsame (a:List Reply):Ec_ a a=true:=by
  unfold Ec_
  simp only[decide_true,Bool.not_true,cond_false]
  rw[rsame0 0 a a (by omega)];simp
theorem tsame0:∀ (k:Nat) (a b:List TakerS),a.length+k=b.length->B8_ b a k = decide (a=b.drop k)
  |k,[],b,h=>by
    have :b.drop k=[]:=List.drop_of_length_le (by simp at h;omega)
    simp[B8_,this]
  |k,x::a,b,h=>by
    simp only[List.length_cons] at h
    simp only[B8_]
    rw[Fr_ (xs:=b) (k:=k) (by omega),tsame0 (k+1) a b (by omega)]
    by_cases e:x=gt b k<;>simp[e]
theorem tsame (a:List TakerS):Eq_ a a=true:=by
  unfold Eq_
  simp only[decide_true,Bool.not_true,cond_false]
  rw[tsame0 0 a a (by omega)];simp
def Ea_ (s:SessR) (r:(List Frame)×Bs×Int):List Frame->List Method->SessR×(List Method)×Int
  |[],out=>((⟨s.place,r.2.1,r.2.2,s.begun,s.over,s.opens,s.chans⟩:SessR),out,r.2.2)
  |x::t,out=>lt (Hb_ x) fun r1=>
 (bif !decide (r1.2=0) then
 ((⟨s.place,r.2.1,r.2.2,s.begun,s.over,s.opens,s.chans⟩:SessR),out,r1.2)
 else Ea_ s r t (out++[r1.1]))
def Fp_ (s:SessR) (chunk:Bs):SessR×(List Method)×Int:=
 (bif s.over then
 (s,[],20)
 else (bif !decide (s.bad=0) then
 (s,[],s.bad)
 else lt (Hz_ (s.rest++chunk)) fun r=>
 Ea_ s r r.1 []))
def Nh_:Bool:=
 lt (E7_ [108,111,119]) fun r=>
 lt (G_ r (⟨0,0,[],[],[],[],[],1,0,false⟩:Method) 0) fun r1=>
 lt (G_ r1.1 (⟨0,0,[],[],[],[],[],1,0,false⟩:Method) 0) fun r2=>
 ((((((((Mx_)&&(Qd_))&&(Qp_))&&true)&&(decide (r1.2.2.2=0)))&&(decide ((r1.2.1.length:Int)=1)))&&(decide (((gt r1.2.1 0).kind)=0)))&&(decide (r2.2.2.2=13)))
def Dn_:List TakerS->List TakerS->(List TakerS)
  |[],out=>out
  |x::t,out=>Dn_ t (out++[x])
def Gg_ (l:List TakerS):(List TakerS):=
 Dn_ l []
def F6_ (s:A_) (q:SessR) (m:Method) (a:Act28R):A_×SessR×Bool:=
 lt (G_ s m a.tick) fun r=>
 lt (Ie_ m) fun r1=>
 lt (E4_ q r1 a.tick) fun r2=>
 lt (Ic_ r.2.2.1) fun r3=>
 (bif (((!decide (r.2.2.2=r2.2.2.2))||(!(Ec_ (Ge_ r.2.1) r2.2.1)))||(!(Fs_ r3.1 r2.2.2.1))) then
 (r.1,r2.1,false)
 else (bif decide ((r.2.2.1.length:Int)=0) then
 (r.1,r2.1,true)
 else lt (F5_ a) fun r4=>
 (bif !decide (r4=0) then
 lt (H_ r.1 m [] (F5_ a)) fun r5=>
 lt (Ie_ m) fun r6=>
 lt (D3_ r2.1 r6 a.item (F5_ a)) fun r7=>
 lt (Ge_ r5.2) fun r8=>
 (r5.1,r7.1,(Ec_ r8 r7.2))
 else lt (H_ r.1 m ((List.replicate r.2.2.1.length (⟨(⟨(⟨0,[],[],[],[],0,0⟩:Mail),false,false⟩:ItemR),0,0⟩:Bs_)).set 0 (⟨a.item,(gt (List.replicate r.2.2.1.length (⟨(⟨(⟨0,[],[],[],[],0,0⟩:Mail),false,false⟩:ItemR),0,0⟩:Bs_)) 0).count,(gt (List.replicate r.2.2.1.length (⟨(⟨(⟨0,[],[],[],[],0,0⟩:Mail),false,false⟩:ItemR),0,0⟩:Bs_)) 0).lost⟩:Bs_)) (F5_ a)) fun r9=>
 lt (Ie_ m) fun r10=>
 lt (D3_ r2.1 r10 a.item (F5_ a)) fun r11=>
 lt (Ge_ r9.2) fun r12=>
 (r9.1,r11.1,(Ec_ r12 r11.2)))))
theorem set_gt0 {α:Type} [Inhabited α] {l:List α} {x:α} (h:0<l.length):gt (l.set 0 x) 0=x:=by
  cases l with
  |nil=>simp at h
  |cons a l=>rfl
theorem ask_same {s:A_} {m:Method} {a:Act28R} {n:Nat} (hn:n<=1000000000) (h:SInv s n) (hm:Qe_ m):∃ t,F6_ s (toQ s) m a=(t,toQ t,true)/\SInv t (n+1):=by
  have hP:=sPlan_R (t:=a.tick) hn h hm
  have hf:=fits hm.2.2.1 hm.1
  have hk:=goodK hm
  simp only[F6_,lt,H3_,Plan_eq a.tick h hk hm.2.2.1 hm.2.2.2 hm.2.1,Nf_,rsame,Qq_ hP.lig,Ur_]
  generalize hg:G_ s m a.tick=P at *
  obtain⟨s',r,l,e⟩:=P
  simp only at hP ⊢
  simp only[decide_true,Bool.not_true,Bool.or_self,cond_false]
  by_cases hl:l=[]
  · exact⟨s',by simp[hl],hP.inv⟩
  · have hpos:0<l.length:=List.length_pos_iff.2 hl
    obtain⟨c0,c4,ho,hp⟩:=hP.nxt hpos
    have hi:=(hP.inv.ch m.channel.toNat (by omega)).inv
    rw[show decide ((l.length:Int)=0)=false by simp[hl],cond_false]
    by_cases he:F5_ a=0
    · simp only[he,decide_true,Bool.not_true,cond_false]
      have hr:0<((List.replicate l.length (⟨⟨⟨0,[],[],[],[],0,0⟩,false,false⟩,0,0⟩:Bs_)).set 0 ⟨a.item,(gt (List.replicate l.length (⟨⟨⟨0,[],[],[],[],0,0⟩,false,false⟩,0,0⟩:Bs_)) 0).count,(gt (List.replicate l.length (⟨⟨⟨0,[],[],[],[],0,0⟩,false,false⟩,0,0⟩:Bs_)) 0).lost⟩).length:=by rw[List.length_set,List.length_replicate];exact hpos
      have hg0:=set_gt0 (l:=List.replicate l.length (⟨⟨⟨0,[],[],[],[],0,0⟩,false,false⟩,0,0⟩:Bs_)) (x:=⟨a.item,(gt (List.replicate l.length (⟨⟨⟨0,[],[],[],[],0,0⟩,false,false⟩,0,0⟩:Bs_)) 0).count,(gt (List.replicate l.length (⟨⟨⟨0,[],[],[],[],0,0⟩,false,false⟩,0,0⟩:Bs_)) 0).lost⟩) (by rw[List.length_replicate];exact hpos)
      generalize (List.replicate l.length (⟨⟨⟨0,[],[],[],[],0,0⟩,false,false⟩,0,0⟩:Bs_)).set 0 _=R at *
      rw[told_eq (x:=a.item) (e:=0) (l:=R) c4 ho hi (fun _ _=>⟨hr,by rw[hg0]⟩) hp,rsame]
      exact⟨_,rfl,Pi_ hP.inv (by omega) c0⟩
    · simp only[he,decide_false,Bool.not_false,cond_true]
      rw[told_eq (x:=a.item) (e:=F5_ a) (l:=[]) c4 ho hi (fun q=>absurd q he) hp,rsame]
      exact⟨_,rfl,Pi_ hP.inv (by omega) c0⟩
theorem of_n0:∀ (l:List UInt8) (x:Method) (i:In),0<=x.n->0<=(E_ l x i).1.n
  |[],x,i,h=>by
    rw[E_]
    simp only[lt,Bool.cond_eq_ite]
    repeat' split
    all_goals first|exact h|simp
  |c::l,x,i,h=>by
    have hr:=(Da_ i 8).1
    let P:(Method×Int)->Prop:=fun r=>0<=r.1.n
    rw[E_]
    change P _
    repeat' (with_reducible first|(refine An_ (fun _=>?_) (fun _=>?_))|(refine ltP (fun v hv=>?_)))
    all_goals first|exact of_n0 l _ _ h|(subst hv;exact of_n0 l _ _ hr)
theorem of_n (f:Frame):0<=(Cb_ f).1.n:=by
  simp only[Cb_,Bool.cond_eq_ite]
  split
  · simp
  · exact of_n0 _ _ _ (by simp)
theorem of_good {f:Frame} (hw:f.wf) (h:(Cb_ f).2=0):Qe_ (Cb_ f).1:=by
  obtain⟨x,e,h1,h2,h3,-⟩:=of_back hw.2.1.1 h
  have hn:=of_n f
  rw[e] at hn ⊢
  refine⟨h1,?_,?_,hn⟩
  · show 0<=x.channel;rw[h2];exact hw.1.1
  · show 0<=x.kind;rw[h3];exact hw.2.1.1
def mg (e:Int):List Frame->List Method->List Method×Int
  |[],out=>(out,e)
  |f::l,out=>if (Cb_ f).2=0 then mg e l (out++[(Cb_ f).1]) else (out,(Cb_ f).2)
theorem mg_good (e:Int):∀ (l:List Frame) (out:List Method),(∀ f∈l,f.wf)->(∀ m∈out,Qe_ m)->∀ m∈(mg e l out).1,Qe_ m
  |[],out,_,h=>h
  |f::l,out,hw,h=>by
    rw[mg]
    split
    · rename_i h0
      refine mg_good e l _ (fun x hx=>hw x (List.mem_cons_of_mem _ hx)) fun m hm=>?_
      rcases List.mem_append.1 hm with q|q
      · exact h m q
      · rw[List.mem_singleton.1 q];exact of_good (hw f List.mem_cons_self) h0
    · exact h
theorem mg_len (e:Int):∀ (l:List Frame) (out:List Method),(mg e l out).1.length<=out.length+l.length
  |[],out=>by simp[mg]
  |f::l,out=>by
    rw[mg]
    split
    · have :=mg_len e l (out++[(Cb_ f).1]);simp only[List.length_append,List.length_cons,List.length_nil] at *;omega
    · simp
theorem stake0 (s:A_) (c:Bs):∀ (fu:Nat) (out:List Method) (v:Nat),(Ac_ s.feed c).2.length<fu+v->v<=(Ac_ s.feed c).2.length ->
    Cn_ s c fu out v=(⟨s.place,(Ac_ s.feed c).1,s.begun,s.over,s.slots⟩,mg (Ac_ s.feed c).1.err ((Ac_ s.feed c).2.drop v) out)
  |0,out,v,h,h2=>by omega
  |fu+1,out,v,h,h2=>by
    simp only[Cn_,lt,Bool.cond_eq_ite]
    by_cases hv:v<(Ac_ s.feed c).2.length
    · rw[if_pos (by simpa using hv),Fr_ hv,mg]
      by_cases h0:(Cb_ (gt (Ac_ s.feed c).2 v)).2=0
      · rw[if_neg (by simp[h0]),if_pos h0]
        exact stake0 s c fu _ (v+1) (by omega) (by omega)
      · rw[if_pos (by simp[h0]),if_neg h0]
    · rw[if_neg (by simpa using hv),List.drop_of_length_le (by omega),mg]
theorem Ox_ (s:A_) (c:Bs):J_ s c = bif s.over then (s,[],20) else (⟨s.place,(Ac_ s.feed c).1,s.begun,s.over,s.slots⟩,mg (Ac_ s.feed c).1.err (Ac_ s.feed c).2 []):=by
  simp only[J_]
  rw[stake0 s c _ [] 0 (by omega) (by omega),List.drop_zero]
theorem rtake0 (q:SessR) (r:List Frame×Bs×Int):∀ (l:List Frame) (out:List Method),(∀ f∈l,f.wf)->Ea_ q r l out=(⟨q.place,r.2.1,r.2.2,q.begun,q.over,q.opens,q.chans⟩,mg r.2.2 l out)
  |[],out,_=>rfl
  |f::l,out,hw=>by
    have hf:=hw f List.mem_cons_self
    simp only[Ea_,lt,parse_eq hf.2.1.1 hf.2.2,mg,Bool.cond_eq_ite]
    by_cases h0:(Cb_ f).2=0
    · rw[if_neg (by simp[h0]),if_pos h0]
      exact rtake0 q r l _ fun x hx=>hw x (List.mem_cons_of_mem _ hx)
    · rw[if_pos (by simp[h0]),if_neg h0]
theorem take_eq (s:A_) (c:Bs):Fp_ (toQ s) c=(toQ (J_ s c).1,(J_ s c).2.1,(J_ s c).2.2):=by
  obtain⟨p,fe,b,o,sl⟩:=s
  generalize hs:(⟨p,fe,b,o,sl⟩:A_)=s
  rw[Ox_]
  simp only[Fp_,lt,show (toQ s).over=s.over from rfl,show (toQ s).bad=s.feed.err from rfl,show (toQ s).rest=s.feed.rest from rfl]
  cases o
  · have ho:s.over=false:=by rw[<- hs]
    simp only[ho,cond_false]
    by_cases he:s.feed.err=0
    · have hT:Ac_ s.feed c=Gt_ ((s.feed.rest++c).length+1) (s.feed.rest++c) []:=by unfold Ac_;rw[if_neg (by simp[he])]
      have hw:=feed_wf s.feed c
      rw[Hz_,Zv_ _ _ _ (by omega),<- hT]
      simp only[he,decide_true,Bool.not_true,cond_false]
      rw[rtake0 _ _ _ _ hw,<- hs]
      rfl
    · have hT:Ac_ s.feed c=(s.feed,[]):=by unfold Ac_;rw[if_pos (by simp[he])]
      rw[hT]
      simp only[he,decide_false,Bool.not_false,cond_true,mg]
      rw[<- hs]
  · have ho:s.over=true:=by rw[<- hs]
    simp only[ho,cond_true]
theorem Wj_ (s:A_) (c:Bs):∀ m∈(J_ s c).2.1,Qe_ m:=by
  rw[Ox_]
  cases s.over
  · exact mg_good _ _ _ (feed_wf s.feed c) (by simp)
  · simp
theorem S3_ (s:A_) (c:Bs):(J_ s c).1.slots=s.slots:=by
  rw[Ox_]
  cases s.over<;>rfl
theorem Uk_ (s:A_) (c:Bs):(J_ s c).2.1.length+(J_ s c).1.feed.rest.length<=s.feed.rest.length+c.length:=by
  rw[Ox_]
  have h1:=Tu_ s.feed c
  have h2:=mg_len (Ac_ s.feed c).1.err (Ac_ s.feed c).2 []
  simp only[List.length_nil] at h2
  cases s.over
  · simp only[cond_false];omega
  · simp
def Both (n:Nat) (r:A_×SessR×Bool):Prop:=SOk r.1 n/\QOk r.2.1 n
theorem ask_ok {s:A_} {q:SessR} {m:Method} {a:Act28R} {n:Nat} (hs:SOk s n) (hq:QOk q n) (h0:0<=m.channel) (hn:0<=m.n) (hi:a.item.mail.head.length<=1000000):Both (n+1) (F6_ s q m a):=by
  have hp:=Uo_ (t:=a.tick) hs h0
  have hr:=rPlan_Q (t:=a.tick) hq h0 hn
  unfold F6_
  refine ltP (P:=Both (n+1)) fun r hr'=>ltP fun r1 h1=>ltP fun r2 h2=>ltP fun r3 h3=>An_ (fun _=>?_) fun _=>An_ (fun _=>?_) fun hl=>ltP fun r4 h4=>An_ (fun _=>ltP fun r5 h5=>ltP fun r6 h6=>ltP fun r7 h7=>ltP fun r8 h8=>?_) fun _=>ltP fun r9 h9=>ltP fun r10 h10=>ltP fun r11 h11=>ltP fun r12 h12=>?_
  all_goals (subst hr';rw[H3_] at h1;rw[h1] at h2;subst h2)
  · exact⟨Ff_ hp.1 (Nat.le_succ n),Fq_ hr (Nat.le_succ n)⟩
  · exact⟨Ff_ hp.1 (Nat.le_succ n),Fq_ hr (Nat.le_succ n)⟩
  · have hl:0<(G_ s m a.tick).2.2.1.length:=by
      have :¬(((G_ s m a.tick).2.2.1.length:Int)=0):=by simpa using hl
      omega
    have h4':=hp.2.2.2 hl
    subst h5;rw[H3_] at h6;rw[h6] at h7;subst h7
    exact⟨(Nx_ (k:=n+1) hp.1 (Nat.le_succ n) (fun _=>Nat.le_refl _) (by simp) h0).1,rTold_Q hr h0 h4'⟩
  · have hl:0<(G_ s m a.tick).2.2.1.length:=by
      have :¬(((G_ s m a.tick).2.2.1.length:Int)=0):=by simpa using hl
      omega
    have h4':=hp.2.2.2 hl
    subst h9;rw[H3_] at h10;rw[h10] at h11;subst h11
    exact⟨(Nx_ (k:=n+1) hp.1 (Nat.le_succ n) (fun _=>Nat.le_refl _) (Ki_ (by simp) hi) h0).1,rTold_Q hr h0 h4'⟩
theorem good_head {m:Method} (h:Qe_ m):m.head.length<=1000000:=by
  have :=(J4_ (fits h.2.2.1 h.1).2.2.2.1).1
  omega
def MHd (l:List Method):Prop:=∀ m∈l,m.head.length<=1000000/\0<=m.channel/\0<=m.n
theorem stake_hd (s:A_) (c:Bs):MHd (J_ s c).2.1:=fun m hm=>have h:=Wj_ s c m hm;⟨good_head h,h.2.1,h.2.2.2⟩
theorem Qy_ {s:A_} {n:Nat} (c:Bs) (h:SOk s n):SOk (J_ s c).1 n:=sok_same h (S3_ s c)
theorem Vd_ (q:SessR) (r:List Frame×Bs×Int):∀ (l:List Frame) (out:List Method),(Ea_ q r l out).1=⟨q.place,r.2.1,r.2.2,q.begun,q.over,q.opens,q.chans⟩
  |[],out=>rfl
  |f::l,out=>by
    simp only[Ea_,lt,Bool.cond_eq_ite]
    split
    · rfl
    · exact Vd_ q r l _
theorem T9_ (q:SessR) (c:Bs):(Fp_ q c).1.rest.length<=q.rest.length+c.length/\(Fp_ q c).1.chans=q.chans:=by
  have h8:=r8_len (q.rest++c)
  rw[List.length_append] at h8
  simp only[Fp_,lt,Bool.cond_eq_ite]
  split
  · exact⟨by simp,rfl⟩
  · split
    · exact⟨by simp,rfl⟩
    · rw[Vd_]
      exact⟨by show (Hz_ _).2.1.length<=_;omega,rfl⟩
theorem Q7_ {q:SessR} {n:Nat} (c:Bs) (h:QOk q n):QOk (Fp_ q c).1 n:=U1_ h (T9_ q c).2
theorem Nl_ (s:A_) (t:TakerS) (x:ItemR):(M_ s t x).1.feed=s.feed:=by
  simp only[M_,lt,Bool.cond_eq_ite];split<;>rfl
theorem Sd_ (q:SessR) (t:TakerS) (x:ItemR):(Ga_ q t x).1.rest=q.rest:=by
  simp only[Ga_,lt,Bool.cond_eq_ite];split<;>rfl
theorem Od_ (s:A_) (m:Method) (l:List Bs_) (e:Int):(H_ s m l e).1.feed=s.feed:=by
  let P:(A_×List Reply)->Prop:=fun r=>r.1.feed=s.feed
  unfold H_
  change P _
  refine An_ (fun _=>rfl) fun _=>lp2P (fun x=>x.1.feed=s.feed) P ?_ (fun a b ha=>ltP fun r hr=>ha) (fun r hr=>hr)
  repeat' (with_reducible first|(refine An_ (fun _=>?_) (fun _=>?_))|(refine ltP (fun v hv=>?_))|(refine lt1P (fun v hv=>?_)))
  all_goals first|exact rfl|(subst hv;exact Nl_ _ _ _)
theorem splan_feed (s:A_) (m:Method) (t:Int):(F_ s m t).1.feed=s.feed:=by
  let P:(A_×List Reply×List DeedR)->Prop:=fun r=>r.1.feed=s.feed
  unfold F_
  change P _
  refine ltP fun r _=>An_ (fun _=>rfl) fun _=>ltP fun r1 _=>An_ (fun _=>ltP fun r2 h2=>ltP fun r3 _=>?_) fun _=>lp0P True P ?_ (fun _=>?_) (fun r hr=>hr)
  · subst h2;rfl
  · repeat' (with_reducible first|(refine An_ (fun _=>?_) (fun _=>?_))|(refine ltP (fun v hv=>?_))|(refine lt1P (fun v hv=>?_)))
    all_goals first|exact rfl|trivial|(subst_vars;exact rfl)
  · refine ltP fun r20 _=>An_ (fun _=>ltP fun r21 h21=>?_) fun _=>rfl
    subst h21;exact Od_ _ _ _ _
theorem sPlan_feed (s:A_) (m:Method) (t:Int):(G_ s m t).1.feed=s.feed:=by
  let P:(A_×List Reply×List DeedR×Int)->Prop:=fun r=>r.1.feed=s.feed
  unfold G_
  change P _
  refine ltP fun r _=>An_ (fun _=>rfl) fun _=>An_ (fun _=>rfl) fun _=>An_ (fun _=>ltP fun r1 _=>ltP fun r2 _=>rfl) fun _=>ltP fun r3 h3=>?_
  subst h3;exact splan_feed _ _ _
theorem rput_rest (q:SessR) (m:Method) (t:Int):(Du_ q m t).1.rest=q.rest:=by
  let P:(SessR×List Reply×List DeedR)->Prop:=fun r=>r.1.rest=q.rest
  unfold Du_
  change P _
  repeat' (with_reducible first|(refine An_ (fun _=>?_) (fun _=>?_))|(refine ltP (fun v hv=>?_))|(refine lt1P (fun v hv=>?_)))
  all_goals exact rfl
theorem Wy_ (q:SessR) (m:Method) (t:Int):(B6_ q m t).1.rest=q.rest:=by
  let P:(SessR×List Reply×List DeedR)->Prop:=fun r=>r.1.rest=q.rest
  unfold B6_
  change P _
  repeat' (with_reducible first|(refine An_ (fun _=>?_) (fun _=>?_))|(refine ltP (fun v hv=>?_))|(refine lt1P (fun v hv=>?_)))
  all_goals exact rfl
theorem rPlan_rest (q:SessR) (m:Method) (t:Int):(E4_ q m t).1.rest=q.rest:=by
  let P:(SessR×List Reply×List DeedR×Int)->Prop:=fun r=>r.1.rest=q.rest
  unfold E4_
  change P _
  refine ltP fun r _=>An_ (fun _=>rfl) fun _=>An_ (fun _=>rfl) fun _=>An_ (fun _=>ltP fun r1 _=>ltP fun r2 _=>rfl) fun _=>lp0P True P ?_ (fun _=>ltP fun _ _=>ltP fun _ _=>rfl) (fun r hr=>hr)
  repeat' (with_reducible first|(refine An_ (fun _=>?_) (fun _=>?_))|(refine ltP (fun v hv=>?_))|(refine lt1P (fun v hv=>?_)))
  all_goals first|exact rfl|trivial|(subst_vars;first|exact rput_rest _ _ _|exact Wy_ _ _ _)
theorem Rw_ (q:SessR) (m:Method) (x:ItemR) (e:Int):(D3_ q m x e).1.rest=q.rest:=by
  let P:(SessR×List Reply)->Prop:=fun r=>r.1.rest=q.rest
  unfold D3_
  change P _
  refine lp2P (fun x=>x.1.rest=q.rest) P ?_ (fun a b ha=>ltP fun r hr=>ha) (fun r hr=>hr)
  repeat' (with_reducible first|(refine An_ (fun _=>?_) (fun _=>?_))|(refine ltP (fun v hv=>?_))|(refine lt1P (fun v hv=>?_)))
  all_goals first|exact rfl|(subst hv;exact Sd_ _ _ _)
theorem K3_ (s:A_) (q:SessR) (m:Method) (a:Act28R):(F6_ s q m a).1.feed=s.feed/\(F6_ s q m a).2.1.rest=q.rest:=by
  let P:(A_×SessR×Bool)->Prop:=fun r=>r.1.feed=s.feed/\r.2.1.rest=q.rest
  unfold F6_
  change P _
  refine ltP fun r hr'=>ltP fun r1 h1=>ltP fun r2 h2=>ltP fun r3 h3=>?_
  have e1:r.1.feed=s.feed:=by subst hr';exact sPlan_feed _ _ _
  have e2:r2.1.rest=q.rest:=by subst h2;exact rPlan_rest _ _ _
  refine An_ (fun _=>⟨e1,e2⟩) fun _=>An_ (fun _=>⟨e1,e2⟩) fun hl=>ltP fun r4 h4=>An_ (fun _=>ltP fun r5 h5=>ltP fun r6 h6=>ltP fun r7 h7=>ltP fun r8 h8=>?_) fun _=>ltP fun r9 h9=>ltP fun r10 h10=>ltP fun r11 h11=>ltP fun r12 h12=>?_
  · subst h5;subst h7;exact⟨(Od_ _ _ _ _).trans e1,(Rw_ _ _ _ _).trans e2⟩
  · subst h9;subst h11;exact⟨(Od_ _ _ _ _).trans e1,(Rw_ _ _ _ _).trans e2⟩
def Step (n k:Nat) (r:A_×SessR×Bool):Prop:=SOk r.1 n/\QOk r.2.1 n/\r.1.feed.rest.length<=k/\r.2.1.rest.length<=k
def Eb_ (a:Act28R) (r1:SessR×(List Method)×Int):List Method->Nat->A_->SessR->A_×SessR×Bool
  |[],k,x,x1=>(x,x1,true)
  |x2::t,k,x,x1=>lt (Ie_ x2) fun r2=>
 (bif !(Nc_ r2 (gt r1.2.1 k)) then
 (x,x1,false)
 else lt (F6_ x x1 x2 a) fun r3=>
 (bif !r3.2.2 then
 (x,x1,false)
 else Eb_ a r1 t (k+1) r3.1 r3.2.1))
def G7_ (s:A_) (q:SessR) (a:Act28R):A_×SessR×Bool:=
 lt (J_ s a.chunk) fun r=>
 lt (Fp_ q a.chunk) fun r1=>
 (bif ((!decide (r.2.2=r1.2.2))||(!decide ((r.2.1.length:Int)=(r1.2.1.length:Int)))) then
 (r.1,r1.1,false)
 else Eb_ a r1 r.2.1 0 r.1 r1.1)
theorem S1_ {a:Act28R} {r1:SessR×List Method×Int} (hi:a.item.mail.head.length<=1000000):∀ (l:List Method) (k:Nat) (x:A_) (x1:SessR) (n c:Nat),MHd l->SOk x n->QOk x1 n->x.feed.rest.length<=c->x1.rest.length<=c->Step (n+l.length) c (Eb_ a r1 l k x x1)
  |[],k,x,x1,n,c,_,h1,h2,h3,h4=>⟨h1,h2,h3,h4⟩
  |m::l,k,x,x1,n,c,hm,h1,h2,h3,h4=>by
    have hz:=hm m List.mem_cons_self
    have h0:=ask_ok (a:=a) h1 h2 hz.2.1 hz.2.2 hi
    have hf:=K3_ x x1 m a
    have hx:Step (n+(m::l).length) c (x,x1,false):=⟨Ff_ h1 (by simp),Fq_ h2 (by simp),h3,h4⟩
    simp only[Eb_]
    refine ltP fun r2 _=>An_ (fun _=>hx) fun _=>ltP fun r3 h=>An_ (fun _=>hx) fun _=>?_
    rw[H3_] at *
    subst h
    have :=S1_ (r1:=r1) hi l (k+1) (F6_ x x1 m a).1 (F6_ x x1 m a).2.1 (n+1) c (fun q hq=>hm q (List.mem_cons_of_mem _ hq)) h0.1 h0.2 (by rw[hf.1];exact h3) (by rw[hf.2];exact h4)
    rw[show n+(m::l).length=n+1+l.length by simp;omega]
    exact this
theorem take_step {s:A_} {q:SessR} {a:Act28R} {n c:Nat} (h1:SOk s n) (h2:QOk q n) (h3:s.feed.rest.length<=c) (h4:q.rest.length<=c) (hck:a.chunk.length<=600) (hi:a.item.mail.head.length<=1000000):Step (n+c+600) (c+600) (G7_ s q a):=by
  have hl:=Uk_ s a.chunk
  have hr:=T9_ q a.chunk
  have hz:SOk (J_ s a.chunk).1 (n+c+600)/\QOk (Fp_ q a.chunk).1 (n+c+600):=⟨Ff_ (Qy_ _ h1) (by omega),Fq_ (Q7_ _ h2) (by omega)⟩
  simp only[G7_]
  refine ltP fun r h=>ltP fun r1 h'=>?_
  subst h;subst h'
  refine An_ (fun _=>⟨hz.1,hz.2,by simp only;omega,by simp only;omega⟩) fun _=>?_
  have :=S1_ (r1:=Fp_ q a.chunk) hi (J_ s a.chunk).2.1 0 _ _ n (c+600) (stake_hd s a.chunk) (Qy_ a.chunk h1) (Q7_ a.chunk h2) (by omega) (by omega)
  exact⟨Ff_ this.1 (by omega),Fq_ this.2.1 (by omega),this.2.2.1,this.2.2.2⟩
theorem emodN (a:Int) (n:Nat):(0<(n:Int)->0<=a%(n:Int))/\(0<(n:Int)->a%(n:Int)<(n:Int)):=⟨fun h=>Int.emod_nonneg a (by omega),fun h=>Int.emod_lt_of_pos a h⟩
theorem Vl_ {s:A_} {n k:Nat} (t:Int) (h:SOk s n) (hk:k<5):(bkL s t k).length<=n:=by
  unfold bkL
  cases (A5.get s.slots k).isopen
  · simp
  · simp only[cond_true,Kv_];exact (h k hk).ln
theorem send_len {s:A_} {n:Nat} (t:Int) (h:SOk s n):(Ai_ s t).2.length<=5*n:=by
  rw[Qr_]
  have h0:=Vl_ t h (k:=0) (by omega)
  have h1:=Vl_ t h (k:=1) (by omega)
  have h2:=Vl_ t h (k:=2) (by omega)
  have h3:=Vl_ t h (k:=3) (by omega)
  have h4:=Vl_ t h (k:=4) (by omega)
  simp only[List.length_append]
  omega
def G9_ (s:A_) (q:SessR) (a:Act28R):A_×SessR×Bool:=
 (lp0 ((lt1 ((bif decide ((a.dow%8)=0) then
 (decide ((a.dow%8)=0))
 else (decide ((a.dow%8)=1)))) (fun v=>
 (bif v then
 lt (G7_ s q a) fun r=>
 .ret (r.1,r.2.1,r.2.2)
 else (bif decide ((a.dow%8)=6) then
 (lt1 (lt (K_ s) fun r1=>
 (bif decide (0<(r1.length:Int)) then
 (gt r1 (((a.at_%(r1.length:Int))).toNat))
 else (⟨a.at_,3,[113]⟩:TakerS))) (fun x=>
 lt (M_ s x a.item) fun r2=>
 lt (Ga_ q x a.item) fun r3=>
 lt (Ge_ [r2.2]) fun r4=>
 .ret (r2.1,r3.1,(Ec_ r4 [r3.2]))))
 else (bif decide ((a.dow%8)=7) then
 lt (Ai_ s a.tick) fun r5=>
 lt (Ix_ q a.tick) fun r6=>
 lt (Ic_ r5.2) fun r7=>
 .ret (r5.1,r6.1,(Fs_ r7.1 r6.2))
 else .fin ())))))) (
 lt (Ie_ a.m) fun r8=>
 lt (Db_ r8) fun r9=>
 (bif !decide (r9=0) then
 (s,q,true)
 else lt (F6_ s q a.m a) fun r10=>
 (r10.1,r10.2.1,r10.2.2))) (fun r=>r))
theorem rend_ok0 {n:Nat} (t:Int):∀ (f:Nat) (out:List DeedR) (k:Nat) (x:SessR),5<f+k->k<=5->QOk x n->QOk (Ev_ t f out k x).1 n/\(Ev_ t f out k x).1.rest=x.rest
  |0,out,k,x,h,h2,_=>by omega
  |f+1,out,k,x,h,h2,hq=>by
    rw[Ev_,Bool.cond_eq_ite]
    split
    · rename_i hk
      have hk:(k:Int)<=4:=by simpa using hk
      simp only[lt1]
      exact rend_ok0 t f _ (k+1) _ (by omega) (by omega) (Hk_ hq (by omega) (Fa_ n))
    · exact⟨U1_ hq rfl,rfl⟩
theorem rend_ok {q:SessR} {n:Nat} (t:Int) (h:QOk q n):QOk (Ix_ q t).1 n/\(Ix_ q t).1.rest=q.rest:=rend_ok0 t 5 [] 1 q (by omega) (by omega) h
theorem Ub_ (s:A_) (t:Int) (n:Nat):SOk (Ai_ s t).1 n/\(Ai_ s t).1.feed=s.feed:=by
  rw[Qr_]
  have h0:=Fa_ n
  refine⟨fun k hk=>?_,rfl⟩
  match k,hk with
  |0,_=>exact h0
  |1,_=>exact h0
  |2,_=>exact h0
  |3,_=>exact h0
  |4,_=>exact h0
theorem tk_ch {s:A_}:∀ t∈K_ s,0<=t.channel:=by
  have h:∀ k,∀ t∈tkL s k,0<=t.channel:=by
    intro k t ht
    unfold tkL at ht
    cases hb:((A5.get s.slots k).isopen && decide (0<Ar_ (A5.get s.slots k).chan))
    · rw[hb] at ht;simp at ht
    · rw[hb] at ht
      obtain⟨x,_,rfl⟩:=List.mem_map.1 ht
      simp only[IntKind.wrap,IntKind.bits,IntKind.signed];simp;omega
  rw[Z4_]
  intro t ht
  simp only[List.mem_append] at ht
  rcases ht with (((ht|ht)|ht)|ht)|ht<;>exact h _ t ht
theorem done_step {s:A_} {q:SessR} {a:Act28R} {n c:Nat} (h1:SOk s n) (h2:QOk q n) (h3:s.feed.rest.length<=c) (h4:q.rest.length<=c) (hck:a.chunk.length<=600) (hi:a.item.mail.head.length<=1000000) (hat:0<=a.at_) (hc0:0<=a.m.channel) (hn0:0<=a.m.n) (hc:c<=90000):Step (n+100000) (c+600) (G9_ s q a):=by
  have hs:=Ff_ h1 (show n<=n+100000 by omega)
  have hq:=Fq_ h2 (show n<=n+100000 by omega)
  have up:∀ {m k:Nat} {r:A_×SessR×Bool},Step m k r->m<=n+100000->k<=c+600->Step (n+100000) (c+600) r:=fun h a b=>⟨Ff_ h.1 a,Fq_ h.2.1 a,Nat.le_trans h.2.2.1 b,Nat.le_trans h.2.2.2 b⟩
  let P:(A_×SessR×Bool)->Prop:=Step (n+100000) (c+600)
  unfold G9_
  change P _
  refine lp0P True P ?_ (fun _=>ltP fun r8 h8=>ltP fun r9 _=>An_ (fun _=>⟨hs,hq,by simp only;omega,by simp only;omega⟩) fun _=>ltP fun r10 h10=>?_) (fun r hr=>hr)
  · refine lt1P fun v _=>An_ (fun _=>ltP fun r h=>?_) fun _=>An_ (fun _=>lt1P fun x hx=>ltP fun r2 h'=>ltP fun r3 h''=>ltP fun r4 _=>?_) fun _=>An_ (fun _=>ltP fun r5 h5=>ltP fun r6 h6=>ltP fun r7 _=>?_) fun _=>trivial
    · subst h
      exact up (take_step h1 h2 h3 h4 hck hi) (by omega) (by omega)
    · have hx0:0<=x.channel:=by
        subst hx
        refine ltP (P:=fun x:TakerS=>0<=x.channel) fun r1 hr1=>An_ (P:=fun x:TakerS=>0<=x.channel) (fun hl=>?_) fun _=>hat
        have hl:0<(r1.length:Int):=by simpa using hl
        obtain⟨e1,e2⟩:=emodN a.at_ r1.length
        have e1:=e1 hl
        have e2:=e2 hl
        subst hr1
        exact tk_ch _ (gt_mem (by omega))
      have f1:=O5_ x a.item h1 hx0
      have f2:=rsent_ok x a.item h2 hx0
      have f3:=Nl_ s x a.item
      have f4:=Sd_ q x a.item
      subst h';subst h''
      exact⟨Ff_ f1 (by omega),Fq_ f2 (by omega),by rw[f3];omega,by rw[f4];omega⟩
    · have f1:=Ub_ s a.tick (n+100000)
      have f2:=rend_ok a.tick hq
      subst h5;subst h6
      exact⟨f1.1,f2.1,by rw[f1.2];omega,by rw[f2.2];omega⟩
  · have f1:=ask_ok (a:=a) h1 h2 hc0 hn0 hi
    have f2:=K3_ s q a.m a
    subst h10
    exact⟨Ff_ f1.1 (by omega),Fq_ f1.2 (by omega),by rw[f2.1];omega,by rw[f2.2];omega⟩
def AEl (l:List Act28R):Prop:=∀ a∈l,a.chunk.length<=600/\a.item.mail.head.length<=1000000/\a.m.head.length<=1000000/\Ku_ a.m=true
theorem l28_ok0 (l0:List Act28R):∀ (l:List Act28R),Em_ l0 l=true->l0.length<=40/\AEl l
  |[],h=>⟨by have :=of_decide_eq_true (show decide ((l0.length:Int)<=40)=true from h);omega,fun a ha=>by simp at ha⟩
  |x::l,h=>by
    simp only[Em_,Bool.cond_eq_ite] at h
    split at h
    · cases h
    · rename_i hc
      obtain⟨h1,h2⟩:=l28_ok0 l0 l h
      simp only[Bool.or_eq_true,Bool.not_eq_true',decide_eq_true_eq,not_or,Bool.not_eq_false] at hc
      have hm:=l11_sm hc.1.1
      have hi:=Qi_ _ hc.2
      refine⟨h1,fun a ha=>?_⟩
      rcases List.mem_cons.1 ha with rfl|ha
      · exact⟨by omega,by omega,by omega,hc.1.1⟩
      · exact h2 a ha
theorem l28_ok {l:List Act28R} (h:Kc_ l=true):l.length<=40/\AEl l:=l28_ok0 l l h
theorem act28_r {a:Act28R} (h:PV.wfs (Act28R.pc a)):0<=a.at_/\0<=a.m.channel/\0<=a.m.n/\0<=a.m.kind:=by
  simp only[Act28R.pc,PV.wfs,PV.wf] at h
  omega
theorem P6_ {s:A_} {n k:Nat} (h:SOk s n) (hk:k<5):(tkL s k).length<=4:=by
  unfold tkL
  have :=sok_tk (k:=k) (m:=4) h hk (by omega)
  cases ((A5.get s.slots k).isopen && decide (0<Ar_ (A5.get s.slots k).chan))
  · simp
  · simpa using this
theorem Tr_ {s:A_} {n:Nat} (h:SOk s n):(K_ s).length<=1000000:=by
  rw[Z4_]
  have h0:=P6_ h (k:=0) (by omega)
  have h1:=P6_ h (k:=1) (by omega)
  have h2:=P6_ h (k:=2) (by omega)
  have h3:=P6_ h (k:=3) (by omega)
  have h4:=P6_ h (k:=4) (by omega)
  simp only[List.length_append]
  omega
theorem qzero (p:Bs) (n:Nat):QOk ⟨p,[],0,false,false,⟨false,false,false,false,false⟩,⟨⟨0,[],[],false,false,0,⟨[]⟩⟩,⟨0,[],[],false,false,0,⟨[]⟩⟩,⟨0,[],[],false,false,0,⟨[]⟩⟩,⟨0,[],[],false,false,0,⟨[]⟩⟩,⟨0,[],[],false,false,0,⟨[]⟩⟩⟩⟩ n:=fun k hk=>by
  have h0:=Fa_ n
  match k,hk with
  |0,_=>exact h0
  |1,_=>exact h0
  |2,_=>exact h0
  |3,_=>exact h0
  |4,_=>exact h0
def Bo_:List Act28R->A_->SessR->Bool
  |[],x,x1=>lt (Ai_ x 7) fun r5=>
 lt (Ix_ x1 7) fun r6=>
 lt (Ic_ r5.2) fun r7=>
 (Fs_ r7.1 r6.2)
  |x2::t,x,x1=>lt (G9_ x x1 x2) fun r1=>
 (bif ((((!r1.2.2)||(!(Eq_ (Gg_ (K_ r1.1)) (Gi_ r1.2.1))))||(!((Ei_ r1.1)==r1.2.1.begun)))||(!((Et_ r1.1)==r1.2.1.over))) then
 false
 else lt (K_ x) fun r2=>
 lt (Gg_ r2) fun r3=>
 lt (Gi_ x1) fun r4=>
 (bif !(Eq_ r3 r4) then
 false
 else Bo_ t r1.1 r1.2.1))
def Fj_ (place:Bs) (l:List Act28R):Bool:=
 (bif !(Nh_) then
 false
 else (bif ((!(Kc_ l))||(!decide ((Cr_ place)=0))) then
 true
 else lt (E7_ place) fun r=>
 Bo_ l r (⟨place,[],0,false,false,(⟨false,false,false,false,false⟩:A5_bool),(⟨(⟨0,[],[],false,false,0,(⟨[]⟩:Ap_)⟩:ChanR),(⟨0,[],[],false,false,0,(⟨[]⟩:Ap_)⟩:ChanR),(⟨0,[],[],false,false,0,(⟨[]⟩:Ap_)⟩:ChanR),(⟨0,[],[],false,false,0,(⟨[]⟩:Ap_)⟩:ChanR),(⟨0,[],[],false,false,0,(⟨[]⟩:Ap_)⟩:ChanR)⟩:A5_ChanR)⟩:SessR)))
end Go.SW.V
namespace Go.Proofs
open Go.Shelf
def Tryz.lays150_ren:Go.Shelf.Ren:=⟨fun|150=>231|153=>253|152=>261|226=>262|227=>263|228=>264|137=>274|119=>275|224=>276|225=>277|217=>284|266=>290|n=>n,fun|9=>9|4=>4|3=>3|5=>5|21=>21|117=>355|116=>354|0=>0|46=>292|124=>369|n=>n,fun|n=>n⟩
theorem Tryz.lays150:Go.Proofs.Lays.n150 Tryz.prog Tryz.lays150_ren:={
  mixed:=by kernel_rfl
  f119:=Tryz.func275.trans (congrArg some (by kernel_rfl))
  f137:=Tryz.func274.trans (congrArg some (by kernel_rfl))
  f150:=Tryz.func231.trans (congrArg some (by kernel_rfl))
  f152:=Tryz.func261.trans (congrArg some (by kernel_rfl))
  f153:=Tryz.func253.trans (congrArg some (by kernel_rfl))
  f217:=Tryz.func284.trans (congrArg some (by kernel_rfl))
  f224:=Tryz.func276.trans (congrArg some (by kernel_rfl))
  f225:=Tryz.func277.trans (congrArg some (by kernel_rfl))
  f226:=Tryz.func262.trans (congrArg some (by kernel_rfl))
  f227:=Tryz.func263.trans (congrArg some (by kernel_rfl))
  f228:=Tryz.func264.trans (congrArg some (by kernel_rfl))
  f266:=Tryz.func290.trans (congrArg some (by kernel_rfl))
  t0:=Tryz.underlying0
  a0:=Tryz.isAgg0
  z0:=Tryz.sizeOf0
  v0:=Tryz.zeroValue0
  t3:=Tryz.underlying3
  a3:=Tryz.isAgg3
  z3:=Tryz.sizeOf3
  v3:=Tryz.zeroValue3
  t4:=Tryz.underlying4
  a4:=Tryz.isAgg4
  z4:=Tryz.sizeOf4
  v4:=Tryz.zeroValue4
  t5:=Tryz.underlying5
  a5:=Tryz.isAgg5
  z5:=Tryz.sizeOf5
  v5:=Tryz.zeroValue5
  t9:=Tryz.underlying9
  a9:=Tryz.isAgg9
  z9:=Tryz.sizeOf9
  v9:=Tryz.zeroValue9
  t21:=Tryz.underlying21
  a21:=Tryz.isAgg21
  z21:=Tryz.sizeOf21
  v21:=Tryz.zeroValue21
  t46:=Tryz.underlying292
  a46:=Tryz.isAgg292
  z46:=Tryz.sizeOf292
  v46:=Tryz.zeroValue292
  t116:=Tryz.underlying354
  a116:=Tryz.isAgg354
  z116:=Tryz.sizeOf354
  t117:=Tryz.underlying355
  a117:=Tryz.isAgg355
  z117:=Tryz.sizeOf355
  v117:=Tryz.zeroValue355
  t124:=Tryz.underlying369
  a124:=Tryz.isAgg369
  z124:=Tryz.sizeOf369
  v124:=Tryz.zeroValue369}
open Go.RowKit Go.Lib in
theorem Tryz.strings_ContainsAny_laid (s chars:ByteArray) (w:World) (hs:s.size<4294967281) (hcs:chars.size<4294967281) (has:∀ (j:Nat) b,s.data.toList[j]? = some b->b.toNat<128) (hac:∀ (j:Nat) b,chars.data.toList[j]? = some b->b.toNat<128) :
    Calls Tryz.prog 231 #[.string s, .string chars] w fun e w'=>e = .returned (.bool (Lib.containsAny s.data.toList chars.data.toList))/\Below w.heap.size w w':=Any.strings_ContainsAny_laid Tryz.lays150 (by kernel_rfl) s chars w hs hcs has hac
end Go.Proofs
namespace Go.SW
open Go.Proofs
theorem strings_ContainsAny (H:Hp) (s cs:Bs) (hs:s.length<4294967281) (hc:cs.length<4294967281) (ha:∀ c∈s,c.toNat<128) (hb:∀ c∈cs,c.toNat<128):Pr Tryz.prog 231 #[str s,str cs] H (.bool (Mk_ s cs)):=by
  refine pr_below fun w=>?_
  rw[<- Rs_]
  exact Tryz.strings_ContainsAny_laid ⟨s.toArray⟩ ⟨cs.toArray⟩ w (by simpa [ByteArray.size] using hs) (by simpa [ByteArray.size] using hc) (fun j b h=>ha b (List.mem_of_getElem? h)) (fun j b h=>hb b (List.mem_of_getElem? h))
end Go.SW
namespace Go.Proofs
open Go.Shelf
def Tryz.lays146_ren:Go.Shelf.Ren:=⟨fun|146=>265|221=>278|268=>285|138=>286|143=>287|195=>291|197=>292|218=>293|219=>294|260=>295|217=>284|225=>277|224=>276|267=>296|266=>290|314=>297|n=>n,fun|9=>9|31=>200|3=>3|4=>4|0=>0|105=>381|21=>21|5=>5|46=>292|119=>383|139=>386|138=>385|146=>387|51=>258|n=>n,fun|1=>2|3=>3|4=>4|n=>n⟩
theorem Tryz.lays146:Go.Proofs.Lays.n146 Tryz.prog Tryz.lays146_ren:={
  mixed:=by kernel_rfl
  f138:=Tryz.func286.trans (congrArg some (by kernel_rfl))
  f143:=Tryz.func287.trans (congrArg some (by kernel_rfl))
  f146:=Tryz.func265.trans (congrArg some (by kernel_rfl))
  f195:=Tryz.func291.trans (congrArg some (by kernel_rfl))
  f197:=Tryz.func292.trans (congrArg some (by kernel_rfl))
  f217:=Tryz.func284.trans (congrArg some (by kernel_rfl))
  f218:=Tryz.func293.trans (congrArg some (by kernel_rfl))
  f219:=Tryz.func294.trans (congrArg some (by kernel_rfl))
  f221:=Tryz.func278.trans (congrArg some (by kernel_rfl))
  f224:=Tryz.func276.trans (congrArg some (by kernel_rfl))
  f225:=Tryz.func277.trans (congrArg some (by kernel_rfl))
  f260:=Tryz.func295.trans (congrArg some (by kernel_rfl))
  f266:=Tryz.func290.trans (congrArg some (by kernel_rfl))
  f267:=Tryz.func296.trans (congrArg some (by kernel_rfl))
  f268:=Tryz.func285.trans (congrArg some (by kernel_rfl))
  f314:=Tryz.func297.trans (congrArg some (by kernel_rfl))
  t0:=Tryz.underlying0
  a0:=Tryz.isAgg0
  z0:=Tryz.sizeOf0
  v0:=Tryz.zeroValue0
  t3:=Tryz.underlying3
  a3:=Tryz.isAgg3
  z3:=Tryz.sizeOf3
  v3:=Tryz.zeroValue3
  t4:=Tryz.underlying4
  a4:=Tryz.isAgg4
  z4:=Tryz.sizeOf4
  v4:=Tryz.zeroValue4
  t5:=Tryz.underlying5
  a5:=Tryz.isAgg5
  z5:=Tryz.sizeOf5
  v5:=Tryz.zeroValue5
  t9:=Tryz.underlying9
  a9:=Tryz.isAgg9
  z9:=Tryz.sizeOf9
  v9:=Tryz.zeroValue9
  t21:=Tryz.underlying21
  a21:=Tryz.isAgg21
  z21:=Tryz.sizeOf21
  v21:=Tryz.zeroValue21
  t31:=Tryz.underlying200
  a31:=Tryz.isAgg200
  z31:=Tryz.sizeOf200
  v31:=Tryz.zeroValue200
  t46:=Tryz.underlying292
  a46:=Tryz.isAgg292
  z46:=Tryz.sizeOf292
  v46:=Tryz.zeroValue292
  t51:=Tryz.underlying258
  a51:=Tryz.isAgg258
  z51:=Tryz.sizeOf258
  v51:=Tryz.zeroValue258
  t105:=Tryz.underlying381
  a105:=Tryz.isAgg381
  z105:=Tryz.sizeOf381
  v105:=Tryz.zeroValue381
  t119:=Tryz.underlying383
  a119:=Tryz.isAgg383
  z119:=Tryz.sizeOf383
  t138:=Tryz.underlying385
  a138:=Tryz.isAgg385
  z138:=Tryz.sizeOf385
  v138:=Tryz.zeroValue385
  t139:=Tryz.underlying386
  a139:=Tryz.isAgg386
  z139:=Tryz.sizeOf386
  v139:=Tryz.zeroValue386
  t146:=Tryz.underlying387
  a146:=Tryz.isAgg387
  z146:=Tryz.sizeOf387
  v146:=Tryz.zeroValue387
  g1:=by kernel_rfl
  g3:=by kernel_rfl
  g4:=by kernel_rfl}
open Go.RowKit Go.Lib in
theorem Tryz.strings_Split (s sep:ByteArray) (m:Int) (w:World) (hs:s.size<4294967281) (hm:w.cell? ⟨2,0,none⟩=some (.int .i64 m)) (h1:1<=sep.size) :
    Calls Tryz.prog 265 #[.string s, .string sep] w fun e w'=>
      e = .returned (.slice (some ⟨w.heap.size,0,none⟩) (Lib.countB s sep+1) (Lib.countB s sep+1))/\w'=w.alloc (.cells ((Lib.splitB sep 0 (Lib.countB s sep) s).map Value.string).toArray 9):=Any.strings_Split Tryz.lays146 (by kernel_rfl) s sep m w hs hm h1
end Go.Proofs
namespace Go.SW
open Go.Proofs
theorem strings_Split (H:Hp) (s p:Bs) (hp:p=[46]) (hML:GInt H 2) (hs:s.length<4294967281):Ph Tryz.prog 265 #[str s,str p] H (fun v H'=>∃ (a:Option Addr) (c:Nat),v = .slice a (dots s).length c/\SlH strE 1 H' (.slice a (dots s).length c) (dots s)):=by
  subst hp
  refine ph_strs (T:=9) (fun w hw=>by have :=Nk_ s w hw;omega) fun N L w hm=>?_
  obtain⟨m,hc⟩:=hML.cell hm
  refine (Tryz.strings_Split ⟨s.toArray⟩ ⟨#[46]⟩ m w (by simpa [H1_] using hs) hc (by decide)).mono fun e w' ⟨he,hw⟩=>⟨?_,?_⟩
  · rw[he,Rx_]
  · rw[hw,Pm_]
theorem ag315:Ag Tryz.prog 315 false:=fun w=>by kernel_rfl
theorem ag9:Ag Tryz.prog 9 false:=fun w=>by kernel_rfl
theorem cb244:Ah_ Tryz.prog 244:=Z_ Tryz.func244 (by kernel_rfl) (by kernel_rfl)
theorem X9_:Fld Tryz.prog 317 0 0:=fun b o w=>by kernel_rfl
theorem la317_317:liesAt Tryz.prog Tryz.prog.depth 317 (2/Tryz.prog.cellsOf 317) 0 317 1=true:=by kernel_rfl
theorem ne260:NoEsc Tryz.prog 260:=noEsc_of Tryz.func260 (by kernel_rfl) (by kernel_rfl) (by kernel_rfl) (by kernel_rfl)
theorem sz315:Sz Tryz.prog 315 1:=fun w=>by kernel_rfl
theorem sz9:Sz Tryz.prog 9 1:=fun w=>by kernel_rfl
theorem ti317:∃ j,Tryz.prog.info? 317=some j:=Option.isSome_iff_exists.1 (by kernel_rfl)
theorem tz317:∃ j,Tryz.prog.info? 317=some j/\j.size≠0:=exInfo (by kernel_rfl)
set_option maxRecDepth 100000 in
theorem copyCheck {n:Nat} {N:Rest} {F:Fr} {H:Hp} {L:Ls} {ops:List Oper} {ty d:Nat} {pos:String} {af:Array Edge} {K:Fr->Hp->Ls->Prop} {x:Operand} {ats:Array TypeId} {b:Nat} {p v:Value} (i:Nat) (hx:ev F x = .pointer (some ⟨b,0,none⟩)) (hi:L i=some (b,bx 317 [p,v]))
    (hp:p = .pointer none\/p = .pointer (some ⟨b,0,none⟩)) (hd:Nat.blt d n=true) (k:K (upd F d (.tuple #[])) H (lupd L i (some (b,bx 317 [.pointer (some ⟨b,0,none⟩),v])))):Op1 Tryz.prog n N ops ⟨some d, .call ⟨.value (.func 244),#[x],ats⟩,ty,pos,af,none⟩ K F H L:=by
  refine op1_in (en_f (vs:=[.pointer (some ⟨b,0,none⟩)]) cb244 (by simp[evs,hx])) Tryz.func244 rfl Tryz.ntmps244 rfl hd (Gs_ (Dw_ (ol rfl (G5_ (v:= .pointer (some ⟨_,_,none⟩)) rfl) (ol rfl (Fc_ rfl) (ol rfl (Dg_ rfl X9_) ?_)))))
  refine ol rfl (Hr_ (i:=i) (v:=p) rfl ag315 hi rfl) ?_
  rcases hp with rfl|rfl
  · refine ol rfl (lo_pnil rfl rfl Tryz.underlying315) (Hf_ (Go_ (cw_cond_t rfl rfl (Dw_ (ol rfl (G5_ (v:= .pointer (some ⟨_,_,none⟩)) rfl) ?_)))))
    refine ol rfl (G5_ (v:= .pointer (some ⟨_,_,none⟩)) rfl) (ol rfl (Ze_ (i:=i) rfl hi rfl Tryz.underlying315 Tryz.underlying349 (tz317).choose_spec.1 (tz317).choose_spec.2) (ol rfl (lo_noEsc (v:= .pointer (some ⟨_,_,none⟩)) ne260 rfl) (ol rfl (U4_ (i:=i) rfl hi Tryz.underlying349 Tryz.underlying315 (ti317).choose_spec la317_317) (ol rfl (Fc_ rfl) (ol rfl (Dg_ rfl X9_) ?_)))))
    refine ow1 (Jh_ (i:=i) (v:= .pointer (some ⟨_,_,none⟩)) rfl rfl rfl sz315 hi rfl ?_)
    refine Hf_ ?_
    exact fnK_n (res0 rfl) (.refl _) k
  · refine ol rfl (S4_ rfl rfl Tryz.underlying315) (Hf_ (Go_ (Wp_ rfl rfl (Gs_ (Dw_ ?_)))))
    refine ol rfl (G5_ (v:= .pointer (some ⟨_,_,none⟩)) rfl) (ol rfl (Fc_ rfl) (ol rfl (Dg_ rfl X9_) (ol rfl (Hr_ (i:=i) (v:= .pointer (some ⟨b,0,none⟩)) rfl ag315 hi rfl) (ol rfl (G5_ (v:= .pointer (some ⟨_,_,none⟩)) rfl) (ol rfl (Zs_ rfl rfl Tryz.underlying315 (ti317).choose_spec) ?_)))))
    refine Hf_ (Go_ (Wp_ rfl rfl (Y9_ (fnK_n (res0 rfl) (.refl _) ?_))))
    rwa [Zy_ hi] at k
theorem sz5:Sz Tryz.prog 5 1:=fun w=>by kernel_rfl
theorem ag285:Ag Tryz.prog 285 true:=fun w=>by kernel_rfl
theorem ag291:Ag Tryz.prog 291 false:=fun w=>by kernel_rfl
theorem by5:By Tryz.prog 5 1:=by_of (by kernel_rfl)
theorem cb221:Ah_ Tryz.prog 221:=Z_ Tryz.func221 (by kernel_rfl) (by kernel_rfl)
theorem cb222:Ah_ Tryz.prog 222:=Z_ Tryz.func222 (by kernel_rfl) (by kernel_rfl)
theorem co5:Tryz.prog.cellsOf 5=1:=by kernel_rfl
theorem fl285_0:Fld Tryz.prog 285 0 0:=fun b o w=>by kernel_rfl
theorem Tt_:Fld Tryz.prog 317 1 1:=fun b o w=>by kernel_rfl
theorem mixd:Tryz.prog.follows .mixedOrders=true:=by kernel_rfl
theorem sz285:Sz Tryz.prog 285 2:=fun w=>by kernel_rfl
theorem sz291:Sz Tryz.prog 291 1:=fun w=>by kernel_rfl
theorem zr285:Zr Tryz.prog 285 [str [], .int .i64 0]:=fun w=>⟨.agg #[str [], .int .i64 0],by kernel_rfl,rfl⟩
theorem zr317:Zr Tryz.prog 317 [.pointer none, .slice none 0 0]:=fun w=>⟨.agg #[.pointer none, .slice none 0 0],by kernel_rfl,rfl⟩
theorem zr5:Zr Tryz.prog 5 [.int .u8 0]:=fun w=>⟨.int .u8 0,by kernel_rfl,rfl⟩
theorem zx5:∃ z,∀ w,(zeroValue 5).run Tryz.prog w = .ok z w:=⟨.int .u8 0,fun w=>by kernel_rfl⟩
theorem out_Num (H:Hp) (o:Out) (n:Int) (n_r:0<=n/\n<=18446744073709551615) (bytes:Int) (bytes_r:-9223372036854775808<=bytes/\bytes<=9223372036854775807) (hlen:o.s.length<=4611686018427387904):Pr Tryz.prog 182 #[.agg (Out.cells o).toArray, .int .u64 n, .int .i64 bytes] H (.agg (Out.cells (C_ o n bytes)).toArray):=by
  refine pr_cw Tryz.func182 rfl Tryz.ntmps182 rfl (fun N=>?_)
  refine Gs_ (Dw_ (ow1 (op1_box (cs:=[_,_]) 0 rfl rfl (fun b1=>?_))))
  refine ow1 (Qg_ 1 rfl zr285 (fun b2=>?_))
  refine Hf_ (Go_ (Gs_ (Dw_ (ow1 (Qg_ 2 rfl zr317 (fun b3=>?_))))))
  refine Hf_ (Go_ (Gs_ (Gs_ (Dw_ (omi rfl rfl ?_)))))
  refine ol rfl (lo_max rfl rfl) (ol rfl (lo_min rfl rfl) (ol rfl (lo_sub rfl rfl (Q3_ (by omega))) (oai rfl rfl (Hf_ (Go_ ?_)))))
  refine Ut_ ?_
  refine cw_loop5 [8,13,14,15,16,17,18,19,20,21,22] [2,3,4] (fun (j:Nat) (bs:Bs) (p:Value) (v:Value) (en:Option (Nat×Obj)) G=>upd (G) 8 (.int .i64 ((j:Int)-1))) (fun (j:Nat) (bs:Bs) (p:Value) (v:Value) (en:Option (Nat×Obj)) G=>lupd (lupd (G) 2 (some (b3,bx 317 [p,v]))) 3 (en)) (fun (j:Nat) (bs:Bs) (p:Value) (v:Value) (en:Option (Nat×Obj)) H'=>bs++numB j n.toNat=numB (numK bytes) n.toNat/\bs.length+j=numK bytes/\OwnV 1 5 v en bs.length (bs.map u8v)/\(bs.length=0->v = .slice none 0 0)/\(p = .pointer none\/p = .pointer (some ⟨b3,0,none⟩))) (fun (j:Nat) (bs:Bs) (p:Value) (v:Value) (en:Option (Nat×Obj))=>j) (numK bytes) [] (.pointer none) (.slice none 0 0) none (V2_ (St_ (by first|exact Zt_|(repeat (first|exact off_mask|refine off_upd rfl ?_|refine Xr_ rfl ?_)))) (congrArg (Value.int .i64) (show min (max bytes 0) 8-1=((numK bytes:Nat):Int)-1 by unfold numK;omega))) (K8_ (K8_ (Q5_ Vp_) rfl) rfl) ?_ ?_
  · exact⟨rfl,by simp,Mt_,fun _=>rfl, .inl rfl⟩
  intro j bs p v en J5 JL5 H5 hp4 hl5
  obtain⟨hk1,hk2,ho,hz,hpp⟩:=hp4
  have hk8:numK bytes<=8:=by unfold numK;omega
  refine Gs_ (Gs_ (Dw_ (omi rfl rfl (ol rfl (lo_geq rfl rfl) (Hf_ ?_)))))
  refine Go_ (Tz_ rfl (fun h6=>?_) (fun h6=>?_))
  · have p7:=dt h6
    refine Y9_ (Go_ (Gs_ (Ut_ (Dw_ (omi rfl rfl ?_)))))
    refine omi rfl rfl (ol rfl (lo_mul rfl rfl (Q3_ (by omega))) (ol rfl (lo_shr rfl rfl (by omega)) ?_))
    have :=Rl_ (Int.fdiv n (2 ^ (min ((8*((j:Int)-1)):Int).toNat (IntKind.bits .u64))))
    refine ol rfl (Yb_ rfl (by rw[Tryz.underlying27];rfl) Tryz.underlying5) ?_
    refine ow1 (op1_in (en_f cb221 rfl) Tryz.func221 rfl Tryz.ntmps221 rfl rfl ?_)
    refine Gs_ (Dw_ (ol rfl (H6_ rfl) (Hf_ (Go_ (Gs_ ?_)))))
    refine Dw_ (ol rfl (G5_ (v:= .pointer (some ⟨_,_,none⟩)) rfl) ?_)
    refine ow1 (copyCheck 2 rfl rfl hpp rfl ?_)
    refine Hf_ (Go_ (Gs_ (Dw_ (ol rfl (G5_ (v:= .pointer (some ⟨_,_,none⟩)) rfl) (ol rfl (G5_ (v:= .pointer (some ⟨_,_,none⟩)) rfl) ?_)))))
    refine ol rfl (Fc_ rfl) (ol rfl (Dg_ rfl Tt_) (ol rfl (Hr_ (i:=2) rfl ag291 rfl rfl) (omi rfl rfl ?_)))
    refine ow1 (S8_ (cs:=[_]) 4 rfl Tryz.underlying291 sz5 zx5 rfl ⟨rfl,rfl,trivial⟩ rfl rfl (by decide) (fun b8=>?_))
    refine ow1 (Zk_ 3 rfl rfl Tryz.underlying291 Tryz.underlying291 rfl sz5 by5 (by decide) zr5 ho (src_bx (i:=4) rfl rfl) (List.all_eq_true.1 rfl) rfl (by omega) rfl (fun v9 en10 ho11=>?_))
    have ho12:=byte_app (bs:=bs) ho11 (by first|rfl|simp) (wrap8r _)
    refine ol rfl (Fc_ rfl) (ol rfl (Dg_ rfl Tt_) ?_)
    refine ow1 (Jh_ (i:=2) rfl rfl (ownV_one ho12) sz291 rfl rfl ?_)
    refine Hf_ (Go_ (Gs_ (Dw_ (ol rfl (H6_ rfl) (Hf_ ?_)))))
    refine Go_ (cw_ret (fnK_r (res1 rfl (rv_t rfl)) (.refl _) (Hf_ (blkK_n (Go_ ?_)))))
    refine Dw_ (omi rfl rfl (ol rfl (lo_sub rfl rfl (Q3_ (by omega))) (oai rfl rfl (Hf_ ?_))))
    refine next5 (j-1) (bs++[UInt8.ofNat ((IntKind.wrap .u8 (Int.fdiv n (2 ^ (min ((8*((j:Int)-1)):Int).toNat (IntKind.bits .u64)))))).toNat]) (.pointer (some ⟨b3,0,none⟩)) v9 en10 (V2_ (St_ (by first|exact Zt_|(repeat (first|exact off_mask|refine off_upd rfl ?_|refine Xr_ rfl ?_)))) (congrArg (Value.int .i64) (show ((j:Int)-1)-1=((j-1:Nat):Int)-1 by omega))) (K8_ (K8_ (Q5_ (by first|exact Vp_|(repeat (first|exact offl_mask|refine offl_upd rfl ?_|refine offl_mask2 rfl ?_)))) rfl) rfl) hl5 ?_ ?_
    · refine⟨?_,?_,ho12,(nz_of ho12 (by simp)), .inr rfl⟩
      · rw[byte_of n_r.1 (by omega) (by omega),List.append_assoc,<- hk1]
        obtain⟨q,rfl⟩:∃ q,j=q+1:=⟨j-1,by omega⟩
        simp[numB]
      simp;omega
    omega
  have p13:=df h6
  refine cw_exit (seqK_e (loopK_e (blkK_hit (Go_ (Gs_ ?_)))))
  refine cw_anyX 3 mixd (vw_q 0 rfl (by kernel_rfl) (by repeat (first|exact Gp_|exact LLe.refl _|exact En_|refine Hd_ ?_ rfl)) (fun _ _ hh hl=>Dg_ rfl fl285_0) ?_)
  refine vw_q 1 rfl (by kernel_rfl) (by repeat (first|exact Gp_|exact LLe.refl _|exact En_|refine Hd_ ?_ rfl)) (fun _ _ hh hl=>Hr_ (i:=0) (v:=str _) rfl ag9 (hl _ _ rfl) rfl) ?_
  refine vw_e 2 rfl (by kernel_rfl) (op1_in (en_f cb222 rfl) Tryz.func222 rfl Tryz.ntmps222 rfl rfl ?_)
  refine Gs_ (Dw_ (ol rfl (H6_ (v:=str _) rfl) (Hf_ (Go_ (Gs_ ?_)))))
  refine cw_anyX 3 mixd ?_
  refine vw_q 0 rfl (by kernel_rfl) (by repeat (first|exact Gp_|exact LLe.refl _|exact En_|refine Hd_ ?_ rfl)) (fun _ _ hh hl=>G5_ (v:= .pointer (some ⟨_,_,none⟩)) rfl) ?_
  refine vw_q 1 rfl (by kernel_rfl) (by repeat (first|exact Gp_|exact LLe.refl _|exact En_|refine Hd_ ?_ rfl)) (fun _ _ hh hl=>Fc_ rfl) ?_
  refine vw_q 2 rfl (by kernel_rfl) (by repeat (first|exact Gp_|exact LLe.refl _|exact En_|refine Hd_ ?_ rfl)) (fun _ _ hh hl=>Dg_ rfl Tt_) ?_
  refine vw_q 3 rfl (by kernel_rfl) (by repeat (first|exact Gp_|exact LLe.refl _|exact En_|refine Hd_ ?_ rfl)) (fun _ _ hh hl=>Hr_ (i:=2) rfl ag291 (hl _ _ rfl) rfl) ?_
  refine vw_q 4 rfl (by kernel_rfl) (by repeat (first|exact Gp_|exact LLe.refl _|exact En_|refine Hd_ ?_ rfl)) (fun _ _ hh hl=>lo_usd rfl ho hz) ?_
  refine vw_q 5 rfl (by kernel_rfl) (by repeat (first|exact Gp_|exact LLe.refl _|exact En_|refine Hd_ ?_ rfl)) (fun _ _ hh hl=>G5_ (v:= .pointer (some ⟨_,_,none⟩)) rfl) ?_
  refine vw_q 6 rfl (by kernel_rfl) (by repeat (first|exact Gp_|exact LLe.refl _|exact En_|refine Hd_ ?_ rfl)) (fun _ _ hh hl=>Fc_ rfl) ?_
  refine vw_q 7 rfl (by kernel_rfl) (by repeat (first|exact Gp_|exact LLe.refl _|exact En_|refine Hd_ ?_ rfl)) (fun _ _ hh hl=>Dg_ rfl Tt_) ?_
  refine vw_q 8 rfl (by kernel_rfl) (by repeat (first|exact Gp_|exact LLe.refl _|exact En_|refine Hd_ ?_ rfl)) (fun _ _ hh hl=>Hr_ (i:=2) rfl ag291 (hl _ _ rfl) rfl) ?_
  refine vw_q 9 rfl (by kernel_rfl) (by repeat (first|exact Gp_|exact LLe.refl _|exact En_|refine Hd_ ?_ rfl)) (fun _ _ hh hl=>Ru_ rfl ho Tryz.underlying291) ?_
  refine vw_e 10 rfl (by kernel_rfl) (op1_ustr (l:=bs) 3 rfl rfl Tryz.underlying335 co5 ho hz (by have hq:=Ad_ (numK bytes) n.toNat;simp[numK] at *;omega) rfl ?_)
  refine⟨⟨(.refl _),(by repeat (first|exact Gp_|exact LLe.refl _|exact En_|refine Hd_ ?_ rfl))⟩,?_⟩
  refine vw_q 11 rfl (by kernel_rfl) (by repeat (first|exact Gp_|exact LLe.refl _|exact En_|refine Hd_ ?_ rfl)) (fun _ _ hh hl=>H6_ (v:=str _) rfl) ?_
  refine Ya_ (by kernel_rfl) (Go_ (cw_ret (fnK_r (res1 rfl (rv_t (v:=str _) rfl)) (.refl _) ?_)))
  refine⟨⟨(.refl _),(by repeat (first|exact Gp_|exact LLe.refl _|exact En_|refine Hd_ ?_ rfl))⟩,?_⟩
  refine vw_q 3 rfl (by kernel_rfl) (by repeat (first|exact Gp_|exact LLe.refl _|exact En_|refine Hd_ ?_ rfl)) (fun _ _ hh hl=>lo_cat rfl rfl (by have hq:=Ad_ (numK bytes) n.toNat;simp[numK] at *;omega)) ?_
  refine vw_q 4 rfl (by kernel_rfl) (by repeat (first|exact Gp_|exact LLe.refl _|exact En_|refine Hd_ ?_ rfl)) (fun _ _ hh hl=>Dg_ rfl fl285_0) ?_
  refine vw_t 5 rfl (by kernel_rfl) (by kernel_rfl) (Jh_ (i:=0) (v:=str _) rfl rfl rfl sz9 rfl rfl ?_)
  refine Ya_ (by kernel_rfl) (Go_ (Gs_ (Dw_ (ol rfl (Pf_ (i:=0) (vs:=[_,_]) rfl ag285 sz285 rfl rfl rfl) ?_))))
  refine ow1 (Sz_ (i:=1) (vs:=[_,_]) rfl rfl rfl sz285 rfl rfl rfl ?_)
  refine Hf_ (Go_ (cw_ret (fnK_r (res1 rfl (rv_c (i:=1) (vs:=[_,_]) rfl ag285 sz285 rfl rfl rfl)) ((HLe.refl _).trans hl5) ?_)))
  obtain rfl :j=0:=by omega
  simp only[numB,List.append_nil] at hk1
  subst hk1
  rfl
end Go.SW
namespace Go.SW.V
open Go.SW
variable {P:Program} {n:Nat} {N:Rest} {H0:Env} {all rest:List Oper} {Q:Qs} {ks:List Kt} {fF:Nat->PV} {fL:Nat->Blk} {T ty d:Nat} {pos:String} {af:Array Edge} {x y z:Operand} {K:St->Prop}
structure EfR where
  F:Nat->PV
  L:Nat->Blk
  eq:Option (Nat×Nat)
def mkE (tb:Tb) (n:Nat) (i b:Nat) (F:Nat->PV) (L:Nat->Blk) (o:Oper):Option EfR:=
  match o.guard with
  |some _=>none
  |none=>match o.dst with
    |none=>none
    |some d=>match Nat.blt d n with
      |false=>none
      |true=>match o.op with
        | .alloc T=>match lkT tb T with
          |some ti=>match evL ti.zero with
            |some zs=>match Cd_ zs with
              |true=>some ⟨updp F d (.own i b 0),lups L i (.box b T zs),none⟩
              |false=>none
            |none=>none
          |none=>none
        | .box T x=>match evP F x with
          | .agg cs=>match Cd_ cs with
            |true=>some ⟨updp F d (.own i b 0),lups L i (.box b T cs),none⟩
            |false=>none
          |v=>match evS v with
            |some p=>match p.one with
              |true=>some ⟨updp F d (.own i b 0),lups L i (.box b T [p]),none⟩
              |false=>none
            |none=>none
        |_=>none
def stE (tb:Tb) (F:Nat->PV) (L:Nat->Blk) (o:Oper):Option EfR:=
  match o.guard with
  |some _=>none
  |none=>match o.dst with
    |some _=>none
    |none=>match o.op with
      | .store T x y=>match evP F x with
        | .own i b off=>match L i with
          | .box b' T0 cs=>match lkT tb T with
            |some ti=>match evP F y with
              | .agg ps=>match Cd_ ps with
                |true=>match all1 ps with
                  |true=>match Nat.beq ps.length ti.size with
                    |true=>match Nat.ble (off+ti.size) cs.length with
                      |true=>match evL (cs.take off++(ps++cs.drop (off+ti.size))) with
                        |some cs'=>some ⟨F,lups L i (.box b T0 cs'),some (b',b)⟩
                        |none=>none
                      |false=>none
                    |false=>none
                  |false=>none
                |false=>none
              |v=>match Nat.beq ti.size 1 with
                |true=>match evS v with
                  |some p=>match p.one with
                    |true=>match Nat.blt off cs.length with
                      |true=>match evL (cs.set off p) with
                        |some cs'=>some ⟨F,lups L i (.box b T0 cs'),some (b',b)⟩
                        |none=>none
                      |false=>none
                    |false=>none
                  |none=>none
                |false=>none
            |none=>none
          |_=>none
        |_=>none
      |_=>none
def kindE (o:Op):Nat:=
  match o with
  | .alloc _=>0
  | .box _ _=>0
  | .store _ _ _=>1
  |_=>2
def runE (tb:Tb) (n:Nat):Nat->List Nat->(Nat->Nat)->Cf->List Kt->(Nat->PV)->(Nat->Blk)->List Prop->List Nat->List Nat->Option RR
  |0,_,_,c,ks,F,L,ps,as0,bs=>frcP ps fun ps=>frcN as0 fun as0=>frcN bs fun bs=>some ⟨c,ks,F,L,ps,as0,bs⟩
  |k+1,is,B,c,ks,F,L,ps,as0,bs=>
    match c with
    | .ops all (o::rest)=>match kindE o.op with
      |0=>match is with
        |[]=>none
        |i::is=>match mkE tb n i (B 0) F L o with
          |some ⟨F,L,_⟩=>runE tb n k is (fun i=>B (i+1)) (.ops all rest) ks F L ps as0 bs
          |none=>none
      |1=>match stE tb F L o with
        |some ⟨F,L,e⟩=>match e with
          |some (a,b)=>runE tb n k is B (.ops all rest) ks F L ps (a::as0) (b::bs)
          |none=>none
        |none=>none
      |_=>match run tb n 1 (.ops all (o::rest)) ks F L ps as0 bs with
        |some ⟨c,ks,F,L,ps,as0,bs⟩=>runE tb n k is B c ks F L ps as0 bs
        |none=>none
    |c=>match run tb n 1 c ks F L ps as0 bs with
      |some ⟨c,ks,F,L,ps,as0,bs⟩=>runE tb n k is B c ks F L ps as0 bs
      |none=>none
theorem mkE_ok {tb:Tb} (ht:tbB P tb=true) {i:Nat} {F:Nat->PV} {L:Nat->Blk} {o:Oper} (h:∀ b,∃ r,mkE tb n i b F L o=some r/\Hd P n N H0 Q (.ops all rest) ks ⟨r.F,r.L⟩):Hd P n N H0 Q (.ops all (o::rest)) ks ⟨F,L⟩:=by
  obtain⟨dst,op,ty,pos,af,g⟩:=o
  have h0:=h 0
  cases g with
  |some q=>obtain⟨r,h1,_⟩:=h0;simp[mkE] at h1
  |none=>
    cases dst with
    |none=>obtain⟨r,h1,_⟩:=h0;simp[mkE] at h1
    |some d=>
      cases hd:Nat.blt d n with
      |false=>obtain⟨r,h1,_⟩:=h0;simp[mkE,hd] at h1
      |true=>
        cases op with
        |alloc T=>
          simp only[mkE,hd] at h
          cases hti:lkT tb T with
          |none=>rw[hti] at h;obtain⟨r,h1,_⟩:=h 0;simp at h1
          |some ti=>
            rw[hti] at h
            simp only at h
            cases hz:evL ti.zero with
            |none=>rw[hz] at h;obtain⟨r,h1,_⟩:=h 0;simp at h1
            |some zs=>
              rw[hz] at h
              simp only at h
              cases hn:Cd_ zs with
              |false=>rw[hn] at h;obtain⟨r,h1,_⟩:=h 0;simp at h1
              |true=>
                rw[hn] at h
                refine ef (alloc ht i hti hz hn hd fun b=>?_)
                obtain⟨r,h1,h2⟩:=h b
                simp only[Option.some.injEq] at h1
                subst h1;exact h2
        |box T x=>
          simp only[mkE,hd] at h
          split at h
          · rename_i cs hx
            cases hn:Cd_ cs with
            |false=>rw[hn] at h;obtain⟨r,h1,_⟩:=h 0;simp at h1
            |true=>
              rw[hn] at h
              refine ef (boxA i hx hn hd fun b=>?_)
              obtain⟨r,h1,h2⟩:=h b
              simp only[Option.some.injEq] at h1
              subst h1;exact h2
          · cases hs:evS (evP F x) with
            |none=>rw[hs] at h;obtain⟨r,h1,_⟩:=h 0;simp at h1
            |some p=>
              rw[hs] at h
              simp only at h
              cases ho:p.one with
              |false=>rw[ho] at h;obtain⟨r,h1,_⟩:=h 0;simp at h1
              |true=>
                rw[ho] at h
                refine ef (box1 i hs ho hd fun b=>?_)
                obtain⟨r,h1,h2⟩:=h b
                simp only[Option.some.injEq] at h1
                subst h1;exact h2
        |_=>obtain⟨r,h1,_⟩:=h0;simp[mkE,hd] at h1
theorem stE_ok {tb:Tb} (ht:tbB P tb=true) {F:Nat->PV} {L:Nat->Blk} {o:Oper} {r:EfR} (h:stE tb F L o=some r) (he:∀ q,r.eq=some q->q.1=q.2) (k:Hd P n N H0 Q (.ops all rest) ks ⟨r.F,r.L⟩):Hd P n N H0 Q (.ops all (o::rest)) ks ⟨F,L⟩:=by
  obtain⟨dst,op,ty,pos,af,g⟩:=o
  cases g with
  |some q=>simp[stE] at h
  |none=>
    cases dst with
    |some d=>simp[stE] at h
    |none=>
      cases op with
      |store T x y=>
        simp only[stE] at h
        split at h
        · rename_i i b off hx
          split at h
          · rename_i b' T0 cs hb
            split at h
            · rename_i ti hti
              split at h
              · rename_i ps hy
                split at h
                · rename_i hn
                  split at h
                  · rename_i ho
                    split at h
                    · rename_i hsz
                      split at h
                      · rename_i hl
                        split at h
                        · rename_i cs' hc
                          simp only[Option.some.injEq] at h
                          subst h
                          exact ef (storeA ht hx hb hti hy hn ho (Nat.eq_of_beq_eq_true hsz) hl (he _ rfl) hc k)
                        · cases h
                      · cases h
                    · cases h
                  · cases h
                · cases h
              · split at h
                · rename_i hsz
                  split at h
                  · rename_i p hs
                    split at h
                    · rename_i ho
                      split at h
                      · rename_i hl
                        split at h
                        · rename_i cs' hc
                          simp only[Option.some.injEq] at h
                          subst h
                          exact ef (store1 ht hx hb hti (Nat.eq_of_beq_eq_true hsz) hs ho hl (he _ rfl) hc k)
                        · cases h
                      · cases h
                    · cases h
                  · cases h
                · cases h
            · cases h
          · cases h
        · cases h
      |_=>simp[stE] at h
def okR (P:Program) (n:Nat) (N:Rest) (H0:Env) (Q:Qs) (r:RR):Prop:=AllP r.ps/\r.as0=r.bs/\Hd P n N H0 Q r.c r.ks ⟨r.F,r.L⟩
theorem runE_ok {tb:Tb} (ht:tbB P tb=true):∀ (k:Nat) (is:List Nat) (c:Cf) (ks:List Kt) (F:Nat->PV) (L:Nat->Blk) (ps:List Prop) (as0 bs:List Nat),(∀ B:Nat->Nat,∃ r,runE tb n k is B c ks F L ps as0 bs=some r/\okR P n N H0 Q r)->AllP ps/\as0=bs/\Hd P n N H0 Q c ks ⟨F,L⟩:=by
  intro k
  induction k with
  |zero=>
    intro is c ks F L ps as0 bs h
    obtain⟨r,h1,h2,h3,h4⟩:=h (fun _=>0)
    simp only[runE,Q2_,To_,Option.some.injEq] at h1
    subst h1
    exact⟨h2,h3,h4⟩
  |succ k ih=>
    intro is c ks F L ps as0 bs h
    have one:(∀ B:Nat->Nat,∃ r,(match run tb n 1 c ks F L ps as0 bs with
        |some ⟨c,ks,F,L,ps,as0,bs⟩=>runE tb n k is B c ks F L ps as0 bs
        |none=>none)=some r/\okR P n N H0 Q r)->AllP ps/\as0=bs/\Hd P n N H0 Q c ks ⟨F,L⟩:=by
      intro h
      cases hr:run tb n 1 c ks F L ps as0 bs with
      |none=>obtain⟨r,h1,_⟩:=h (fun _=>0);rw[hr] at h1;cases h1
      |some q=>
        obtain⟨c',ks',F',L',ps',as',bs'⟩:=q
        obtain⟨i1,i2,i3⟩:=ih is c' ks' F' L' ps' as' bs' (fun B=>by obtain⟨r,h1,h2⟩:=h B;rw[hr] at h1;exact⟨r,h1,h2⟩)
        obtain⟨j1,j2,j3⟩:=run_ok ht (Q:=Q) (N:=N) (H0:=H0) 1 c ks F L ps as0 bs _ hr i1 i2
        exact⟨j1,j2,j3 i3⟩
    cases c with
    |code c=>exact one h
    |ex e=>exact one h
    |ops all l=>
      cases l with
      |nil=>exact one h
      |cons o rest=>
        simp only[runE] at h
        split at h
        · cases is with
          |nil=>obtain⟨r,h1,_⟩:=h (fun _=>0);cases h1
          |cons i is=>
            have hb:∀ b,∃ r,mkE tb n i b F L o=some r/\AllP ps/\as0=bs/\Hd P n N H0 Q (.ops all rest) ks ⟨r.F,r.L⟩:=by
              intro b
              cases hm:mkE tb n i b F L o with
              |none=>obtain⟨r,h1,_⟩:=h (fun _=>b);simp only[hm] at h1;cases h1
              |some q=>
                obtain⟨F',L',e⟩:=q
                refine⟨_,rfl,ih is (.ops all rest) ks F' L' ps as0 bs fun B=>?_⟩
                obtain⟨r,h1,h2⟩:=h (fun j=>match j with|0=>b|j+1=>B j)
                simp only[hm] at h1
                exact⟨r,h1,h2⟩
            obtain⟨_,_,q1,q2,_⟩:=hb 0
            exact⟨q1,q2,mkE_ok ht fun b=>by obtain⟨r,h1,_,_,h2⟩:=hb b;exact⟨r,h1,h2⟩⟩
        · cases hs:stE tb F L o with
          |none=>obtain⟨r,h1,_⟩:=h (fun _=>0);rw[hs] at h1;cases h1
          |some q=>
            obtain⟨F',L',e⟩:=q
            cases e with
            |none=>obtain⟨r,h1,_⟩:=h (fun _=>0);rw[hs] at h1;cases h1
            |some ab=>
              obtain⟨a,b⟩:=ab
              obtain⟨i1,i2,i3⟩:=ih is (.ops all rest) ks F' L' ps (a::as0) (b::bs) (fun B=>by obtain⟨r,h1,h2⟩:=h B;rw[hs] at h1;exact⟨r,h1,h2⟩)
              simp only[List.cons.injEq] at i2
              exact⟨i1,i2.2,stE_ok ht hs (fun q hq=>by cases hq;exact i2.1) i3⟩
        · exact one h
theorem gmp {tb:Tb} (ht:tbB P tb=true) (k:Nat) (is:List Nat) {c c':Cf} {ks':List Kt} {F':(Nat->Nat)->Nat->PV} {L':(Nat->Nat)->Nat->Blk} {ps:(Nat->Nat)->List Prop} {as0 bs:(Nat->Nat)->List Nat} (h:∀ B,runE tb n k is B c ks fF fL [] [] []=some ⟨c',ks',F' B,L' B,ps B,as0 B,bs B⟩) (he:∀ B,as0 B=bs B) (hp:∀ B,AllP (ps B)) (next :∀ B:Nat->Nat,Hd P n N H0 Q c' ks' ⟨F' B,L' B⟩):Hd P n N H0 Q c ks ⟨fF,fL⟩:=
  (runE_ok ht k is c ks fF fL [] [] [] fun B=>⟨_,h B,hp B,he B,next B⟩).2.2
theorem gx {tb:Tb} (ht:tbB P tb=true) (k:Nat) {c c':Cf} {ks':List Kt} {F':Nat->PV} {L':Nat->Blk} {as0 bs:List Nat} (next :Hd P n N H0 Q c' ks' ⟨F',L'⟩) (h:run tb n k c ks fF fL [] [] []=some ⟨c',ks',F',L',[],as0,bs⟩:=by exact rfl) (he:as0=bs:=by exact rfl):Hd P n N H0 Q c ks ⟨fF,fL⟩:=go ht k h he trivial next
theorem gm {tb:Tb} (ht:tbB P tb=true) (k:Nat) (is:List Nat) {c c':Cf} {ks':List Kt} {F':(Nat->Nat)->Nat->PV} {L':(Nat->Nat)->Nat->Blk} {as0 bs:(Nat->Nat)->List Nat} (next :∀ B:Nat->Nat,Hd P n N H0 Q c' ks' ⟨F' B,L' B⟩) (h:∀ B,runE tb n k is B c ks fF fL [] [] []=some ⟨c',ks',F' B,L' B,[],as0 B,bs B⟩:=by exact fun _=>rfl) (he:∀ B,as0 B=bs B:=by exact fun _=>rfl):Hd P n N H0 Q c ks ⟨fF,fL⟩:=gmp ht k is h he (fun _=>trivial) next
abbrev jIn (xs:List Nat) (j:Option Nat):Bool:=match j with|none=>true|some j=>memB xs j
theorem sA {tb:Tb} {ti:TI} {i b b' off T0:Nat} {cs ps cs':List PV} (ht:tbB P tb=true) (k:K ⟨fF,lups fL i (.box b T0 cs')⟩) (hx:evP fF x = .own i b off:=by exact rfl) (hb:fL i = .box b' T0 cs:=by exact rfl) (hti:lkT tb T=some ti:=by exact rfl) (hy:evP fF y = .agg ps:=by exact rfl) (hn:Cd_ ps=true:=by exact rfl) (ho:all1 ps=true:=by exact rfl) (hsz:ps.length=ti.size:=by exact rfl) (hl:Nat.ble (off+ti.size) cs.length=true:=by exact rfl) (hbb:b'=b:=by exact rfl) (hc:evL (cs.take off++(ps++cs.drop (off+ti.size)))=some cs':=by exact rfl):E1 P n N H0 all ⟨none, .store T x y,ty,pos,af,none⟩ (some i) ⟨fF,fL⟩ K:=storeA ht hx hb hti hy hn ho hsz hl hbb hc k
theorem sO {tb:Tb} {ti:TI} {i b b' off T0:Nat} {cs cs':List PV} {p:PV} (ht:tbB P tb=true) (k:K ⟨fF,lups fL i (.box b T0 cs')⟩) (hx:evP fF x = .own i b off:=by exact rfl) (hb:fL i = .box b' T0 cs:=by exact rfl) (hti:lkT tb T=some ti:=by exact rfl) (hsz:ti.size=1:=by exact rfl) (hy:evS (evP fF y)=some p:=by exact rfl) (ho:p.one=true:=by exact rfl) (hl:Nat.blt off cs.length=true:=by exact rfl) (hbb:b'=b:=by exact rfl) (hc:evL (cs.set off p)=some cs':=by exact rfl):E1 P n N H0 all ⟨none, .store T x y,ty,pos,af,none⟩ (some i) ⟨fF,fL⟩ K:=store1 ht hx hb hti hsz hy ho hl hbb hc k
theorem aL {tb:Tb} {ti:TI} {zs:List PV} (ht:tbB P tb=true) (i:Nat) (k:∀ b,K ⟨updp fF d (.own i b 0),lups fL i (.box b T zs)⟩) (hti:lkT tb T=some ti:=by exact rfl) (hz:evL ti.zero=some zs:=by exact rfl) (hn:Cd_ zs=true:=by exact rfl) (hd:Nat.blt d n=true:=by exact rfl):E1 P n N H0 all ⟨some d, .alloc T,ty,pos,af,none⟩ (some i) ⟨fF,fL⟩ K:=alloc ht i hti hz hn hd k
theorem eC {f:FuncId} {args:List PV} {res:PV} {as0:Array Operand} {ats:Array TypeId} (h:Fn P H0.g f args res) (ha:argsP fF x as0.toList=some (f,args)) (k:res.wf->K ⟨updp fF d res,fL⟩) (hd:Nat.blt d n=true:=by exact rfl):E1 P n N H0 all ⟨some d, .call ⟨.value x,as0,ats⟩,ty,pos,af,none⟩ none ⟨fF,fL⟩ K:=ecall h ha hd k
theorem vE {xs:List Nat} {fuel:Nat} {listed:Array Bool} {o:Oper} {j:Option Nat} (i:Nat) (hi:nth all i=some o) (h:E1 P n N H0 all o j ⟨fF,fL⟩ (fun s'=>Hv P n N H0 Q (some xs) all fuel (listed.setIfInBounds i true) ks s')) (hr:Region.ready .any all.toArray listed=[i]:=by kernel_rfl) (hj:jIn xs j=true:=by exact rfl):Hv P n N H0 Q (some xs) all (fuel+1) listed ks ⟨fF,fL⟩:=ve i hi hr hj h
theorem vT {xs:Option (List Nat)} {fuel:Nat} {listed:Array Bool} {o:Oper} {j:Option Nat} (i:Nat) (hi:nth all i=some o) (h:E1 P n N H0 all o j ⟨fF,fL⟩ (fun s'=>Hv P n N H0 Q none all fuel (listed.setIfInBounds i true) ks s')) (hr:Region.ready .any all.toArray listed=[i]:=by kernel_rfl) (ht:tailB all listed i=true:=by kernel_rfl):Hv P n N H0 Q xs all (fuel+1) listed ks ⟨fF,fL⟩:=vt i hi hr ht h
theorem vD {xs:Option (List Nat)} {fuel:Nat} {listed:Array Bool} (k:Hd P n N H0 Q (.ex .normal) ks ⟨fF,fL⟩) (h:Region.ready .any all.toArray listed=[]:=by kernel_rfl):Hv P n N H0 Q xs all fuel listed ks ⟨fF,fL⟩:=vdone h k
theorem aN (xs:List Nat) (m:Nat) {id:Nat} {ops:Array Oper} (hmx:P.follows .mixedOrders=true) (h:Hv P n N H0 Q (some xs) ops.toList m (Array.replicate m false) ks ⟨fF,fL⟩) (hm:ops.toList.length=m:=by exact rfl):Hd P n N H0 Q (.code (.region id ops true)) ks ⟨fF,fL⟩:=any xs m hmx hm h
theorem gX {tb:Tb} (ht:tbB P tb=true) (order:List Nat) (f:Nat) {xs:Option (List Nat)} {fuel:Nat} {listed:Array Bool} {F':Nat->PV} {L':Nat->Blk} {as0 bs:List Nat} (next :Hv P n N H0 Q xs all f (lst listed order) ks ⟨F',L'⟩) (hf:fuel=f+order.length:=by exact rfl) (hc:chkV n all order listed=true:=by kernel_rfl) (h:runV tb xs all order fF fL [] [] []=some ⟨F',L',[],as0,bs⟩:=by exact rfl) (he:as0=bs:=by exact rfl):Hv P n N H0 Q xs all fuel listed ks ⟨fF,fL⟩:=gov ht order f hf hc h he trivial next
theorem vC {xs:Option (List Nat)} {fuel:Nat} {listed:Array Bool} {f:FuncId} {args:List PV} {res:PV} {as0:Array Operand} {ats:Array TypeId} (i:Nat) (hi:nth all i=some ⟨some d, .call ⟨.value x,as0,ats⟩,ty,pos,af,none⟩) (h:Fn P H0.g f args res) (ha:argsP fF x as0.toList=some (f,args)) (k:res.wf->Hv P n N H0 Q xs all fuel (listed.setIfInBounds i true) ks ⟨updp fF d res,fL⟩) (hck:(rdB all listed i&&apB n all listed i ⟨some d, .call ⟨.value x,as0,ats⟩,ty,pos,af,none⟩&&Nat.blt d n&&nosB (.call ⟨.value x,as0,ats⟩))=true:=by kernel_rfl) (hf:res.flat=true:=by exact rfl):Hv P n N H0 Q xs all (fuel+1) listed ks ⟨fF,fL⟩:=vcall i hi hck h hf ha k
theorem nX {ι:Type _} {keep kL:List Nat} {G:Nat->PV} {GL:Nat->Blk} {lv:ι->List (Nat×PV)} {lL:ι->List (Nat×Blk)} {Φ:ι->Prop} {μ:ι->Nat} {m:Nat} {ks:List Kt} {Q:Qs} (x':ι) (hΦ:Φ x') (h3:AllF fF (lv x')) (h4:AllL fL (lL x')) (h1:keep.map fF=keep.map G:=by exact rfl) (h2:kL.map fL=kL.map GL:=by exact rfl) (hm:μ x'<m:=by decide):Hd P n N H0 Q (.ex .normal) (.lp (LJ (fun x=>⟨mkF (lv x) keep G,mkL (lL x) kL GL⟩) Φ μ m)::ks) ⟨fF,fL⟩:=next x' h1 h2 h3 h4 hm hΦ
theorem cE {α:Type} {v a b:α} {c:Operand} {p q:Code} {t:Bool} (e:v = bif t then a else b) (ht:t=true->v=a->Hd P n N H0 Q (.code p) ks ⟨fF,fL⟩) (hf:t=false->v=b->Hd P n N H0 Q (.code q) ks ⟨fF,fL⟩) (hc:evP fF c = .bool t:=by exact rfl):Hd P n N H0 Q (.code (.cond c p q)) ks ⟨fF,fL⟩:=cnd hc (fun h=>ht h (e.trans (by rw[h];rfl))) (fun h=>hf h (e.trans (by rw[h];rfl)))
theorem cD {α:Type} {v a b:α} {c:Operand} {p q:Code} {t:Prop} [Decidable t] (e:v = bif decide t then a else b) (ht:t->v=a->Hd P n N H0 Q (.code p) ks ⟨fF,fL⟩) (hf:¬t->v=b->Hd P n N H0 Q (.code q) ks ⟨fF,fL⟩) (hc:evP fF c = .bool (decide t):=by exact rfl):Hd P n N H0 Q (.code (.cond c p q)) ks ⟨fF,fL⟩:=cE e (fun h=>ht (of_decide_eq_true h)) (fun h=>hf (of_decide_eq_false h)) hc
theorem cN {α:Type} {v a b:α} {c:Operand} {p q:Code} {t:Prop} [Decidable t] (e:v = bif !decide t then a else b) (ht:¬t->v=a->Hd P n N H0 Q (.code p) ks ⟨fF,fL⟩) (hf:t->v=b->Hd P n N H0 Q (.code q) ks ⟨fF,fL⟩) (hc:evP fF c = .bool (!decide t):=by exact rfl):Hd P n N H0 Q (.code (.cond c p q)) ks ⟨fF,fL⟩:=cE e (fun h=>ht (by simpa using h)) (fun h=>hf (by simpa using h)) hc
theorem fC {tb:Tb} {G:Gb} {m:Nat} {f:FuncId} {fn:Func} {c:Code} {args:List PV} {res:PV} (hf:P.funcs[f]? = some fn) (ht:tbB P tb=true) (hn:fn.ntmps=m) (h:PV.wfs args->∀ N H,G.p H->Hd P m N ⟨H,G⟩ (rtK tb fn.results.toList res) (.code c) [] ⟨Pn_ args,fun _=> .no⟩) (hb:fn.body=some c:=by exact rfl) (hs:Nat.ble args.length m=true:=by exact rfl) (h1:(fn.name == "runtime.NumGoroutine")=false:=by kernel_rfl) (h2:fn.body.isNone=false:=by kernel_rfl) (hno:res.noOsl=true:=by exact rfl) (hna:Cd_ args=true:=by exact rfl):Fn P G f args res:=fn_cw ht hf hb hn hs (Z_ hf h1 h2) hno hna h
variable {tb:Tb} {rs:List ResultVar} {as0 bs:List Nat} {res q0 q1 q2 q3:PV}
theorem qr1 (h:F1_ tb ⟨fF,fL⟩ rs=some ([q0],as0,bs):=by exact rfl) (he:as0=bs:=by exact rfl) (hp:PLe q0 res:=by exact ple rfl):Hd P n N H0 (rtK tb rs res) (.ex .ret) [] ⟨fF,fL⟩:=rt1 h he hp
theorem qr2 (h:F1_ tb ⟨fF,fL⟩ rs=some ([q0,q1],as0,bs):=by exact rfl) (he:as0=bs:=by exact rfl) (hp:PLe (.tup [q0,q1]) res:=by exact ple rfl):Hd P n N H0 (rtK tb rs res) (.ex .ret) [] ⟨fF,fL⟩:=rt2 h he hp
theorem qr3 (h:F1_ tb ⟨fF,fL⟩ rs=some ([q0,q1,q2],as0,bs):=by exact rfl) (he:as0=bs:=by exact rfl) (hp:PLe (.tup [q0,q1,q2]) res:=by exact ple rfl):Hd P n N H0 (rtK tb rs res) (.ex .ret) [] ⟨fF,fL⟩:=rt3 h he hp
theorem qr4 (h:F1_ tb ⟨fF,fL⟩ rs=some ([q0,q1,q2,q3],as0,bs):=by exact rfl) (he:as0=bs:=by exact rfl) (hp:PLe (.tup [q0,q1,q2,q3]) res:=by exact ple rfl):Hd P n N H0 (rtK tb rs res) (.ex .ret) [] ⟨fF,fL⟩:=rt4 h he hp
theorem cV {α β:Type} {v:β} {g:α} {kf:α->β} {f:FuncId} {args:List PV} {xs:Array Operand} {ats:Array TypeId} (e:v=lt g kf) (enc:α->PV) (h:Fn P H0.g f args (enc g)) (ha:argsP fF x xs.toList=some (f,args)) (k:∀ r,r=g->v=kf r->(enc r).wf->Hd P n N H0 Q (.ops all rest) ks ⟨updp fF d (enc r),fL⟩) (hd:Nat.blt d n=true:=by exact rfl):Hd P n N H0 Q (.ops all (⟨some d, .call ⟨.value x,xs,ats⟩,ty,pos,af,none⟩::rest)) ks ⟨fF,fL⟩:=
  callv g enc h ha hd fun r hr w=>k r hr (e.trans (Aq_ hr)) w
theorem gy {tb:Tb} (ht:tbB P tb=true) (k:Nat) {c c':Cf} {ks':List Kt} {F':Nat->PV} {L':Nat->Blk} {ps:List Prop} {as0 bs:List Nat} (next :Hd P n N H0 Q c' ks' ⟨F',L'⟩) (h:run tb n k c ks fF fL [] [] []=some ⟨c',ks',F',L',ps,as0,bs⟩:=by exact rfl) (he:as0=bs:=by exact rfl) (hp:AllP ps:=by repeat' (first|exact trivial|refine And.intro ?_ ?_|exact fun hc=>hc|exact rfl|exact fun hc=>rfl|omega|(intro hc;omega)|(intro hc;rw[hc];rfl))):Hd P n N H0 Q c ks ⟨fF,fL⟩:=go ht k h he hp next
theorem gmy {tb:Tb} (ht:tbB P tb=true) (k:Nat) (is:List Nat) {c c':Cf} {ks':List Kt} {F':(Nat->Nat)->Nat->PV} {L':(Nat->Nat)->Nat->Blk} {ps:(Nat->Nat)->List Prop} {as0 bs:(Nat->Nat)->List Nat} (next :∀ B:Nat->Nat,Hd P n N H0 Q c' ks' ⟨F' B,L' B⟩) (h:∀ B,runE tb n k is B c ks fF fL [] [] []=some ⟨c',ks',F' B,L' B,ps B,as0 B,bs B⟩:=by exact fun _=>rfl) (he:∀ B,as0 B=bs B:=by exact fun _=>rfl) (hp:∀ B,AllP (ps B):=by intro B;repeat' (first|exact trivial|refine And.intro ?_ ?_|exact fun hc=>hc|exact rfl|exact fun hc=>rfl|omega|(intro hc;omega)|(intro hc;rw[hc];rfl))):Hd P n N H0 Q c ks ⟨fF,fL⟩:=gmp ht k is h he hp next
theorem gXy {tb:Tb} (ht:tbB P tb=true) (order:List Nat) (f:Nat) {xs:Option (List Nat)} {fuel:Nat} {listed:Array Bool} {F':Nat->PV} {L':Nat->Blk} {ps:List Prop} {as0 bs:List Nat} (next :Hv P n N H0 Q xs all f (lst listed order) ks ⟨F',L'⟩) (hf:fuel=f+order.length:=by exact rfl) (hc:chkV n all order listed=true:=by kernel_rfl) (h:runV tb xs all order fF fL [] [] []=some ⟨F',L',ps,as0,bs⟩:=by exact rfl) (he:as0=bs:=by exact rfl) (hp:AllP ps:=by repeat' (first|exact trivial|refine And.intro ?_ ?_|exact fun hc=>hc|exact rfl|exact fun hc=>rfl|omega|(intro hc;omega)|(intro hc;rw[hc];rfl))):Hv P n N H0 Q xs all fuel listed ks ⟨fF,fL⟩:=gov ht order f hf hc h he hp next
end Go.SW.V
namespace Go.SW.V
open Go.SW Go.Proofs
def gb:Gb:=⟨fun H=>GInt H 2/\GTab H 1 laidT/\GStrs H 0 tellsT,fun H H' hl h=>⟨h.1.mono hl,h.2.1.mono hl,h.2.2.mono hl⟩⟩
theorem gbML {H:Hp} (h:gb.p H):GInt H 2:=h.1
theorem gbCrc {H:Hp} (h:gb.p H):GTab H 1 laidT:=h.2.1
theorem T7_ {H:Hp} (h:gb.p H):GStrs H 0 tellsT:=h.2.2
abbrev ty9:TI:=⟨.str,1,16,[.str []]⟩
def tbv1:Tb:=[(9,ty9)]
theorem tv1:tbB Tryz.prog tbv1=true:=by kernel_rfl
theorem W2_ (c:Int):Fn Tryz.prog gb 79 [.int .u8 c] (.bool (letter c)):=by
  refine fC Tryz.func79 tv1 Tryz.ntmps79 fun w N H hG=>?_;refine gy tv1 33 ?_;refine rt1 rfl rfl (ple ?_)
  simp[letter, *]
theorem Q1_ (s:Bs):Fn Tryz.prog gb 232 [.str s] (.bool (plain s)):=by
  refine fC Tryz.func232 tv1 Tryz.ntmps232 fun w N H hG=>?_;have s_l:s.length<=9223372036854775807:=w.1;refine gx tv1 14 ?_;refine loop (ι:=Nat) [0,5,6] [] (fun k=>[(7, .int .i64 (k:Int))]) (fun k=>[]) (fun k=>k<=s.length/\(s.drop k).all (fun c=>letter c.toNat)=plain s) (fun k=>s.length-k) 0 ⟨rfl,trivial⟩ trivial ?_ ?_
  · exact⟨by omega,rfl⟩
  rintro k hp1;obtain⟨hk1,hk2⟩:=hp1;refine gx tv1 6 ?_;refine cn rfl (fun p3=>?_) fun p21=>?_
  · have :=u8r (s.getD k 0);refine gx tv1 14 ?_;refine q1 (sidx tv1 k rfl rfl rfl rfl rfl (by omega)) rfl fun w4=>?_;refine gy tv1 16 ?_;refine cnd rfl (fun h5=>?_) (fun h5=>?_)
    · have h6:=bl h5;have p7:=dt h6;have h8:=br h5;have p9:=dt h8;refine gx tv1 2 ?_;refine cndT rfl h5 ?_;refine gy tv1 8 ?_;refine next (k+1) rfl rfl ⟨rfl,trivial⟩ trivial ?_ ?_
      · omega
      exact⟨by omega,by rw[<- hk2,Fh_ (k:=k) (by omega),List.all_cons];generalize ((s.getD k 0).toNat:Int)=z at *;simp[letter, *]⟩
    refine gy tv1 11 ?_;refine cnd rfl (fun h10=>?_) (fun h10=>?_)
    · have h11:=bl h10;have p12:=dt h11;have h13:=br h10;have p14:=dt h13;refine gx tv1 2 ?_;refine cndT rfl h10 ?_;refine gy tv1 8 ?_;refine next (k+1) rfl rfl ⟨rfl,trivial⟩ trivial ?_ ?_
      · omega
      exact⟨by omega,by rw[<- hk2,Fh_ (k:=k) (by omega),List.all_cons];generalize ((s.getD k 0).toNat:Int)=z at *;simp[letter, *]⟩
    refine gx tv1 7 ?_;refine cnd rfl (fun h15=>?_) (fun h15=>?_)
    · have p16:=dt h15;refine gx tv1 2 ?_;refine cndT rfl h15 ?_;refine gy tv1 8 ?_;refine next (k+1) rfl rfl ⟨rfl,trivial⟩ trivial ?_ ?_
      · omega
      exact⟨by omega,by rw[<- hk2,Fh_ (k:=k) (by omega),List.all_cons];generalize ((s.getD k 0).toNat:Int)=z at *;simp[letter, *]⟩
    have p17:=df h15;refine gx tv1 6 ?_;refine cn rfl (fun p19=>?_) fun p20=>?_
    · refine gy tv1 8 ?_;refine next (k+1) rfl rfl ⟨rfl,trivial⟩ trivial ?_ ?_
      · omega
      exact⟨by omega,by rw[<- hk2,Fh_ (k:=k) (by omega),List.all_cons];generalize ((s.getD k 0).toNat:Int)=z at *;simp[letter, *]⟩
    refine gx tv1 12 ?_;refine rt1 rfl rfl (ple ?_);refine congrArg PV.bool ?_;first|(rw[<- hk2,Fh_ (k:=k) (by omega),List.all_cons];generalize ((s.getD k 0).toNat:Int)=z at *;simp[letter, *];done)|(rw[<- hk2,List.drop_of_length_le (by omega)];rfl)
  refine gx tv1 11 ?_;refine rt1 rfl rfl (ple ?_);refine congrArg PV.bool ?_;first|(rw[<- hk2,Fh_ (k:=k) (by omega),List.all_cons];generalize ((s.getD k 0).toNat:Int)=z at *;simp[letter, *];done)|(rw[<- hk2,List.drop_of_length_le (by omega)];rfl)
theorem Ck_ (s:Bs):Fn Tryz.prog gb 198 [.str s] (.int .i64 (Cr_ s)):=by
  refine fC Tryz.func198 tv1 Tryz.ntmps198 fun w N H hG=>?_;refine gx tv1 14 ?_;refine cn rfl (fun p2=>?_) fun p3=>?_
  · refine gx tv1 8 ?_;refine rt1 rfl rfl (ple ?_)
    simp[Cr_, *]<;>omega
  refine gx tv1 8 ?_;refine cn rfl (fun p5=>?_) fun p6=>?_
  · refine gx tv1 8 ?_;refine rt1 rfl rfl (ple ?_)
    simp[Cr_, *]<;>omega
  refine gx tv1 3 ?_;refine call (Q1_ _) rfl rfl fun w7=>?_;refine gx tv1 4 ?_;refine cnd rfl (fun h8=>?_) (fun h8=>?_)
  · have h9:=Br_ h8;refine gx tv1 8 ?_;refine rt1 rfl rfl (ple ?_)
    simp[Cr_, *]<;>omega
  have h10:=Bf_ h8;refine gx tv1 9 ?_;refine rt1 rfl rfl (ple ?_)
  simp[Cr_, *]<;>omega
theorem cb182:Ah_ Tryz.prog 182:=Z_ Tryz.func182 (by kernel_rfl) (by kernel_rfl)
abbrev ty3:TI:=⟨.int .i64,1,8,[.int .i64 0]⟩
abbrev ty27:TI:=⟨.int .u64,1,8,[.int .u64 0]⟩
abbrev ty40:TI:=⟨.int .i64,1,8,[.int .i64 0]⟩
abbrev We_:TI:=⟨.agg [(0,1),(1,1)],2,24,[.str [], .int .i64 0]⟩
def tbv2:Tb:=[(3,ty3),(9,ty9),(27,ty27),(40,ty40),(285,We_)]
theorem tv2:tbB Tryz.prog tbv2=true:=by kernel_rfl
theorem out_Num (o:Out) (n bytes:Int) (hlen:o.s.length<=4611686018427387904):Fn Tryz.prog gb 182 [.agg (Out.pc o), .int .u64 n, .int .i64 bytes] (.agg (Out.pc (C_ o n bytes))):=
  Z5_ (vs:=[.agg [str o.s, .int .i64 o.err].toArray, .int .u64 n, .int .i64 bytes]) (v:= .agg [str (C_ o n bytes).s, .int .i64 (C_ o n bytes).err].toArray) cb182 rfl rfl
    (fun w H=>Sims.cons (Sim.toAgg (Sims.cons (Sim.str w.1.1) (Sims.cons (Sim.int w.1.2.1.1 w.1.2.1.2) Sims.nil))) (Sims.cons (Sim.int w.2.1.1 w.2.1.2) (Sims.cons (Sim.int w.2.2.1.1 w.2.2.1.2) Sims.nil)))
    (fun w H=>Sim.toAgg (Sims.cons (Sim.str (by have :=P_ o n bytes;omega)) (Sims.cons (Sim.int w.1.2.1.1 w.1.2.1.2) Sims.nil)))
    (fun w H hG=>SW.out_Num H o n w.2.1 bytes w.2.2.1 hlen)
theorem Jm_ (o:Out) (s:Bs) (hlen:o.s.length+s.length<=4611686018427387904:=by ((try have :=hrl (by assumption));first|omega|(simp[C_,At_,Ad_,numK]<;>omega))):Fn Tryz.prog gb 187 [.agg (Out.pc o), .str s] (.agg (Out.pc (At_ o s))):=by
  refine fC Tryz.func187 tv2 Tryz.ntmps187 fun w N H hG=>?_;refine gmp tv2 23 [0,1] (fun _=>rfl) (fun _=>rfl) (fun _=>⟨(by first|omega|(simp<;>omega)),trivial⟩) fun B2=>?_;refine rt1 rfl rfl (ple ?_)
  rfl
theorem Ay_ (o:Out):Fn Tryz.prog gb 184 [.agg (Out.pc o)] (.str o.s):=by
  refine fC Tryz.func184 tv2 Tryz.ntmps184 fun w N H hG=>?_;refine gm tv2 14 [0] fun B2=>?_;refine rt1 rfl rfl (ple ?_)
  rfl
theorem Bl_ (o:Out) (s:Bs) (hlen:o.s.length+s.length<=4611686018427386000:=by ((try have :=hrl (by assumption));first|omega|(simp[C_,At_,Ad_,numK]<;>omega))):Fn Tryz.prog gb 183 [.agg (Out.pc o), .str s] (.agg (Out.pc (D_ o s))):=by
  refine fC Tryz.func183 tv2 Tryz.ntmps183 fun w N H hG=>?_;refine gm tv2 14 [0,1] fun B2=>?_;refine cn rfl (fun p5=>?_) fun p11=>?_
  · refine gx tv2 8 ?_;refine cn rfl (fun p7=>?_) fun p9=>?_
    · refine gm tv2 13 [] fun _=>?_;refine rt1 rfl rfl (ple ?_)
      simp[D_,Out.pc, *]
    refine gm tv2 10 [] fun _=>?_;refine rt1 rfl rfl (ple ?_)
    simp[D_,Out.pc, *]
  refine gx tv2 7 ?_;refine q1 (qconv tv2 rfl rfl rfl rfl (Z0_ (by omega))) rfl fun w12=>?_;refine call (out_Num _ _ _ (by ((try have :=hrl (by assumption));first|omega|(simp[C_,At_,Ad_,numK]<;>omega)))) rfl rfl fun w13=>?_;have :=P_ o (s.length:Int) 2;refine gx tv2 1 ?_;refine call (Jm_ _ _) rfl rfl fun w14=>?_;have :=E0_ (C_ o (s.length:Int) 2) s;refine gm tv2 4 [] fun _=>?_;refine rt1 rfl rfl (ple ?_)
  simp[D_,Out.pc, *]
theorem cb117:Ah_ Tryz.prog 117:=Z_ Tryz.func117 (by kernel_rfl) (by kernel_rfl)
theorem cb158:Ah_ Tryz.prog 158:=Z_ Tryz.func158 (by kernel_rfl) (by kernel_rfl)
theorem cb193:Ah_ Tryz.prog 193:=Z_ Tryz.func193 (by kernel_rfl) (by kernel_rfl)
abbrev ty261:TI:=⟨.agg [(0,1),(1,1)],2,24,[.str [], .int .i64 0]⟩
def tbv3:Tb:=[(9,ty9),(40,ty40),(261,ty261)]
theorem tv3:tbB Tryz.prog tbv3=true:=by kernel_rfl
theorem Q9_ (s:Bs):Fb Tryz.prog gb 117 [.str s] 261 (In.pc (⟨s,0⟩)):=by
  refine fb_cw tv3 Tryz.func117 rfl Tryz.ntmps117 rfl cb117 rfl rfl fun w N H hG=>?_;refine gm tv3 14 [0] fun B2=>?_;refine rb rfl rfl rfl rfl rfl ?_;exact ples_rfl
theorem Lw_ (i:In) (code:Int):Fm Tryz.prog gb 158 [.int .i64 code] 261 (In.pc i) (.tup []) (In.pc (A2_ i code)):=by
  refine L6_ tv3 Tryz.func158 rfl Tryz.ntmps158 rfl cb158 rfl rfl rfl rfl fun w wp b N H hG=>?_;refine gx tv3 3 ?_;refine q1 (qpne Tryz.underlying217 rfl rfl) rfl fun w1=>?_;refine gy tv3 13 ?_;refine cnd rfl (fun h2=>?_) (fun h2=>?_)
  · have h3:=bl h2;have h4:=bl h3;have h5:=br h3;have p6:=dt h5;have h7:=br h2;have h8:=Br_ h7;have p9:=df h8;refine gm tv3 11 [] fun _=>?_;refine rm0n rfl rfl ?_ rfl rfl rfl ?_
    · exact ple (by first|rfl|(simp[A2_, *];done))
    refine ples ?_
    first|rfl|(simp[A2_,In.pc, *];done)|(simp only[A2_];split<;>simp_all [In.pc])
  refine gx tv3 1 ?_;refine rm0n rfl rfl ?_ rfl rfl rfl ?_
  · exact ple (by first|rfl|(simp[A2_, *];done))
  refine ples ?_
  first|rfl|(simp[A2_,In.pc, *];done)|(simp only[A2_];split<;>simp_all [In.pc])
theorem in_Raw (i:In) (n:Int):Fm Tryz.prog gb 193 [.int .i64 n] 261 (In.pc i) (.str ((Dc_ i n).1)) (In.pc ((Dc_ i n).2)):=by
  refine L6_ tv3 Tryz.func193 rfl Tryz.ntmps193 rfl cb193 rfl rfl rfl rfl fun w wp b N H hG=>?_;refine gx tv3 11 ?_;refine q1 (qpeq Tryz.underlying217 rfl rfl) rfl fun w1=>?_;refine gx tv3 14 ?_;refine cnd rfl (fun h2=>?_) (fun h2=>?_)
  · have h3:=Br_ h2;have p4:=df h3;refine gx tv3 2 ?_;refine cndT rfl h2 ?_;refine gx tv3 8 ?_;refine rm1 rfl rfl ?_ rfl rfl rfl ?_
    · exact ple (by first|rfl|(simp[Dc_,A2_, *];done))
    refine ples ?_
    first|rfl|(simp[Dc_,A2_,In.pc, *];done)|(simp only[Dc_,A2_];split<;>simp_all [In.pc])
  have h5:=Bf_ h2;have p6:=dt h5;refine gx tv3 6 ?_;refine cn rfl (fun p8=>?_) fun p9=>?_
  · refine gx tv3 8 ?_;refine rm1 rfl rfl ?_ rfl rfl rfl ?_
    · exact ple (by first|rfl|(simp[Dc_,A2_, *];done))
    refine ples ?_
    first|rfl|(simp[Dc_,A2_,In.pc, *];done)|(simp only[Dc_,A2_];split<;>simp_all [In.pc])
  refine gx tv3 12 ?_;refine cn rfl (fun p11=>?_) fun p13=>?_
  · refine gx tv3 3 ?_;refine ef (ecallm (Lw_ _ _) rfl rfl rfl rfl rfl fun w12 w12p=>?_);refine gx tv3 10 ?_;refine rm1 rfl rfl ?_ rfl rfl rfl ?_
    · exact ple (by first|rfl|(simp[Dc_,A2_, *];done))
    refine ples ?_
    first|rfl|(simp[Dc_,A2_,In.pc, *];done)|(simp only[Dc_,A2_];split<;>simp_all [In.pc])
  refine gx tv3 10 ?_;refine q1 (sshi tv3 (n).toNat rfl rfl rfl rfl (by omega) (by omega)) rfl fun w14=>?_;refine gx tv3 11 ?_;refine q1 (sslo tv3 (n).toNat rfl rfl rfl rfl (by omega) (by omega)) rfl fun w15=>?_;refine gm tv3 12 [] fun _=>?_;refine rm1 rfl rfl ?_ rfl rfl rfl ?_
  · exact ple (by first|rfl|(simp[Dc_,A2_, *];done))
  refine ples ?_
  first|rfl|(simp[Dc_,A2_,In.pc, *];done)|(simp only[Dc_,A2_];split<;>simp_all [In.pc])
theorem cb265:Ah_ Tryz.prog 265:=Z_ Tryz.func265 (by kernel_rfl) (by kernel_rfl)
abbrev Um_:TI:=⟨.slc 9,1,24,[.sl strc []]⟩
def tbv4:Tb:=[(9,ty9),(200,Um_)]
theorem tv4:tbB Tryz.prog tbv4=true:=by kernel_rfl
theorem strings_Split (s p:Bs) (hp:p=[46]) (hs:s.length<4294967281):Fn Tryz.prog gb 265 [.str s, .str p] (.sl strc (dots s)):=
  ⟨cb265,rfl,fun N H L w us hg hsim hm=>by
    obtain⟨v1,_,rfl,h1,h2⟩:=hsim.inv_cons;obtain⟨v2,_,rfl,h3,h4⟩:=h2.inv_cons
    cases h4.inv_nil
    rw[h1.inv_str.1,h3.inv_str.1]
    refine (SW.strings_Split H s p hp (gbML hg) hs N L w hm).mono fun _ _ ⟨v,H',h5,⟨a,c,h6,h7⟩,h8,h9⟩=>⟨v,H',h5,?_,h8,h9⟩
    rw[h6]
    exact Sim.of_slh (k:=1) ⟨h7.1,fun m hm=>by
      obtain⟨cs,hE,hat⟩:=h7.2 m hm;obtain⟨hE1,hE2⟩:=hE;subst hE1;exact⟨_,⟨rfl,Sims.nil.cons (Sim.str hE2),fun u hu=>by simp at hu;subst hu;rfl⟩,hat⟩⟩ (by have :=dots_le s;omega)⟩
theorem Lr_ (s:Bs) (hs:s.length<4294967281:=by omega):Fn Tryz.prog gb 254 [.str s] (.sl strc (A5_ s)):=by
  refine fC Tryz.func254 tv4 Tryz.ntmps254 fun w N H hG=>?_;refine gx tv4 12 ?_;refine cn rfl (fun p2=>?_) fun p3=>?_
  · refine gx tv4 7 ?_;refine rt1 rfl rfl ?_;refine Hu_ ?_
    simp[A5_, *]
  refine gx tv4 5 ?_;refine call (strings_Split _ _ (by rfl) (by omega)) rfl rfl fun w4=>?_;refine gx tv4 4 ?_;refine rt1 rfl rfl (ple ?_)
  simp[A5_, *]
theorem Ww_ (s:Bs) (besides:List Bs):Fn Tryz.prog gb 233 [.str s, .sl strc besides] (.int .i64 (keyE besides s)):=by
  refine fC Tryz.func233 tv4 Tryz.ntmps233 fun w N H hG=>?_;have s_l:s.length<=9223372036854775807:=w.1;have besides_l:besides.length<=140737488355328:=w.2.1.1;refine gx tv4 14 ?_;refine cn rfl (fun p2=>?_) fun p3=>?_
  · refine gx tv4 8 ?_;refine rt1 rfl rfl (ple ?_)
    simp[keyE, *]
  refine gx tv4 9 ?_;refine call (Lr_ _) rfl rfl fun w4=>?_;refine gx tv4 5 ?_;refine loop (ι:=Nat) [0,1,9,10,11,12,13,14] [] (fun k=>[(15, .int .i64 (k:Int))]) (fun k=>[]) (fun k=>k<=(A5_ s).length/\(A5_ s).any (Lv_ besides)=((A5_ s).drop k).any (Lv_ besides)) (fun k=>(A5_ s).length-k) 0 ⟨rfl,trivial⟩ trivial ?_ ?_
  · exact⟨Nat.zero_le _,by simp⟩
  rintro k hp5;obtain⟨hk1,hk2⟩:=hp5;have hwl:=O3_ s;refine gx tv4 6 ?_;refine cn rfl (fun p7=>?_) fun p26=>?_
  · obtain⟨c8,hc9⟩:=getE (xs:=A5_ s) (m:=k) (by omega);have c8_l:c8.length<=9223372036854775807:=(w4.2 c8 (List.mem_of_getElem? hc9)).1;refine gx tv4 6 ?_;refine q1 (qidx tv4 k rfl rfl rfl hc9 rfl rfl rfl rfl) rfl fun w10=>?_;refine gx tv4 13 ?_;refine loop (ι:=Nat) [0,1,6,9,10,11,12,13,14,15,16,17,18,19,20] [] (fun j=>[(21, .int .i64 (j:Int))]) (fun j=>[]) (fun j=>j<=besides.length/\besides.contains c8=(besides.drop j).contains c8) (fun j=>besides.length-j) 0 ⟨rfl,trivial⟩ trivial ?_ ?_
    · exact⟨Nat.zero_le _,by simp⟩
    rintro j hp11;obtain⟨hj1,hj2⟩:=hp11;refine gx tv4 6 ?_;refine cn rfl (fun p13=>?_) fun p20=>?_
    · obtain⟨c14,hc15⟩:=getE (xs:=besides) (m:=j) (by omega);have c14_l:c14.length<=9223372036854775807:=(w.2.1.2 c14 (List.mem_of_getElem? hc15)).1;refine gx tv4 6 ?_;refine q1 (qidx tv4 j rfl rfl rfl hc15 rfl rfl rfl rfl) rfl fun w16=>?_;refine gx tv4 11 ?_;refine cn rfl (fun p18=>?_) fun p19=>?_
      · refine gy tv4 12 ?_;refine next (k+1) rfl rfl ⟨rfl,trivial⟩ trivial ?_ ?_
        · omega
        refine⟨by omega,?_⟩
        rw[hk2,C3_ hc9,List.any_cons]
        have hb:Lv_ besides c8=false:=by
          unfold Lv_
          rw[hj2,C3_ hc15]
          first|(simp[*];done)|simp_all
        simp[hb]
      refine gy tv4 7 ?_;refine next (j+1) rfl rfl ⟨rfl,trivial⟩ trivial ?_ ?_
      · omega
      refine⟨by omega,?_⟩
      rw[hj2,C3_ hc15,List.contains_cons]
      simp[*]
    refine gx tv4 11 ?_;refine callg rfl (fun hc=>(Q1_ _)) rfl ⟨(fun hc=>hc),trivial⟩ rfl rfl fun _=>?_;refine gy tv4 4 ?_;refine cnd rfl (fun h21=>?_) (fun h21=>?_)
    · refine gx tv4 12 ?_;refine rt1 rfl rfl (ple ?_);have hb:Lv_ besides c8=true:=by
        unfold Lv_
        rw[hj2,List.drop_of_length_le (by omega)]
        first|(simp[*];done)|simp_all
      unfold keyE
      rw[if_neg (by omega),hk2,C3_ hc9,List.any_cons,hb]
      rfl
    have h22:=orl h21;have p23:=df h22;have h24:=orr h21;have h25:=Bf_ h24;refine gy tv4 7 ?_;refine next (k+1) rfl rfl ⟨rfl,trivial⟩ trivial ?_ ?_
    · omega
    refine⟨by omega,?_⟩
    rw[hk2,C3_ hc9,List.any_cons]
    have hb:Lv_ besides c8=false:=by
      unfold Lv_
      rw[hj2,List.drop_of_length_le (by omega)]
      first|(simp[*];done)|simp_all
    simp[hb]
  refine gx tv4 12 ?_;refine rt1 rfl rfl (ple ?_)
  unfold keyE
  rw[if_neg (by omega),hk2,List.drop_of_length_le (by omega)]
  rfl
theorem Mi_ (s:Bs):Fn Tryz.prog gb 199 [.str s] (.int .i64 (keyE [] s)):=by
  refine fC Tryz.func199 tv4 Tryz.ntmps199 fun w N H hG=>?_;refine gx tv4 8 ?_;refine call (Fn.le (Ww_ _ []) (B_ (ple rfl) (B_ Ak_ Ag_)) (ple rfl) rfl) rfl rfl fun w1=>?_;refine gx tv4 4 ?_;refine rt1 rfl rfl (ple ?_)
  rfl
theorem ag2:Ag Tryz.prog 2 false:=fun w=>by kernel_rfl
theorem ag5:Ag Tryz.prog 5 false:=fun w=>by kernel_rfl
theorem ag9:Ag Tryz.prog 9 false:=fun w=>by kernel_rfl
theorem eqg199:Tryz.prog.eqGuardType Tryz.prog.depth 199=false:=by kernel_rfl
theorem mixd:Tryz.prog.follows .mixedOrders=true:=by kernel_rfl
theorem veq199 (p q:Pair):∀ (H:Hp) (vs us:List Value),Sims H (Pair.pc p) vs->Sims H (Pair.pc q) us->EqV Tryz.prog 10000 199 (.agg vs.toArray) (.agg us.toArray) (decide (p=q)):=by
  intro H vs us hv hu;obtain⟨_,_,rfl,v0,v_0⟩:=hv.inv_cons;obtain⟨_,_,rfl,v1,v_1⟩:=v_0.inv_cons;obtain⟨_,_,rfl,v2,v_2⟩:=v_1.inv_cons;obtain⟨_,_,rfl,v3,v_3⟩:=v_2.inv_cons
  cases v_3.inv_nil
  cases v0.inv_str.1;cases v1.inv_int.1;cases v2.inv_int.1;cases v3.inv_str.1
  obtain⟨_,_,rfl,u0,u_0⟩:=hu.inv_cons;obtain⟨_,_,rfl,u1,u_1⟩:=u_0.inv_cons;obtain⟨_,_,rfl,u2,u_2⟩:=u_1.inv_cons;obtain⟨_,_,rfl,u3,u_3⟩:=u_2.inv_cons
  cases u_3.inv_nil
  cases u0.inv_str.1;cases u1.inv_int.1;cases u2.inv_int.1;cases u3.inv_str.1
  exact EqV.to (L9_ Tryz.underlying199 (by kernel_rfl) (If_ (by decide) ag9 rfl rfl (Hm_ Tryz.underlying9) (If_ (by decide) ag5 rfl rfl (H5_ Tryz.underlying5) (If_ (by decide) ag2 rfl rfl (H5_ Tryz.underlying2) (If_ (by decide) ag9 rfl rfl (Hm_ Tryz.underlying9) Ls_))))) (by obtain⟨a0,a1,a2,a3⟩:=p;obtain⟨b0,b1,b2,b3⟩:=q;rw[Bool.eq_iff_iff];simp)
abbrev ty2:TI:=⟨.int .i64,1,8,[.int .i64 0]⟩
abbrev ty5:TI:=⟨.int .u8,1,1,[.int .u8 0]⟩
abbrev ty47:TI:=⟨.slc 199,1,24,[.sl Pair.pc []]⟩
abbrev Wr_:TI:=⟨.agg [(0,1),(1,1),(2,1),(3,1)],4,48,[.str [], .int .u8 0, .int .i64 0, .str []]⟩
def tbv5:Tb:=[(2,ty2),(5,ty5),(9,ty9),(47,ty47),(199,Wr_)]
theorem tv5:tbB Tryz.prog tbv5=true:=by kernel_rfl
theorem eq_Pair (a:List Pair) (b:List Pair):Fn Tryz.prog gb 121 [.sl Pair.pc a, .sl Pair.pc b] (.bool (decide (a=b))):=by
  refine fC Tryz.func121 tv5 Tryz.ntmps121 fun w N H hG=>?_;have a_l:a.length<=140737488355328:=w.1.1;have b_l:b.length<=140737488355328:=w.2.1.1;refine gx tv5 15 ?_;refine cnd rfl (fun h1=>?_) (fun h1=>?_)
  · have h2:=Br_ h1;have p3:=df h2;refine gx tv5 7 ?_;refine rt1 rfl rfl (ple ?_);exact congrArg PV.bool (Yd_ (by assumption)).symm
  have h4:=Bf_ h1;have p5:=dt h4;refine gx tv5 11 ?_;refine loop (ι:=Nat) [0,1,6,7,8,9,10,11,12] [] (fun k=>[(13, .int .i64 (k:Int))]) (fun k=>[]) (fun k=>k<=a.length /\ decide (a=b) = decide (a.drop k=b.drop k)) (fun k=>a.length-k) 0 ⟨rfl,trivial⟩ trivial ?_ ?_
  · exact⟨Nat.zero_le _,rfl⟩
  rintro k hp6;obtain⟨hk1,hk2⟩:=hp6;refine gx tv5 6 ?_;refine cnd rfl (fun h7=>?_) (fun h7=>?_)
  · have p8:=dt h7;refine gx tv5 11 ?_;refine aN [0,1,2,3,4,5] 9 mixd ?_;refine gX tv5 [0,1] 7 ?_;obtain⟨c9,hc10⟩:=getE (xs:=a) (m:=k) (by omega);have c9_w:=Pair.pwf (w.1.2 c9 (List.mem_of_getElem? hc10));refine vq 2 (qidx tv5 k rfl rfl rfl hc10 rfl rfl rfl rfl) rfl (by kernel_rfl) rfl fun w11=>?_;refine gX tv5 [3,4,5] 3 ?_;obtain⟨c12,hc13⟩:=getE (xs:=b) (m:=k) (by omega);have c12_w:=Pair.pwf (w.2.1.2 c12 (List.mem_of_getElem? hc13));refine vq 6 (qidx tv5 k rfl rfl rfl hc13 rfl rfl rfl rfl) rfl (by kernel_rfl) rfl fun w14=>?_;refine gX tv5 [7] 1 ?_;refine vq 8 (sane rfl rfl eqg199 (veq199 c9 c12)) rfl (by kernel_rfl) rfl fun w15=>?_;refine vD ?_;refine gx tv5 1 ?_;refine cnd rfl (fun h16=>?_) (fun h16=>?_)
    · have h17:=Br_ h16;have p18:=df h17;refine gx tv5 11 ?_;refine rt1 rfl rfl (ple ?_);exact congrArg PV.bool (T4_ hk2 (C3_ hc10) (C3_ hc13) (by assumption)).symm
    have h19:=Bf_ h16;have p20:=dt h19;refine gy tv5 7 ?_;refine next (k+1) rfl rfl ⟨rfl,trivial⟩ trivial ?_ ?_
    · omega
    exact⟨by omega,Tw_ hk2 (C3_ hc10) (C3_ hc13) (by assumption)⟩
  have p21:=df h7;refine gx tv5 11 ?_;refine rt1 rfl rfl (ple ?_);exact congrArg PV.bool (Zl_ hk2 (by omega) (by omega)).symm
theorem Vi_ (a:List Pair) (b:List Pair):Fn Tryz.prog gb 77 [.sl Pair.pc a, .sl Pair.pc b] (.bool (decide (a=b))):=by
  refine fC Tryz.func77 tv5 Tryz.ntmps77 fun w N H hG=>?_;refine gx tv5 9 ?_;refine call (eq_Pair _ _) rfl rfl fun w1=>?_;refine gx tv5 4 ?_;refine rt1 rfl rfl (ple ?_)
  rfl
theorem idxF_Pair (s:List Pair) (f:FuncId) (f_fst f_cap:List PV) (f_p:Pair->Bool) (f_h:∀ x,Fn Tryz.prog gb f (argsP.apL f_fst ((.agg (Pair.pc x))::f_cap)) (.bool (f_p x))):Fn Tryz.prog gb 251 [.sl Pair.pc s, .fn f f_fst f_cap] (.int .i64 (idxP f_p s)):=by
  refine fC Tryz.func251 tv5 Tryz.ntmps251 fun w N H hG=>?_;have s_l:s.length<=140737488355328:=w.1.1;refine gx tv5 14 ?_;refine loop (ι:=Nat) [0,1,6,7] [] (fun k=>[(8, .int .i64 (k:Int))]) (fun k=>[]) (fun k=>k<=s.length/\idxP f_p s=idxF f_p k (s.drop k)) (fun k=>s.length-k) 0 ⟨rfl,trivial⟩ trivial ?_ ?_
  · exact⟨Nat.zero_le _,rfl⟩
  rintro k hp1;obtain⟨hk1,hk2⟩:=hp1;refine gx tv5 6 ?_;refine cnd rfl (fun h2=>?_) (fun h2=>?_)
  · have p3:=dt h2;obtain⟨c4,hc5⟩:=getE (xs:=s) (m:=k) (by omega);have c4_w:=Pair.pwf (w.1.2 c4 (List.mem_of_getElem? hc5));refine gx tv5 15 ?_;refine q1 (qidx tv5 k rfl rfl rfl hc5 rfl rfl rfl rfl) rfl fun w6=>?_;refine gx tv5 1 ?_;refine call (f_h c4) rfl rfl fun w7=>?_;refine gx tv5 2 ?_;refine cnd rfl (fun h8=>?_) (fun h8=>?_)
    · refine gx tv5 12 ?_;refine rt1 rfl rfl (ple ?_);exact congrArg (PV.int .i64) (N3_ hk2 (C3_ hc5) (by assumption)).symm
    refine gy tv5 7 ?_;refine next (k+1) rfl rfl ⟨rfl,trivial⟩ trivial ?_ ?_
    · omega
    exact⟨by omega,Lc_ hk2 (C3_ hc5) (by assumption)⟩
  have p9:=df h2;refine gx tv5 11 ?_;refine rt1 rfl rfl (ple ?_);exact congrArg (PV.int .i64) (N5_ hk2 (by omega)).symm
theorem head_Find1 (p:Pair) (key:Bs):Fn Tryz.prog gb 252 [.agg (Pair.pc p), .el [.str key] 0] (.bool (decide (p.key=key))):=by
  refine fC Tryz.func252 tv5 Tryz.ntmps252 fun w N H hG=>?_;refine gm tv5 16 [0] fun B2=>?_;refine rt1 rfl rfl (ple ?_)
  rfl
theorem Vw_ (h:List Pair) (key:Bs):Fn Tryz.prog gb 230 [.sl Pair.pc h, .str key] (.tup [.agg (Pair.pc ((Ia_ h key).getD Pair.zero)), .bool ((Ia_ h key).isSome)]):=by
  refine fC Tryz.func230 tv5 Tryz.ntmps230 fun w N H hG=>?_;refine gm tv5 10 [0,1] fun B2=>?_;refine freeze (i:=0) (t:=3) rfl rfl rfl rfl ?_;refine gx tv5 1 ?_;refine call (idxF_Pair _ _ _ _ (fun z_4:Pair=>decide (z_4.key=key)) (fun z_4=>head_Find1 z_4 key)) rfl rfl fun w5=>?_;have hix5:=Lm_ (fun z_4:Pair=>decide (z_4.key=key)) h;refine gx tv5 10 ?_;refine cn rfl (fun p7=>?_) fun p9=>?_
  · refine gm tv5 9 [] fun _=>?_;refine rt2 rfl rfl ?_;refine ple ?_;have e:=idxP_neg (by assumption);have e2:Ia_ h key=none:=by unfold Ia_;rw[<- e];congr 1;funext x;exact P5_ _ _
    rw[e2];rfl
  obtain⟨c10,hc11⟩:=getE (xs:=h) (m:=(idxP (fun z_4:Pair=>decide (z_4.key=key)) h).toNat) (by omega);have c10_w:=Pair.pwf (w.1.2 c10 (List.mem_of_getElem? hc11));refine gx tv5 6 ?_;refine q1 (qidx tv5 (idxP (fun z_4:Pair=>decide (z_4.key=key)) h).toNat rfl rfl (by omega) hc11 rfl rfl rfl rfl) rfl fun w12=>?_;refine gm tv5 6 [] fun _=>?_;refine rt2 rfl rfl ?_;refine ple ?_;have e:=(idxP_get (by assumption) hc11).2;have e2:Ia_ h key=some c10:=by unfold Ia_;rw[<- e];congr 1;funext x;exact P5_ _ _
  rw[e2];rfl
theorem Rg_ (p:Pair) (ahead:List Pair):Fn Tryz.prog gb 196 [.agg (Pair.pc p), .sl Pair.pc ahead] (.int .i64 (Aj_ p ahead)):=by
  refine fC Tryz.func196 tv5 Tryz.ntmps196 fun w N H hG=>?_;refine gm tv5 11 [0] fun B2=>?_;refine call (Ck_ _) rfl rfl fun w3=>?_;refine gx tv5 9 ?_;refine cnd rfl (fun h4=>?_) (fun h4=>?_)
  · have h5:=Br_ h4;have p6:=df h5;refine gx tv5 8 ?_;refine rt1 rfl rfl (ple ?_);refine congrArg (PV.int .i64) ?_
    simp only[bl1] at *
    unfold Aj_
    (repeat' split)<;>first|rfl|(exfalso;omega)|(exfalso;simp_all;done)|(exfalso;simp_all;omega)|grind
  have h7:=Bf_ h4;have p8:=dt h7;refine gx tv5 7 ?_;refine call (Vw_ _ _) rfl rfl fun w9=>?_;refine gm tv5 18 [1] fun B11=>?_;refine cnd rfl (fun h12=>?_) (fun h12=>?_)
  · have p13:=dt h12;refine gx tv5 8 ?_;refine rt1 rfl rfl (ple ?_);refine congrArg (PV.int .i64) ?_
    simp only[bl1] at *
    unfold Aj_
    (repeat' split)<;>first|rfl|(exfalso;omega)|(exfalso;simp_all;done)|(exfalso;simp_all;omega)|grind
  have p14:=df h12;refine gy tv5 14 ?_;refine cnd rfl (fun h15=>?_) (fun h15=>?_)
  · have h16:=bl h15;have p17:=dt h16;have h18:=br h15;have p19:=dt h18;refine gx tv5 8 ?_;refine rt1 rfl rfl (ple ?_);refine congrArg (PV.int .i64) ?_
    simp only[bl1] at *
    unfold Aj_
    (repeat' split)<;>first|rfl|(exfalso;omega)|(exfalso;simp_all;done)|(exfalso;simp_all;omega)|grind
  refine gy tv5 18 ?_;refine cnd rfl (fun h20=>?_) (fun h20=>?_)
  · have h21:=bl h20;have h22:=bl h21;have p23:=dt h22;have h24:=br h21;have h25:=Br_ h24;have p26:=df h25;have h27:=br h20;have h28:=Br_ h27;have p29:=df h28;refine gx tv5 8 ?_;refine rt1 rfl rfl (ple ?_);refine congrArg (PV.int .i64) ?_
    simp only[bl1] at *
    unfold Aj_
    (repeat' split)<;>first|rfl|(exfalso;omega)|(exfalso;simp_all;done)|(exfalso;simp_all;omega)|grind
  refine gy tv5 14 ?_;refine cnd rfl (fun h30=>?_) (fun h30=>?_)
  · have h31:=bl h30;have p32:=dt h31;have h33:=br h30;have h34:=Br_ h33;have p35:=df h34;refine gx tv5 2 ?_;refine cndT rfl h30 ?_;refine gx tv5 8 ?_;refine rt1 rfl rfl (ple ?_);refine congrArg (PV.int .i64) ?_
    simp only[bl1] at *
    unfold Aj_
    (repeat' split)<;>first|rfl|(exfalso;omega)|(exfalso;simp_all;done)|(exfalso;simp_all;omega)|grind
  refine gy tv5 12 ?_;refine cnd rfl (fun h36=>?_) (fun h36=>?_)
  · have h37:=bl h36;have h38:=Br_ h37;have p39:=df h38;have h40:=br h36;have h41:=Br_ h40;have p42:=df h41;refine gx tv5 8 ?_;refine rt1 rfl rfl (ple ?_);refine congrArg (PV.int .i64) ?_
    simp only[bl1] at *
    unfold Aj_
    (repeat' split)<;>first|rfl|(exfalso;omega)|(exfalso;simp_all;done)|(exfalso;simp_all;omega)|grind
  refine gx tv5 6 ?_;refine cnd rfl (fun h43=>?_) (fun h43=>?_)
  · refine gx tv5 8 ?_;refine rt1 rfl rfl (ple ?_);refine congrArg (PV.int .i64) ?_
    simp only[bl1] at *
    unfold Aj_
    (repeat' split)<;>first|rfl|(exfalso;omega)|(exfalso;simp_all;done)|(exfalso;simp_all;omega)|grind
  refine gx tv5 9 ?_;refine rt1 rfl rfl (ple ?_);refine congrArg (PV.int .i64) ?_
  simp only[bl1] at *
  unfold Aj_
  (repeat' split)<;>first|rfl|(exfalso;omega)|(exfalso;simp_all;done)|(exfalso;simp_all;omega)|grind
theorem Gj_ (h:List Pair):Fn Tryz.prog gb 201 [.sl Pair.pc h] (.int .i64 (Df_ h)):=by
  refine fC Tryz.func201 tv5 Tryz.ntmps201 fun w N H hG=>?_;refine gx tv5 13 ?_;refine cn rfl (fun p2=>?_) fun p3=>?_
  · refine gx tv5 7 ?_;refine rt1 rfl rfl (ple ?_)
    simp[Df_, *]
  refine gx tv5 11 ?_;refine loop (ι:=Nat) [0,6,7,8,9,10] [] (fun k=>[(11, .int .i64 (k:Int))]) (fun k=>[]) (fun k=>k<=h.length/\Gh_ [] h=Gh_ (h.take k) (h.drop k)) (fun k=>h.length-k) 0 ⟨rfl,trivial⟩ trivial ?_ ?_
  · exact⟨Nat.zero_le _,rfl⟩
  rintro k hp4;obtain⟨hk1,hk2⟩:=hp4;refine gx tv5 6 ?_;refine cn rfl (fun p6=>?_) fun p19=>?_
  · obtain⟨c7,hc8⟩:=getE (xs:=h) (m:=k) (by omega);have c7_w:=Pair.pwf (w.1.2 c7 (List.mem_of_getElem? hc8));refine gx tv5 7 ?_;refine q1 (qidx tv5 k rfl rfl rfl hc8 rfl rfl rfl rfl) rfl fun w9=>?_;refine gm tv5 7 [0] fun B11=>?_;refine aN [1,2,3,4,5,6] 6 mixd ?_;refine gX tv5 [0,1,2] 3 ?_;refine vq 3 (lshi tv5 k rfl rfl rfl rfl rfl (fun _=>rfl) rfl (by omega)) rfl (by kernel_rfl) rfl fun w12=>?_;refine vC 4 rfl (Rg_ _ _) rfl fun w13=>?_;have :=E1_ c7 (h.take k);refine gX tv5 [5] 0 ?_;refine vD ?_;refine gx tv5 7 ?_;refine cnd rfl (fun h14=>?_) (fun h14=>?_)
    · have h15:=Br_ h14;have p16:=df h15;refine gx tv5 12 ?_;refine rt1 rfl rfl (ple ?_)
      unfold Df_
      rw[if_neg (by omega),hk2,C3_ hc8]
      simp only[Gh_]
      rw[if_pos (by omega)]
    have h17:=Bf_ h14;have p18:=dt h17;refine gy tv5 7 ?_;refine next (k+1) rfl rfl ⟨rfl,trivial⟩ trivial ?_ ?_
    · omega
    refine⟨by omega,?_⟩
    rw[hk2,C3_ hc8,takeE hc8]
    simp only[Gh_]
    rw[if_neg (by omega)]
  refine gx tv5 11 ?_;refine rt1 rfl rfl (ple ?_)
  unfold Df_
  rw[if_neg (by omega),hk2,List.drop_of_length_le (by omega)]
  rfl
abbrev ty4:TI:=⟨.bool,1,1,[.bool false]⟩
abbrev ty49:TI:=⟨.agg [(0,1),(1,1),(2,1),(3,1),(4,1),(5,1)],6,88,[.str [], .str [], .bool false, .str [], .sl Pair.pc [], .bool false]⟩
def tbv9:Tb:=[(4,ty4),(9,ty9),(47,ty47),(49,ty49)]
theorem tv9:tbB Tryz.prog tbv9=true:=by kernel_rfl
theorem T0_ (a:BindR) (b:BindR):Fn Tryz.prog gb 242 [.agg (BindR.pc a), .agg (BindR.pc b)] (.bool (decide (a=b))):=by
  refine fC Tryz.func242 tv9 Tryz.ntmps242 fun w N H hG=>?_;refine gmy tv9 40 [0,1] fun B2=>?_;refine callg rfl (fun hc=>(Vi_ _ _)) rfl ⟨(fun hc=>hc),(fun hc=>hc),trivial⟩ rfl rfl fun _=>?_;refine gy tv9 12 ?_;refine rt1 rfl rfl (ple ?_);exact congrArg PV.bool (by rw[Bool.eq_iff_iff];first|(simp[BindR.eq_iff,and_assoc];done)|(simp[BindR.eq_iff];grind))
theorem Oy_ (yes:Bool):Fn Tryz.prog gb 239 [.bool yes] (.int .u64 (bitN yes)):=by
  refine fC Tryz.func239 tv9 Tryz.ntmps239 fun w N H hG=>?_;refine gx tv9 11 ?_;refine cnd rfl (fun h1=>?_) (fun h1=>?_)
  · refine gx tv9 7 ?_;refine rt1 rfl rfl (ple ?_)
    simp only[bitN, *];rfl
  refine gx tv9 8 ?_;refine rt1 rfl rfl (ple ?_)
  simp only[bitN, *];rfl
theorem cb119:Ah_ Tryz.prog 119:=Z_ Tryz.func119 (by kernel_rfl) (by kernel_rfl)
theorem cb153:Ah_ Tryz.prog 153:=Z_ Tryz.func153 (by kernel_rfl) (by kernel_rfl)
theorem cb154:Ah_ Tryz.prog 154:=Z_ Tryz.func154 (by kernel_rfl) (by kernel_rfl)
theorem cb155:Ah_ Tryz.prog 155:=Z_ Tryz.func155 (by kernel_rfl) (by kernel_rfl)
theorem cb159:Ah_ Tryz.prog 159:=Z_ Tryz.func159 (by kernel_rfl) (by kernel_rfl)
abbrev ty291:TI:=⟨.slc 5,1,24,[.sl u8c []]⟩
def tbv6:Tb:=[(3,ty3),(5,ty5),(9,ty9),(27,ty27),(40,ty40),(261,ty261),(291,ty291)]
theorem tv6:tbB Tryz.prog tbv6=true:=by kernel_rfl
theorem I7_ (i:In) (bytes:Int):Fm Tryz.prog gb 153 [.int .i64 bytes] 261 (In.pc i) (.int .u64 (((S_ i bytes)).1)) (In.pc (((S_ i bytes)).2)):=by
  refine L6_ tv6 Tryz.func153 rfl Tryz.ntmps153 rfl cb153 rfl rfl rfl rfl fun w wp b N H hG=>?_;have hb0:=Na_ i (min bytes 8);refine gx tv6 16 ?_;refine ef (ecallm (in_Raw _ (min bytes 8)) rfl rfl rfl rfl rfl fun w1 w1p=>?_);refine ef (ss2b tv6 rfl rfl rfl rfl rfl rfl rfl (by omega) rfl ?_);refine gx tv6 5 ?_;refine loop (ι:=Nat) [0,1,4,8,9,10,11,12,13] [0] (fun k=>[(5, .int .u64 (beN ((Dc_ i (min bytes 8)).1.take k):Int)),(14, .int .i64 (k:Int))]) (fun k=>[]) (fun k=>k<=(Dc_ i (min bytes 8)).1.length) (fun k=>(Dc_ i (min bytes 8)).1.length-k) 0 ⟨rfl,rfl,trivial⟩ trivial ?_ ?_
  · exact Nat.zero_le _
  rintro k hp2;have hb:=Na_ i (min bytes 8);refine gx tv6 6 ?_;refine cn rfl (fun p4=>?_) fun p8=>?_
  · obtain⟨c5,hc6⟩:=getE (xs:=(Dc_ i (min bytes 8)).1) (m:=k) (by omega);refine gx tv6 6 ?_;refine q1 (qidx tv6 k rfl rfl rfl hc6 rfl rfl rfl rfl) rfl fun w7=>?_;have :=Sf_ ((BitVec.ofInt (IntKind.bits .u64) (IntKind.wrap .u64 ((beN ((Dc_ i (min bytes 8)).1.take k):Int)*2 ^ (min (8:Int).toNat (IntKind.bits .u64)))) |||BitVec.ofInt (IntKind.bits .u64) ((c5).toNat:Int)).toNat)
    refine gy tv6 18 ?_;refine next (k+1) rfl rfl ⟨(congrArg (PV.int .u64) (num_step hc6 (by omega))),rfl,trivial⟩ trivial ?_ ?_
    · omega
    omega
  refine gx tv6 12 ?_;refine rm1 rfl rfl ?_ rfl rfl rfl ?_
  · refine ple ?_
    simp only[S_]
    rw[List.take_of_length_le (by omega)]
  exact ples rfl
theorem J1_ (i:In) (most:Int):Fm Tryz.prog gb 154 [.int .i64 most] 261 (In.pc i) (.str (((V_ i most)).1)) (In.pc (((V_ i most)).2)):=by
  refine L6_ tv6 Tryz.func154 rfl Tryz.ntmps154 rfl cb154 rfl rfl rfl rfl fun w wp b N H hG=>?_;refine gx tv6 8 ?_;refine ef (ecallm (I7_ _ _) rfl rfl rfl rfl rfl fun w1 w1p=>?_);have :=Da_ i 2;refine q1 (qconv tv6 rfl rfl rfl rfl (Q3_ (by omega))) rfl fun w2=>?_;refine gx tv6 11 ?_;refine cn rfl (fun p4=>?_) fun p7=>?_
  · refine gx tv6 2 ?_;refine ef (ecallm (Lw_ _ _) rfl rfl rfl rfl rfl fun w5 w5p=>?_);refine gx tv6 6 ?_;refine ef (ecallm (in_Raw _ _) rfl rfl rfl rfl rfl fun w6 w6p=>?_);refine gx tv6 4 ?_;refine rm1 rfl rfl ?_ rfl rfl rfl ?_
    · exact ple (by simp[V_, *])
    exact ples (by simp[V_,In.pc, *])
  refine gx tv6 6 ?_;refine ef (ecallm (in_Raw _ _) rfl rfl rfl rfl rfl fun w8 w8p=>?_);refine gx tv6 4 ?_;refine rm1 rfl rfl ?_ rfl rfl rfl ?_
  · exact ple (by simp[V_, *])
  exact ples (by simp[V_,In.pc, *])
theorem in_Left (i:In):Fm Tryz.prog gb 159 [] 261 (In.pc i) (.int .i64 (i.s.length:Int)) (In.pc i):=by
  refine L6_ tv6 Tryz.func159 rfl Tryz.ntmps159 rfl cb159 rfl rfl rfl rfl fun w wp b N H hG=>?_;refine gx tv6 9 ?_;refine q1 (qpeq Tryz.underlying217 rfl rfl) rfl fun w1=>?_;refine gx tv6 16 ?_;refine rm1 rfl rfl ?_ rfl rfl rfl ?_
  · exact ple rfl
  exact ples rfl
theorem M0_ (i:In):Fm Tryz.prog gb 155 [] 261 (In.pc i) (.int .i64 i.err) (In.pc i):=by
  refine L6_ tv6 Tryz.func155 rfl Tryz.ntmps155 rfl cb155 rfl rfl rfl rfl fun w wp b N H hG=>?_;refine gx tv6 9 ?_;refine q1 (qpeq Tryz.underlying217 rfl rfl) rfl fun w1=>?_;refine gx tv6 15 ?_;refine rm1 rfl rfl ?_ rfl rfl rfl ?_
  · exact ple rfl
  exact ples rfl
theorem in_End (i:In):Fm Tryz.prog gb 119 [] 261 (In.pc i) (.int .i64 (Qa_ i)) (In.pc i):=by
  refine L6_ tv6 Tryz.func119 rfl Tryz.ntmps119 rfl cb119 rfl rfl rfl rfl fun w wp b N H hG=>?_;refine gx tv6 9 ?_;refine ef (ecallm (M0_ _) rfl rfl rfl rfl rfl fun w1 w1p=>?_);refine gx tv6 3 ?_;refine callgm rfl (fun hc=>(in_Left _)) rfl rfl rfl rfl ⟨(fun hc=>hc),trivial⟩ rfl rfl fun _=>?_;refine gy tv6 4 ?_;refine cnd rfl (fun h2=>?_) (fun h2=>?_)
  · have h3:=bl h2;have p4:=dt h3;have h5:=br h2;have p6:=dt h5;refine gx tv6 7 ?_;refine rm1 rfl rfl ?_ rfl rfl rfl ?_
    · refine ple ?_;refine congrArg (PV.int .i64) ?_
      simp only[bl1] at *
      unfold Qa_
      (repeat' split)<;>first|rfl|(exfalso;omega)|(exfalso;simp_all;done)|(exfalso;simp_all;omega)|grind
    exact ples rfl
  refine gx tv6 5 ?_;refine ef (ecallm (M0_ _) rfl rfl rfl rfl rfl fun w7 w7p=>?_);refine gx tv6 4 ?_;refine rm1 rfl rfl ?_ rfl rfl rfl ?_
  · refine ple ?_;refine congrArg (PV.int .i64) ?_
    simp only[bl1] at *
    unfold Qa_
    (repeat' split)<;>first|rfl|(exfalso;omega)|(exfalso;simp_all;done)|(exfalso;simp_all;omega)|grind
  exact ples rfl
def tbv7:Tb:=[(9,ty9),(200,Um_)]
theorem tv7:tbB Tryz.prog tbv7=true:=by kernel_rfl
theorem Hw_ (pattern:Bs) (key:Bs) (hp:pattern.length<4294967281:=by first|omega|(simp;done)|decide) (hk:key.length<4294967281:=by first|omega|(simp;done)|decide):Fn Tryz.prog gb 248 [.str pattern, .str key] (.bool (mt (A5_ pattern) (A5_ key))):=by
  refine fC Tryz.func248 tv7 Tryz.ntmps248 fun w N H hG=>?_;refine gx tv7 8 ?_;refine call (Lr_ _) rfl rfl fun w1=>?_;refine gx tv7 1 ?_;refine call (Lr_ _) rfl rfl fun w2=>?_;refine gx tv7 18 ?_;refine loop (ι:=Nat×Nat×Int×Nat) [0,1,5,6,11,12,13,14] [] (fun ⟨i,j,b,f⟩=>[(7, .int .i64 (i:Int)),(8, .int .i64 (j:Int)),(9, .int .i64 b),(10, .int .i64 (f:Int))]) (fun ⟨i,j,b,f⟩=>[]) (fun ⟨i,j,b,f⟩=>MI (A5_ pattern) (A5_ key) i j b f) (fun ⟨i,j,b,f⟩=>mmu (A5_ pattern) (A5_ key) j b f) ⟨0,0,(-1),0⟩ ⟨rfl,rfl,rfl,rfl,trivial⟩ trivial ?_ ?_
  · exact MI.start _ _
  rintro⟨i,j,b,f⟩ hp3;have hmi:=hp3;have hwp:=O3_ pattern;have hwk:=O3_ key;have :=hmi.hi;have :=hmi.hj;have :=hmi.hf;have :=hmi.hb;have :=hmi.hbi;refine gx tv7 9 ?_;refine cnd rfl (fun h4=>?_) (fun h4=>?_)
  · have p5:=dt h4;obtain⟨c6,hc7⟩:=getJ (A5_ pattern) i;refine gx tv7 13 ?_;refine q1g [25,26] rfl (fun hc=>qidx tv7 i rfl rfl rfl (hc7 (by first|omega|(simp only[gOf,bl2] at *;omega))) rfl rfl rfl rfl) ⟨(fun hc=>hc),(fun hc=>hc),trivial⟩ rfl rfl rfl fun _=>?_;refine gy tv7 6 ?_;refine cnd rfl (fun h8=>?_) (fun h8=>?_)
    · have h9:=bl h8;have p10:=dt h9;have h11:=br h8;have p12:=dt h11;refine gy tv7 15 ?_;obtain⟨c13,hc14⟩:=getE (xs:=A5_ key) (m:=j) (by omega);refine next ⟨(i+1),j,((i:Int)+1),j⟩ rfl rfl ⟨(congrArg (PV.int .i64) (by omega)),rfl,rfl,rfl,trivial⟩ trivial ?_ ?_
      · exact mmu_hash hmi (by omega)
      exact MI.hash hmi (by rw[(hc7 (by first|omega|(simp only[gOf,bl2] at *;omega)))];simp[*])
    refine gx tv7 1 ?_;refine aN [0,1,2,3,4,5] 23 mixd ?_;refine gX tv7 [0,1,2,3,4,5,6] 16 ?_;refine vqg 7 [41,42] rfl (by kernel_rfl) rfl rfl (fun hc=>qidx tv7 i rfl rfl rfl (hc7 (by first|omega|(simp only[gOf,bl2] at *;omega))) rfl rfl rfl rfl) ⟨(fun hc=>hc),(fun hc=>hc),trivial⟩ rfl fun _=>?_;refine gXy tv7 [8,9,10,11,12] 10 ?_;refine vqg 13 [47,48] rfl (by kernel_rfl) rfl rfl (fun hc=>qidx tv7 i rfl rfl rfl (hc7 (by first|omega|(simp only[gOf,bl2] at *;omega))) rfl rfl rfl rfl) ⟨(fun hc=>hc),(fun hc=>hc),trivial⟩ rfl fun _=>?_;refine gXy tv7 [14,15,16] 6 ?_;obtain⟨c15,hc16⟩:=getJ (A5_ key) j;refine vqg 17 [51,52] rfl (by kernel_rfl) rfl rfl (fun hc=>qidx tv7 j rfl rfl rfl (hc16 (by first|omega|(simp only[gOf,bl2] at *;omega))) rfl rfl rfl rfl) ⟨(fun hc=>hc),(fun hc=>hc),trivial⟩ rfl fun _=>?_;refine gXy tv7 [18,19,20,21,22] 0 ?_;refine vD ?_;refine gx tv7 1 ?_;refine cnd rfl (fun h17=>?_) (fun h17=>?_)
    · have h18:=bl h17;have p19:=dt h18;have h20:=br h17;refine gy tv7 10 ?_;refine next ⟨(i+1),(j+1),b,f⟩ rfl rfl ⟨(congrArg (PV.int .i64) (by omega)),rfl,rfl,rfl,trivial⟩ trivial ?_ ?_
      · exact mmu_step (by omega)
      first|exact MI.step hmi (hc7 (by first|omega|(simp only[gOf,bl2] at *;omega))) (hc16 (by first|omega|(simp only[gOf,bl2] at *;omega))) (by assumption) (by first|exact .inl (by assumption)|exact .inr (by assumption))|exact MI.step hmi (hc7 (by first|omega|(simp only[gOf,bl2] at *;omega))) (hc16 (by first|omega|(simp only[gOf,bl2] at *;omega))) (by simp_all) (by first|(left;simp_all;done)|(right;simp_all;done)|grind)
    refine gx tv7 7 ?_;refine cnd rfl (fun h21=>?_) (fun h21=>?_)
    · have p22:=dt h21;refine gy tv7 15 ?_;have hbad:∀ w,(A5_ pattern)[i]? = some w->w≠[35]/\w≠[42]/\w≠c15:=by
        intro w hw;obtain⟨hlt,_⟩:=List.getElem?_eq_some_iff.1 hw
        rw[(hc7 (by first|omega|(simp only[gOf,bl2] at *;omega)))] at hw;cases hw
        first|exact⟨by assumption,by assumption,by assumption⟩|(refine⟨?_,?_,?_⟩<;>intro q<;>simp_all)
      refine next ⟨b.toNat,(f+1),b,(f+1)⟩ rfl rfl ⟨(congrArg (PV.int .i64) (by omega)),rfl,rfl,rfl,trivial⟩ trivial ?_ ?_
      · exact mmu_back hmi.hf (by omega)
      exact MI.back hmi (hc16 (by first|omega|(simp only[gOf,bl2] at *;omega))) (by omega) hbad
    have p23:=df h21;refine gx tv7 11 ?_;refine rt1 rfl rfl (ple ?_);have hbad:∀ w,(A5_ pattern)[i]? = some w->w≠[35]/\w≠[42]/\w≠c15:=by
      intro w hw;obtain⟨hlt,_⟩:=List.getElem?_eq_some_iff.1 hw
      rw[(hc7 (by first|omega|(simp only[gOf,bl2] at *;omega)))] at hw;cases hw
      first|exact⟨by assumption,by assumption,by assumption⟩|(refine⟨?_,?_,?_⟩<;>intro q<;>simp_all)
    exact congrArg PV.bool (MI.none hmi (hc16 (by first|omega|(simp only[gOf,bl2] at *;omega))) (by omega) hbad).symm
  have p24:=df h4;refine gx tv7 7 ?_;refine loop (ι:=Nat) [0,1,5,6,8,9,10,11,12,13,14,15,16,17,18] [] (fun q=>[(7, .int .i64 (q:Int))]) (fun q=>[]) (fun q=>q<=(A5_ pattern).length/\mt (A5_ pattern) (A5_ key)=mt ((A5_ pattern).drop q) []) (fun q=>(A5_ pattern).length-q) i ⟨rfl,trivial⟩ trivial ?_ ?_
  · exact⟨by omega,hmi.fin (by omega)⟩
  rintro q hp25;obtain⟨hq1,hq2⟩:=hp25;obtain⟨c26,hc27⟩:=getJ (A5_ pattern) q;refine gx tv7 10 ?_;refine q1g [74,75] rfl (fun hc=>qidx tv7 q rfl rfl rfl (hc27 (by first|omega|(simp only[gOf,bl2] at *;omega))) rfl rfl rfl rfl) ⟨(fun hc=>hc),(fun hc=>hc),trivial⟩ rfl rfl rfl fun _=>?_;refine gy tv7 5 ?_;refine cnd rfl (fun h28=>?_) (fun h28=>?_)
  · have h29:=bl h28;have p30:=dt h29;have h31:=br h28;have p32:=dt h31;refine gy tv7 9 ?_;refine next (q+1) rfl rfl ⟨rfl,trivial⟩ trivial ?_ ?_
    · omega
    exact⟨by omega,mt_end hq2 (by rw[(hc27 (by first|omega|(simp only[gOf,bl2] at *;omega)))];simp[*])⟩
  refine gx tv7 15 ?_;refine rt1 rfl rfl (ple ?_);refine congrArg PV.bool ?_
  rw[hq2]
  by_cases hql:q<(A5_ pattern).length
  · rw[mt_endN (hc27 (by first|omega|(simp only[gOf,bl2] at *;omega))) (by first|assumption|simp_all)]
    rw[decide_eq_false_iff_not];omega
  have hqe:q=(A5_ pattern).length:=by omega
  subst hqe
  rw[List.drop_length];simp[mt]
theorem Mp_ (s:Bs):Fn Tryz.prog gb 200 [.str s] (.int .i64 (keyE patB s)):=by
  refine fC Tryz.func200 tv7 Tryz.ntmps200 fun w N H hG=>?_;refine gx tv7 8 ?_;refine ef (bsl 0 strc [[42],[35]] tv7 rfl rfl rfl rfl rfl (fun _=>rfl) rfl (by decide) (by decide) rfl fun u1=>?_);refine ef (calll 0 rfl (Ww_ _ _) rfl rfl rfl fun w2=>?_);refine gx tv7 4 ?_;refine rt1 rfl rfl (ple ?_)
  rfl
theorem cb157:Ah_ Tryz.prog 157:=Z_ Tryz.func157 (by kernel_rfl) (by kernel_rfl)
theorem cb195:Ah_ Tryz.prog 195:=Z_ Tryz.func195 (by kernel_rfl) (by kernel_rfl)
def tbv8:Tb:=[(2,ty2),(3,ty3),(5,ty5),(9,ty9),(27,ty27),(47,ty47),(199,Wr_),(285,We_)]
theorem tv8:tbB Tryz.prog tbv8=true:=by kernel_rfl
theorem G2_ (h:List Pair):Fn Tryz.prog gb 186 [.sl Pair.pc h] (.tup [.str (Av_ h), .int .i64 (Df_ h)]):=by
  refine fC Tryz.func186 tv8 Tryz.ntmps186 fun w N H hG=>?_;have h_l:h.length<=140737488355328:=w.1.1;refine gx tv8 10 ?_;refine call (Gj_ _) rfl rfl fun w1=>?_;refine gx tv8 9 ?_;refine cnd rfl (fun h2=>?_) (fun h2=>?_)
  · have h3:=Br_ h2;have p4:=df h3;refine gx tv8 9 ?_;refine rt2 rfl rfl ?_;refine ple ?_
    unfold Av_
    rw[if_neg (by omega)]
  have h5:=Bf_ h2;have p6:=dt h5;refine gx tv8 7 ?_;refine q1 (qconv tv8 rfl rfl rfl rfl (Z0_ (by omega))) rfl fun w7=>?_;refine call (out_Num (⟨[],0⟩:Out) _ _ (by ((try have :=hrl (by assumption));first|omega|(simp[C_,At_,Ad_,numK]<;>omega)))) rfl rfl fun w8=>?_;have nl0:(⟨[],0⟩:Out).s.length=0:=rfl;have :=P_ (⟨[],0⟩:Out) (h.length:Int) 1;refine gm tv8 13 [0] fun B10=>?_;refine loop (ι:=Nat×Out) [0,2,3,4,5,8,9,10,11,13,14,15,16,17,18,19] [] (fun ⟨k,o⟩=>[(20, .int .i64 (k:Int))]) (fun ⟨k,o⟩=>[(0, .box (B10 0) 285 [.str o.s, .int .i64 o.err])]) (fun ⟨k,o⟩=>k<=h.length/\h.foldl Fn_ (C_ ⟨[],0⟩ h.length 1)=(h.drop k).foldl Fn_ o/\o.s.length<=8+110*k) (fun ⟨k,o⟩=>h.length-k) ⟨0,(C_ (⟨[],0⟩:Out) (h.length:Int) 1)⟩ ⟨rfl,trivial⟩ ⟨rfl,trivial⟩ ?_ ?_
  · exact⟨Nat.zero_le _,rfl,by simp at *;omega⟩
  rintro⟨k,o⟩ hp11;obtain⟨hk1,hk2,hk3⟩:=hp11;have hok:=J4_ (h:=h) (by assumption);refine gx tv8 6 ?_;refine cn rfl (fun p13=>?_) fun p36=>?_
  · obtain⟨c14,hc15⟩:=getE (xs:=h) (m:=k) (by omega);have hpk:=hok.2 c14 (List.mem_of_getElem? hc15);have c14_w:=Pair.pwf (w.1.2 c14 (List.mem_of_getElem? hc15));refine gx tv8 6 ?_;refine q1 (qidx tv8 k rfl rfl rfl hc15 rfl rfl rfl rfl) rfl fun w16=>?_;refine gm tv8 6 [1] fun B18=>?_;refine aN [2,3,4,5,6,7] 9 mixd ?_;refine gX tv8 [0,1,2] 6 ?_;refine vC 3 rfl (Bl_ _ _) rfl fun w19=>?_;have :=T_ o c14.key;refine gX tv8 [4,5,6] 2 ?_;refine vC 7 rfl (out_Num _ _ _ (by ((try have :=hrl (by assumption));first|omega|(simp[C_,At_,Ad_,numK]<;>omega)))) rfl fun w20=>?_;have :=P_ (D_ o c14.key) c14.kind 1;refine vT 8 rfl (sA tv8 ?_);refine vD ?_;refine gx tv8 14 ?_;refine cn rfl (fun p22=>?_) fun p25=>?_
    · refine gx tv8 5 ?_;refine call (out_Num _ _ _ (by ((try have :=hrl (by assumption));first|omega|(simp[C_,At_,Ad_,numK]<;>omega)))) rfl rfl fun w23=>?_;have :=P_ (C_ (D_ o c14.key) c14.kind 1) (IntKind.wrap .u64 c14.num) 8;refine gmy tv8 9 [] fun _=>?_;refine next ⟨(k+1),(C_ (C_ (D_ o c14.key) c14.kind 1) (IntKind.wrap .u64 c14.num) 8)⟩ rfl rfl ⟨rfl,trivial⟩ ⟨rfl,trivial⟩ ?_ ?_
      · simp only[];omega
      have e:(C_ (C_ (D_ o c14.key) c14.kind 1) (IntKind.wrap .u64 c14.num) 8)=Fn_ o c14:=by unfold Fn_;first|(rw[if_pos (by omega)];done)|(rw[if_neg (by omega),if_pos (by omega)];done)|(rw[if_neg (by omega),if_neg (by omega),if_pos (by omega)];done)|(rw[if_neg (by omega),if_neg (by omega),if_neg (by omega)];done)
      simp only[]
      rw[e]
      have hlo:=H4_ (o:=o) (hok.2 c14 (List.mem_of_getElem? hc15));refine⟨by omega,?_,by omega⟩
      rw[hk2,C3_ hc15,List.foldl_cons]
    refine gx tv8 6 ?_;refine cn rfl (fun p27=>?_) fun p30=>?_
    · refine gx tv8 4 ?_;refine call (Bl_ _ _) rfl rfl fun w28=>?_;have :=T_ (C_ (D_ o c14.key) c14.kind 1) c14.text;refine gmy tv8 9 [] fun _=>?_;refine next ⟨(k+1),(D_ (C_ (D_ o c14.key) c14.kind 1) c14.text)⟩ rfl rfl ⟨rfl,trivial⟩ ⟨rfl,trivial⟩ ?_ ?_
      · simp only[];omega
      have e:(D_ (C_ (D_ o c14.key) c14.kind 1) c14.text)=Fn_ o c14:=by unfold Fn_;first|(rw[if_pos (by omega)];done)|(rw[if_neg (by omega),if_pos (by omega)];done)|(rw[if_neg (by omega),if_neg (by omega),if_pos (by omega)];done)|(rw[if_neg (by omega),if_neg (by omega),if_neg (by omega)];done)
      simp only[]
      rw[e]
      have hlo:=H4_ (o:=o) (hok.2 c14 (List.mem_of_getElem? hc15));refine⟨by omega,?_,by omega⟩
      rw[hk2,C3_ hc15,List.foldl_cons]
    refine gx tv8 6 ?_;refine cn rfl (fun p32=>?_) fun p35=>?_
    · refine gx tv8 5 ?_;refine call (out_Num _ _ _ (by ((try have :=hrl (by assumption));first|omega|(simp[C_,At_,Ad_,numK]<;>omega)))) rfl rfl fun w33=>?_;have :=P_ (C_ (D_ o c14.key) c14.kind 1) (IntKind.wrap .u64 c14.num) 1;refine gmy tv8 9 [] fun _=>?_;refine next ⟨(k+1),(C_ (C_ (D_ o c14.key) c14.kind 1) (IntKind.wrap .u64 c14.num) 1)⟩ rfl rfl ⟨rfl,trivial⟩ ⟨rfl,trivial⟩ ?_ ?_
      · simp only[];omega
      have e:(C_ (C_ (D_ o c14.key) c14.kind 1) (IntKind.wrap .u64 c14.num) 1)=Fn_ o c14:=by unfold Fn_;first|(rw[if_pos (by omega)];done)|(rw[if_neg (by omega),if_pos (by omega)];done)|(rw[if_neg (by omega),if_neg (by omega),if_pos (by omega)];done)|(rw[if_neg (by omega),if_neg (by omega),if_neg (by omega)];done)
      simp only[]
      rw[e]
      have hlo:=H4_ (o:=o) (hok.2 c14 (List.mem_of_getElem? hc15));refine⟨by omega,?_,by omega⟩
      rw[hk2,C3_ hc15,List.foldl_cons]
    refine gy tv8 8 ?_;refine next ⟨(k+1),(C_ (D_ o c14.key) c14.kind 1)⟩ rfl rfl ⟨rfl,trivial⟩ ⟨rfl,trivial⟩ ?_ ?_
    · simp only[];omega
    have e:(C_ (D_ o c14.key) c14.kind 1)=Fn_ o c14:=by unfold Fn_;first|(rw[if_pos (by omega)];done)|(rw[if_neg (by omega),if_pos (by omega)];done)|(rw[if_neg (by omega),if_neg (by omega),if_pos (by omega)];done)|(rw[if_neg (by omega),if_neg (by omega),if_neg (by omega)];done)
    simp only[]
    rw[e]
    have hlo:=H4_ (o:=o) (hok.2 c14 (List.mem_of_getElem? hc15));refine⟨by omega,?_,by omega⟩
    rw[hk2,C3_ hc15,List.foldl_cons]
  refine gx tv8 8 ?_;refine call (Ay_ _) rfl rfl fun w37=>?_;refine gx tv8 5 ?_;refine rt2 rfl rfl ?_;refine ple ?_
  unfold Av_
  rw[if_pos (by assumption)]
  rw[List.drop_of_length_le (by omega),List.foldl_nil] at hk2
  rw[show Qo_ h=o from hk2]
  have e0:Df_ h=0:=by assumption
  rw[e0]
theorem head_one (i:In):Fm Tryz.prog gb 195 [] 261 (In.pc i) (.agg (Pair.pc (((X_ i)).1))) (In.pc (((X_ i)).2)):=by
  refine L6_ tv8 Tryz.func195 rfl Tryz.ntmps195 rfl cb195 rfl rfl rfl rfl fun w wp b N H hG=>?_;refine gm tv8 8 [1] fun B2=>?_;refine ef (ecallm (J1_ _ _) rfl rfl rfl rfl rfl fun w3 w3p=>?_);have :=D9_ i 16;generalize hg5:V_ i 16=g4 at *;refine gx tv8 1 ?_;refine ef (ecallm (I7_ _ _) rfl rfl rfl rfl rfl fun w6 w6p=>?_);have :=Da_ ((g4).2) 1;generalize hg8:S_ ((g4).2) 1=g7 at *;refine q1 (qconv tv8 rfl rfl rfl rfl (rg_u8 (by omega))) rfl fun w9=>?_;refine gm tv8 19 [2] fun B11=>?_;refine cn rfl (fun p13=>?_) fun p18=>?_
  · refine gx tv8 2 ?_;refine ef (ecallm (I7_ _ _) rfl rfl rfl rfl rfl fun w14 w14p=>?_);have :=Da_ ((g7).2) 8;generalize hg16:S_ ((g7).2) 8=g15 at *;refine gm tv8 13 [] fun _=>?_;refine rm1 rfl rfl ?_ rfl rfl rfl ?_;have e:X_ i=((⟨(g4).1,(g7).1,(IntKind.wrap .i64 ((g15).1)),[]⟩:Pair),((g15).2)):=by unfold X_;simp only;(repeat first|simp only[hg5,hg8,hg16]|rw[if_pos (by omega)]|rw[if_neg (by omega)]);all_goals first|rfl|(rw[Dz_ (by omega) (by omega)];done)|(simp[*];done)|(rw[Dz_ (by omega) (by omega)];simp[*];done)
    · exact ple (by first|(rw[e];done)|(rw[e];rfl))
    have e:X_ i=((⟨(g4).1,(g7).1,(IntKind.wrap .i64 ((g15).1)),[]⟩:Pair),((g15).2)):=by unfold X_;simp only;(repeat first|simp only[hg5,hg8,hg16]|rw[if_pos (by omega)]|rw[if_neg (by omega)]);all_goals first|rfl|(rw[Dz_ (by omega) (by omega)];done)|(simp[*];done)|(rw[Dz_ (by omega) (by omega)];simp[*];done)
    exact ples (by first|(rw[e];done)|(rw[e];rfl))
  refine gx tv8 6 ?_;refine cn rfl (fun p20=>?_) fun p25=>?_
  · refine gx tv8 2 ?_;refine ef (ecallm (J1_ _ _) rfl rfl rfl rfl rfl fun w21 w21p=>?_);have :=D9_ ((g7).2) 64;generalize hg23:V_ ((g7).2) 64=g22 at *;refine gm tv8 12 [] fun _=>?_;refine rm1 rfl rfl ?_ rfl rfl rfl ?_;have e:X_ i=((⟨(g4).1,(g7).1,0,(g22).1⟩:Pair),((g22).2)):=by unfold X_;simp only;(repeat first|simp only[hg5,hg8,hg23]|rw[if_pos (by omega)]|rw[if_neg (by omega)]);all_goals first|rfl|(rw[Dz_ (by omega) (by omega)];done)|(simp[*];done)|(rw[Dz_ (by omega) (by omega)];simp[*];done)
    · exact ple (by first|(rw[e];done)|(rw[e];rfl))
    have e:X_ i=((⟨(g4).1,(g7).1,0,(g22).1⟩:Pair),((g22).2)):=by unfold X_;simp only;(repeat first|simp only[hg5,hg8,hg23]|rw[if_pos (by omega)]|rw[if_neg (by omega)]);all_goals first|rfl|(rw[Dz_ (by omega) (by omega)];done)|(simp[*];done)|(rw[Dz_ (by omega) (by omega)];simp[*];done)
    exact ples (by first|(rw[e];done)|(rw[e];rfl))
  refine gx tv8 6 ?_;refine cn rfl (fun p27=>?_) fun p33=>?_
  · refine gx tv8 2 ?_;refine ef (ecallm (I7_ _ _) rfl rfl rfl rfl rfl fun w28 w28p=>?_);have :=Da_ ((g7).2) 1;generalize hg30:S_ ((g7).2) 1=g29 at *;refine q1 (qconv tv8 rfl rfl rfl rfl (Q3_ (by omega))) rfl fun w31=>?_;refine gm tv8 12 [] fun _=>?_;refine rm1 rfl rfl ?_ rfl rfl rfl ?_;have e:X_ i=((⟨(g4).1,(g7).1,(g29).1,[]⟩:Pair),((g29).2)):=by unfold X_;simp only;(repeat first|simp only[hg5,hg8,hg30]|rw[if_pos (by omega)]|rw[if_neg (by omega)]);all_goals first|rfl|(rw[Dz_ (by omega) (by omega)];done)|(simp[*];done)|(rw[Dz_ (by omega) (by omega)];simp[*];done)
    · exact ple (by first|(rw[e];done)|(rw[e];rfl))
    have e:X_ i=((⟨(g4).1,(g7).1,(g29).1,[]⟩:Pair),((g29).2)):=by unfold X_;simp only;(repeat first|simp only[hg5,hg8,hg30]|rw[if_pos (by omega)]|rw[if_neg (by omega)]);all_goals first|rfl|(rw[Dz_ (by omega) (by omega)];done)|(simp[*];done)|(rw[Dz_ (by omega) (by omega)];simp[*];done)
    exact ples (by first|(rw[e];done)|(rw[e];rfl))
  refine gx tv8 2 ?_;refine ef (ecallm (Lw_ _ _) rfl rfl rfl rfl rfl fun w34 w34p=>?_);refine gm tv8 10 [] fun _=>?_;refine rm1 rfl rfl ?_ rfl rfl rfl ?_;have e:X_ i=((⟨(g4).1,(g7).1,0,[]⟩:Pair),(A2_ ((g7).2) 8)):=by unfold X_;simp only;(repeat first|simp only[hg5,hg8]|rw[if_pos (by omega)]|rw[if_neg (by omega)]);all_goals first|rfl|(rw[Dz_ (by omega) (by omega)];done)|(simp[*];done)|(rw[Dz_ (by omega) (by omega)];simp[*];done)
  · exact ple (by first|(rw[e];done)|(rw[e];rfl))
  have e:X_ i=((⟨(g4).1,(g7).1,0,[]⟩:Pair),(A2_ ((g7).2) 8)):=by unfold X_;simp only;(repeat first|simp only[hg5,hg8]|rw[if_pos (by omega)]|rw[if_neg (by omega)]);all_goals first|rfl|(rw[Dz_ (by omega) (by omega)];done)|(simp[*];done)|(rw[Dz_ (by omega) (by omega)];simp[*];done)
  exact ples (by first|(rw[e];done)|(rw[e];rfl))
theorem head_Read (i:In):Fm Tryz.prog gb 157 [] 261 (In.pc i) (.sl Pair.pc (((A0_ i)).1)) (In.pc (((A0_ i)).2)):=by
  refine L6_ tv8 Tryz.func157 rfl Tryz.ntmps157 rfl cb157 rfl rfl rfl rfl fun w wp b N H hG=>?_;refine gx tv8 8 ?_;refine ef (ecallm (I7_ _ _) rfl rfl rfl rfl rfl fun w1 w1p=>?_);have :=Da_ i 1;generalize hg3:S_ i 1=g2 at *;refine q1 (qconv tv8 rfl rfl rfl rfl (Q3_ (by omega))) rfl fun w4=>?_;refine gx tv8 10 ?_;refine cn rfl (fun p6=>?_) fun p34=>?_
  · refine gx tv8 2 ?_;refine ef (ecallm (Lw_ _ _) rfl rfl rfl rfl rfl fun w7 w7p=>?_);refine gx tv8 15 ?_;refine sw_own (t:=4) (k:=4) (e:=199) 1 Pair.pc rfl rfl ?_;refine loop (ι:=Nat×(List Pair)×Value×In) [0,3,6,7,8,9,10,11,13] [] (fun ⟨k,h,u_h,j⟩=>[(4, .osl 1),(14, .int .i64 (k:Int))]) (fun ⟨k,h,u_h,j⟩=>[(1, .arr u_h 4 199 Pair.pc h),(0, .box b 261 [.str j.s, .int .i64 j.err])]) (fun ⟨k,h,u_h,j⟩=>k<=((g2).1).toNat/\A0_ i=Fk_ (((g2).1).toNat-k) j h/\h.length<=k) (fun ⟨k,h,u_h,j⟩=>((g2).1).toNat-k) ⟨0,[],(.slice none 0 0),(A2_ ((g2).2) 6)⟩ ⟨rfl,rfl,trivial⟩ ⟨rfl,rfl,trivial⟩ ?_ ?_
    · exact⟨Nat.zero_le _,by unfold A0_;(repeat first|simp only[hg3]|rw[if_pos (by omega)]|rw[if_neg (by omega)]);all_goals rfl,Nat.zero_le _⟩
    rintro⟨k,h,u_h,j⟩ hp8;obtain⟨hk1,hk2,hk3⟩:=hp8;refine gx tv8 6 ?_;refine cn rfl (fun p10=>?_) fun p33=>?_
    · refine gx tv8 7 ?_;refine ef (ecallm (head_one _) rfl rfl rfl rfl rfl fun w11 w11p=>?_);generalize hg13:X_ j=g12 at *;refine gm tv8 8 [2] fun B15=>?_;refine ef (ecallm (M0_ _) rfl rfl rfl rfl rfl fun w16 w16p=>?_);refine gx tv8 3 ?_;refine cnd rfl (fun h17=>?_) (fun h17=>?_)
      · have p18:=dt h17;refine gx tv8 4 ?_;refine ef (calll 1 rfl (Rg_ _ _) rfl rfl rfl fun w19=>?_);have :=E1_ ((g12).1) h;generalize hg21:Aj_ ((g12).1) h=g20 at *;refine ef (ecallm (Lw_ _ _) rfl rfl rfl rfl rfl fun w22 w22p=>?_);refine gx tv8 6 ?_;refine ef (ecallm (M0_ _) rfl rfl rfl rfl rfl fun w23 w23p=>?_);refine gx tv8 3 ?_;refine cnd rfl (fun h24=>?_) (fun h24=>?_)
        · have h25:=Br_ h24;have p26:=df h25;refine gx tv8 12 ?_;refine rm1 rfl rfl ?_ rfl rfl rfl ?_
          · have e:A0_ i=([],(A2_ ((g12).2) g20)):=by
              rw[hk2,show ((g2).1).toNat-k=(((g2).1).toNat-(k+1))+1 by omega]
              have z:=fun k=>K6_ (k:=k) (h:=h) (show X_ j=(g12.1,g12.2) from hg13) (by omega) (by rw[hg21];omega)
              rw[hg21] at z
              exact z _
            exact Hu_ (by rw[e])
          have e:A0_ i=([],(A2_ ((g12).2) g20)):=by
            rw[hk2,show ((g2).1).toNat-k=(((g2).1).toNat-(k+1))+1 by omega]
            have z:=fun k=>K6_ (k:=k) (h:=h) (show X_ j=(g12.1,g12.2) from hg13) (by omega) (by rw[hg21];omega)
            rw[hg21] at z
            exact z _
          exact ples (by first|(rw[e];done)|(rw[e];rfl))
        have h27:=Bf_ h24;have p28:=dt h27;refine gx tv8 5 ?_;refine ef (bsl 3 Pair.pc [((g12).1)] tv8 rfl rfl rfl rfl rfl (fun _=>rfl) rfl (by decide) (by decide) rfl fun u29=>?_);refine ef (app tv8 [((g12).1)] rfl rfl rfl rfl rfl rfl rfl rfl rfl (src_o rfl rfl) (by first|omega|(simp;omega)) rfl fun u30=>?_);refine gy tv8 8 ?_;refine next ⟨(k+1),(h++[((g12).1)]),(u30),(A2_ ((g12).2) g20)⟩ rfl rfl ⟨rfl,rfl,trivial⟩ ⟨rfl,rfl,trivial⟩ ?_ ?_
        · simp only[];omega
        refine⟨by omega,?_,by simp;omega⟩
        rw[hk2,show ((g2).1).toNat-k=(((g2).1).toNat-(k+1))+1 by omega]
        have z:=fun k=>X5_ (k:=k) (h:=h) (show X_ j=(g12.1,g12.2) from hg13) (by omega) (by rw[hg21];omega)
        rw[hg21] at z
        exact z _
      have p31:=df h17;refine gx tv8 6 ?_;refine ef (ecallm (M0_ _) rfl rfl rfl rfl rfl fun w32 w32p=>?_);refine gx tv8 3 ?_;refine cndT rfl (by rw[h17]<;>rfl) ?_;refine gx tv8 12 ?_;refine rm1 rfl rfl ?_ rfl rfl rfl ?_
      · have e:A0_ i=([],((g12).2)):=by
          rw[hk2,show ((g2).1).toNat-k=(((g2).1).toNat-(k+1))+1 by omega]
          exact K7_ (show X_ j=(g12.1,g12.2) from hg13) (by omega)
        exact Hu_ (by rw[e])
      have e:A0_ i=([],((g12).2)):=by
        rw[hk2,show ((g2).1).toNat-k=(((g2).1).toNat-(k+1))+1 by omega]
        exact K7_ (show X_ j=(g12.1,g12.2) from hg13) (by omega)
      exact ples (by first|(rw[e];done)|(rw[e];rfl))
    refine gx tv8 11 ?_;refine givec 1 rfl ?_;refine gx tv8 1 ?_;refine rm1 rfl rfl ?_ rfl rfl rfl ?_
    · have e:A0_ i=(h,j):=by
        rw[hk2,show ((g2).1).toNat-k=0 by omega]
        rfl
      exact ple (by rw[e])
    have e:A0_ i=(h,j):=by
      rw[hk2,show ((g2).1).toNat-k=0 by omega]
      rfl
    exact ples (by first|(rw[e];done)|(rw[e];rfl))
  refine gx tv8 15 ?_;refine sw_own (t:=4) (k:=4) (e:=199) 1 Pair.pc rfl rfl ?_;refine loop (ι:=Nat×(List Pair)×Value×In) [0,3,6,7,8,9,10,13] [] (fun ⟨k,h,u_h,j⟩=>[(4, .osl 1),(14, .int .i64 (k:Int))]) (fun ⟨k,h,u_h,j⟩=>[(1, .arr u_h 4 199 Pair.pc h),(0, .box b 261 [.str j.s, .int .i64 j.err])]) (fun ⟨k,h,u_h,j⟩=>k<=((g2).1).toNat/\A0_ i=Fk_ (((g2).1).toNat-k) j h/\h.length<=k) (fun ⟨k,h,u_h,j⟩=>((g2).1).toNat-k) ⟨0,[],(.slice none 0 0),((g2).2)⟩ ⟨rfl,rfl,trivial⟩ ⟨rfl,rfl,trivial⟩ ?_ ?_
  · exact⟨Nat.zero_le _,by unfold A0_;(repeat first|simp only[hg3]|rw[if_pos (by omega)]|rw[if_neg (by omega)]);all_goals rfl,Nat.zero_le _⟩
  rintro⟨k,h,u_h,j⟩ hp35;obtain⟨hk1,hk2,hk3⟩:=hp35;refine gx tv8 6 ?_;refine cn rfl (fun p37=>?_) fun p60=>?_
  · refine gx tv8 7 ?_;refine ef (ecallm (head_one _) rfl rfl rfl rfl rfl fun w38 w38p=>?_);generalize hg40:X_ j=g39 at *;refine gm tv8 8 [2] fun B42=>?_;refine ef (ecallm (M0_ _) rfl rfl rfl rfl rfl fun w43 w43p=>?_);refine gx tv8 3 ?_;refine cnd rfl (fun h44=>?_) (fun h44=>?_)
    · have p45:=dt h44;refine gx tv8 4 ?_;refine ef (calll 1 rfl (Rg_ _ _) rfl rfl rfl fun w46=>?_);have :=E1_ ((g39).1) h;generalize hg48:Aj_ ((g39).1) h=g47 at *;refine ef (ecallm (Lw_ _ _) rfl rfl rfl rfl rfl fun w49 w49p=>?_);refine gx tv8 6 ?_;refine ef (ecallm (M0_ _) rfl rfl rfl rfl rfl fun w50 w50p=>?_);refine gx tv8 3 ?_;refine cnd rfl (fun h51=>?_) (fun h51=>?_)
      · have h52:=Br_ h51;have p53:=df h52;refine gx tv8 12 ?_;refine rm1 rfl rfl ?_ rfl rfl rfl ?_
        · have e:A0_ i=([],(A2_ ((g39).2) g47)):=by
            rw[hk2,show ((g2).1).toNat-k=(((g2).1).toNat-(k+1))+1 by omega]
            have z:=fun k=>K6_ (k:=k) (h:=h) (show X_ j=(g39.1,g39.2) from hg40) (by omega) (by rw[hg48];omega)
            rw[hg48] at z
            exact z _
          exact Hu_ (by rw[e])
        have e:A0_ i=([],(A2_ ((g39).2) g47)):=by
          rw[hk2,show ((g2).1).toNat-k=(((g2).1).toNat-(k+1))+1 by omega]
          have z:=fun k=>K6_ (k:=k) (h:=h) (show X_ j=(g39.1,g39.2) from hg40) (by omega) (by rw[hg48];omega)
          rw[hg48] at z
          exact z _
        exact ples (by first|(rw[e];done)|(rw[e];rfl))
      have h54:=Bf_ h51;have p55:=dt h54;refine gx tv8 5 ?_;refine ef (bsl 3 Pair.pc [((g39).1)] tv8 rfl rfl rfl rfl rfl (fun _=>rfl) rfl (by decide) (by decide) rfl fun u56=>?_);refine ef (app tv8 [((g39).1)] rfl rfl rfl rfl rfl rfl rfl rfl rfl (src_o rfl rfl) (by first|omega|(simp;omega)) rfl fun u57=>?_);refine gy tv8 8 ?_;refine next ⟨(k+1),(h++[((g39).1)]),(u57),(A2_ ((g39).2) g47)⟩ rfl rfl ⟨rfl,rfl,trivial⟩ ⟨rfl,rfl,trivial⟩ ?_ ?_
      · simp only[];omega
      refine⟨by omega,?_,by simp;omega⟩
      rw[hk2,show ((g2).1).toNat-k=(((g2).1).toNat-(k+1))+1 by omega]
      have z:=fun k=>X5_ (k:=k) (h:=h) (show X_ j=(g39.1,g39.2) from hg40) (by omega) (by rw[hg48];omega)
      rw[hg48] at z
      exact z _
    have p58:=df h44;refine gx tv8 6 ?_;refine ef (ecallm (M0_ _) rfl rfl rfl rfl rfl fun w59 w59p=>?_);refine gx tv8 3 ?_;refine cndT rfl (by rw[h44]<;>rfl) ?_;refine gx tv8 12 ?_;refine rm1 rfl rfl ?_ rfl rfl rfl ?_
    · have e:A0_ i=([],((g39).2)):=by
        rw[hk2,show ((g2).1).toNat-k=(((g2).1).toNat-(k+1))+1 by omega]
        exact K7_ (show X_ j=(g39.1,g39.2) from hg40) (by omega)
      exact Hu_ (by rw[e])
    have e:A0_ i=([],((g39).2)):=by
      rw[hk2,show ((g2).1).toNat-k=(((g2).1).toNat-(k+1))+1 by omega]
      exact K7_ (show X_ j=(g39.1,g39.2) from hg40) (by omega)
    exact ples (by first|(rw[e];done)|(rw[e];rfl))
  refine gx tv8 11 ?_;refine givec 1 rfl ?_;refine gx tv8 1 ?_;refine rm1 rfl rfl ?_ rfl rfl rfl ?_
  · have e:A0_ i=(h,j):=by
      rw[hk2,show ((g2).1).toNat-k=0 by omega]
      rfl
    exact ple (by rw[e])
  have e:A0_ i=(h,j):=by
    rw[hk2,show ((g2).1).toNat-k=0 by omega]
    rfl
  exact ples (by first|(rw[e];done)|(rw[e];rfl))
theorem sz258:Sz Tryz.prog 258 1:=fun w=>by kernel_rfl
abbrev Tl_:TI:=⟨.agg [(0,1),(1,1),(2,1)],3,24,[.int .u8 0, .int .u8 0, .str []]⟩
abbrev ty258:TI:=⟨.int .u32,1,4,[.int .u32 0]⟩
def tbv10:Tb:=[(5,ty5),(9,ty9),(27,ty27),(158,Tl_),(200,Um_),(258,ty258),(285,We_)]
theorem tv10:tbB Tryz.prog tbv10=true:=by kernel_rfl
theorem crc_Step (r:Int) (b:Int):Fn Tryz.prog gb 194 [.int .u32 r, .int .u8 b] (.int .u32 (Gl_ r b)):=by
  refine fC Tryz.func194 tv10 Tryz.ntmps194 fun w N H hG=>?_;have :=Lj_ ((BitVec.ofInt (IntKind.bits .u32) r ^^^ BitVec.ofInt (IntKind.bits .u32) b).toNat);refine gx tv10 21 ?_;refine loop (ι:=Nat×Int) [1,4,5,6,7,8] [] (fun ⟨k,q⟩=>[(0, .int .u32 q),(9, .int .i64 (k:Int))]) (fun ⟨k,q⟩=>[]) (fun ⟨k,q⟩=>k<=2/\crcIt (2-k) q=Gl_ r b) (fun ⟨k,q⟩=>2-k) ⟨0,(N7_ r b)⟩ ⟨rfl,rfl,trivial⟩ trivial ?_ ?_
  · exact⟨Nat.zero_le _,rfl⟩
  rintro⟨k,q⟩ hp1;obtain⟨hk1,hk2⟩:=hp1;refine gx tv10 6 ?_;refine cn rfl (fun p3=>?_) fun p5=>?_
  · have :=Lj_ ((BitVec.ofInt (IntKind.bits .u32) q &&& BitVec.ofInt (IntKind.bits .u32) 15).toNat);refine gy tv10 9 ?_;refine q1 (qgtab (m:=((IntKind.wrap .u32 ((BitVec.ofInt (IntKind.bits .u32) q &&& BitVec.ofInt (IntKind.bits .u32) 15).toNat))).toNat) laidT (by decide) (fun _ h=>gbCrc h) rfl Tryz.underlying324 sz258 (by omega) (and15_lt _) rfl) rfl fun w4=>?_;have :=Lj_ ((BitVec.ofInt (IntKind.bits .u32) (Int.fdiv q (2 ^ (min (4:Int).toNat (IntKind.bits .u32)))) ^^^ BitVec.ofInt (IntKind.bits .u32) (laidT.getD ((IntKind.wrap .u32 ((BitVec.ofInt (IntKind.bits .u32) q &&& BitVec.ofInt (IntKind.bits .u32) 15).toNat))).toNat 0)).toNat);refine gy tv10 10 ?_;refine next ⟨(k+1),(crc1 q)⟩ rfl rfl ⟨rfl,rfl,trivial⟩ trivial ?_ ?_
    · (try simp only[]);omega
    try simp only[]
    refine⟨by omega,?_⟩
    rw[<- hk2,show 2-k=(2-(k+1))+1 by omega]
    rfl
  refine gx tv10 12 ?_;refine rt1 rfl rfl (ple ?_);obtain rfl :k=2:=by omega
  exact congrArg (PV.int .u32) hk2
theorem Uc_ (parts:List Bs):Fn Tryz.prog gb 156 [.sl strc parts] (.int .u32 (H2_ parts)):=by
  refine fC Tryz.func156 tv10 Tryz.ntmps156 fun w N H hG=>?_;have parts_l:parts.length<=140737488355328:=w.1.1;refine gx tv10 19 ?_;refine loop (ι:=Nat×Int) [0,2,7,8] [] (fun ⟨k,r⟩=>[(3, .int .u32 r),(9, .int .i64 (k:Int))]) (fun ⟨k,r⟩=>[]) (fun ⟨k,r⟩=>k<=parts.length/\parts.foldl crcB 4294967295=(parts.drop k).foldl crcB r/\0<=r/\r<=4294967295) (fun ⟨k,r⟩=>parts.length-k) ⟨0,4294967295⟩ ⟨rfl,rfl,trivial⟩ trivial ?_ ?_
  · exact⟨Nat.zero_le _,rfl,by omega,by omega⟩
  rintro⟨k,r⟩ hp1;obtain⟨hk1,hk2,hk3,hk4⟩:=hp1;refine gx tv10 6 ?_;refine cn rfl (fun p3=>?_) fun p13=>?_
  · obtain⟨c4,hc5⟩:=getE (xs:=parts) (m:=k) (by omega);have c4_l:c4.length<=9223372036854775807:=(w.1.2 c4 (List.mem_of_getElem? hc5)).1;refine gx tv10 6 ?_;refine q1 (qidx tv10 k rfl rfl rfl hc5 rfl rfl rfl rfl) rfl fun w6=>?_;refine gx tv10 12 ?_;refine loop (ι:=Nat×Int) [0,2,5,7,8,9,10,11,12,13,14] [] (fun ⟨j,q⟩=>[(3, .int .u32 q),(15, .int .i64 (j:Int))]) (fun ⟨j,q⟩=>[]) (fun ⟨j,q⟩=>j<=c4.length/\c4.foldl (fun q c=>Gl_ q c.toNat) r=(c4.drop j).foldl (fun q c=>Gl_ q c.toNat) q/\0<=q/\q<=4294967295) (fun ⟨j,q⟩=>c4.length-j) ⟨0,r⟩ ⟨rfl,rfl,trivial⟩ trivial ?_ ?_
    · exact⟨Nat.zero_le _,rfl,by omega,by omega⟩
    rintro⟨j,q⟩ hp7;obtain⟨hj1,hj2,hj3,hj4⟩:=hp7;refine gx tv10 6 ?_;refine cn rfl (fun p9=>?_) fun p12=>?_
    · have :=u8r (c4.getD j 0);refine gx tv10 14 ?_;refine q1 (sidx tv10 j rfl rfl rfl rfl rfl (by omega)) rfl fun w10=>?_;refine call (crc_Step _ _) rfl rfl fun w11=>?_;have :=Wt_ q ((c4.getD j 0).toNat:Int);refine gy tv10 8 ?_;refine next ⟨(j+1),(Gl_ q (c4.getD j 0).toNat)⟩ rfl rfl ⟨rfl,rfl,trivial⟩ trivial ?_ ?_
      · (try simp only[]);omega
      refine⟨by omega,?_,by omega,by omega⟩
      rw[hj2,Fh_ (k:=j) (by omega),List.foldl_cons]
    refine gy tv10 10 ?_;refine next ⟨(k+1),q⟩ rfl rfl ⟨rfl,rfl,trivial⟩ trivial ?_ ?_
    · (try simp only[]);omega
    refine⟨by omega,?_,by omega,by omega⟩
    rw[hk2,C3_ hc5,List.foldl_cons]
    rw[List.drop_of_length_le (by omega),List.foldl_nil] at hj2
    rw[show crcB r c4=q from hj2]
  refine gx tv10 13 ?_;refine rt1 rfl rfl (ple ?_)
  rw[List.drop_of_length_le (by omega),List.foldl_nil] at hk2
  unfold H2_
  rw[hk2]
theorem Rb_ (f:Frame):Fn Tryz.prog gb 144 [.agg (Frame.pc f)] (.tup [.str (Am_ f), .int .i64 (Ow_ f)]):=by
  refine fC Tryz.func144 tv10 Tryz.ntmps144 fun w N H hG=>?_;refine gm tv10 16 [0] fun B2=>?_;refine cn rfl (fun p4=>?_) fun p5=>?_
  · refine gx tv10 8 ?_;refine rt2 rfl rfl ?_;refine ple ?_
    simp[Am_,Ow_,O0_, *]
  refine gx tv10 3 ?_;refine aN [1,2,3,4,5,6] 14 mixd ?_;refine gX tv10 [0,1,2,3] 10 ?_;refine vC 4 rfl (out_Num (⟨[],0⟩:Out) _ _ (by ((try have :=hrl (by assumption));first|omega|(simp[C_,At_,Ad_,numK]<;>omega)))) rfl fun w6=>?_;have nl0:(⟨[],0⟩:Out).s.length=0:=rfl;have :=P_ (⟨[],0⟩:Out) f.channel 1;refine gX tv10 [5,6,7] 6 ?_;refine vC 8 rfl (out_Num _ _ _ (by ((try have :=hrl (by assumption));first|omega|(simp[C_,At_,Ad_,numK]<;>omega)))) rfl fun w7=>?_;have :=P_ (C_ (⟨[],0⟩:Out) f.channel 1) f.kind 1;refine gX tv10 [9,10] 3 ?_;refine vC 11 rfl (Bl_ _ _) rfl fun w8=>?_;have :=T_ (C_ (C_ (⟨[],0⟩:Out) f.channel 1) f.kind 1) f.body;refine vE 12 rfl (aL tv10 1 fun b9=>?_);refine vT 13 rfl (sA tv10 ?_);refine vD ?_;refine gx tv10 2 ?_;refine aN [2,3,4,5,6,7] 11 mixd ?_;refine gX tv10 [0,1] 9 ?_;refine vC 2 rfl (Ay_ _) rfl fun w10=>?_;refine vE 3 rfl (bsl 2 strc [(D_ (C_ (C_ (⟨[],0⟩:Out) f.channel 1) f.kind 1) f.body).s] tv10 rfl rfl rfl rfl rfl (fun _=>rfl) rfl (by decide) (by decide) rfl fun u11=>?_);refine vE 4 rfl (calll 2 rfl (Uc_ _) rfl rfl rfl fun w12=>?_);have :=Lb_ [(D_ (C_ (C_ (⟨[],0⟩:Out) f.channel 1) f.kind 1) f.body).s];refine gX tv10 [5] 5 ?_;refine vC 6 rfl (out_Num _ _ _ (by ((try have :=hrl (by assumption));first|omega|(simp[C_,At_,Ad_,numK]<;>omega)))) rfl fun w13=>?_;have :=P_ (D_ (C_ (C_ (⟨[],0⟩:Out) f.channel 1) f.kind 1) f.body) (H2_ [(D_ (C_ (C_ (⟨[],0⟩:Out) f.channel 1) f.kind 1) f.body).s]) 4;refine vC 7 rfl (out_Num _ _ _ (by ((try have :=hrl (by assumption));first|omega|(simp[C_,At_,Ad_,numK]<;>omega)))) rfl fun w14=>?_;have :=P_ (C_ (D_ (C_ (C_ (⟨[],0⟩:Out) f.channel 1) f.kind 1) f.body) (H2_ [(D_ (C_ (C_ (⟨[],0⟩:Out) f.channel 1) f.kind 1) f.body).s]) 4) 206 1;refine vC 8 rfl (Ay_ _) rfl fun w15=>?_;refine gX tv10 [9,10] 0 ?_;refine vD ?_;refine gx tv10 2 ?_;refine rt2 rfl rfl ?_;refine ple ?_
  simp[Am_,Ow_,O0_, *]
theorem Zf_ (s:Bs) (hs:s.length<=4611686018427387904:=by first|omega|(simp<;>omega)):Fn Tryz.prog gb 116 [.str s] (.tup [.agg (Frame.pc ((Di_ s).1)), .int .i64 ((Di_ s).2.1), .int .i64 ((Di_ s).2.2)]):=by
  refine fC Tryz.func116 tv10 Tryz.ntmps116 fun w N H hG=>?_;refine gm tv10 10 [0] fun B2=>?_;refine ef (ecallb 1 (Q9_ _) rfl rfl fun w3 b4=>?_);refine gx tv10 6 ?_;refine ef (ecallm (I7_ (⟨s,0⟩) _) rfl rfl rfl rfl rfl fun w5 w5p=>?_);have :=Da_ (⟨s,0⟩) 1;refine q1 (qconv tv10 rfl rfl rfl rfl (rg_u8 (by omega))) rfl fun w6=>?_;refine gx tv10 1 ?_;refine ef (ecallm (I7_ _ _) rfl rfl rfl rfl rfl fun w7 w7p=>?_);have :=Da_ (((S_ (⟨s,0⟩) 1)).2) 1;refine q1 (qconv tv10 rfl rfl rfl rfl (rg_u8 (by omega))) rfl fun w8=>?_;refine gm tv10 8 [2] fun B10=>?_;refine ef (ecallm (J1_ _ _) rfl rfl rfl rfl rfl fun w11 w11p=>?_);have :=D9_ (((S_ (((S_ (⟨s,0⟩) 1)).2) 1)).2) 2048;refine gm tv10 7 [] fun _=>?_;refine ef (ecallm (I7_ _ _) rfl rfl rfl rfl rfl fun w13 w13p=>?_);have :=Da_ (((V_ (((S_ (((S_ (⟨s,0⟩) 1)).2) 1)).2) 2048)).2) 4;refine gx tv10 1 ?_;refine ef (ecallm (I7_ _ _) rfl rfl rfl rfl rfl fun w14 w14p=>?_);have :=Da_ (((S_ (((V_ (((S_ (((S_ (⟨s,0⟩) 1)).2) 1)).2) 2048)).2) 4)).2) 1;refine gx tv10 8 ?_;refine ef (ecallm (M0_ _) rfl rfl rfl rfl rfl fun w15 w15p=>?_);refine gx tv10 9 ?_;refine cnd rfl (fun h16=>?_) (fun h16=>?_)
  · have h17:=Br_ h16;have p18:=df h17;refine gm tv10 11 [] fun _=>?_;refine rt3 rfl rfl ?_;refine ple ?_
    first|(simp[Di_,Frame.pc,Frame.zero, *];done)|(simp[Di_,Frame.pc,Frame.zero, *];omega)
  have h20:=Bf_ h16;have p21:=dt h20;refine gy tv10 20 ?_;refine cnd rfl (fun h22=>?_) (fun h22=>?_)
  · have h23:=Br_ h22;have p24:=df h23;refine gm tv10 11 [] fun _=>?_;refine rt3 rfl rfl ?_;refine ple ?_
    first|(simp[Di_,Frame.pc,Frame.zero, *];done)|(simp[Di_,Frame.pc,Frame.zero, *];omega)
  have h26:=Bf_ h22;have p27:=dt h26;refine gx tv10 4 ?_;refine q1 (sshi tv10 (4+((((V_ (((S_ (((S_ (⟨s,0⟩) 1)).2) 1)).2) 2048)).1).length)) rfl rfl rfl rfl (by omega) (by first|omega|(have :=Ve_ (s:=s) (by assumption);omega))) rfl fun w28=>?_;refine ef (bsl 3 strc [(s.take (4+((((V_ (((S_ (((S_ (⟨s,0⟩) 1)).2) 1)).2) 2048)).1).length)))] tv10 rfl rfl rfl rfl rfl (fun _=>rfl) rfl (by decide) (by decide) rfl fun u29=>?_);refine ef (calll 3 rfl (Uc_ _) rfl rfl rfl fun w30=>?_);have :=Lb_ [(s.take (4+((((V_ (((S_ (((S_ (⟨s,0⟩) 1)).2) 1)).2) 2048)).1).length)))];refine gx tv10 6 ?_;refine cnd rfl (fun h31=>?_) (fun h31=>?_)
  · have h32:=Br_ h31;have p33:=df h32;refine gm tv10 11 [] fun _=>?_;refine rt3 rfl rfl ?_;refine ple ?_
    first|(simp[Di_,Frame.pc,Frame.zero, *];done)|(simp[Di_,Frame.pc,Frame.zero, *];omega)
  have h35:=Bf_ h31;have p36:=dt h35;refine gmy tv10 14 [] fun _=>?_;refine rt3 rfl rfl ?_;refine ple ?_
  first|(simp[Di_,Frame.pc,Frame.zero, *];done)|(simp[Di_,Frame.pc,Frame.zero, *];omega)
end Go.SW.V
