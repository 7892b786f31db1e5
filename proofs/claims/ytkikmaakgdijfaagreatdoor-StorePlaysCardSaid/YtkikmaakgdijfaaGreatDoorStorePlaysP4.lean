/-
  A part of the proof of StorePlays: Deeds that may be gone through; policies that may be; the chapters' examples: what the walks ask. Plain; each
-/
import Derived.Test.YtkikmaakgdijfaaGreatDoorStorePlaysP3
import Derived.Test.YtkikmaakgdijfaaGreatDoorStorePlaysP2
set_option linter.unusedVariables false
set_option linter.unusedSimpArgs false
set_option maxRecDepth 100000
set_option maxHeartbeats 4000000
namespace Go.SW.V
open Go.SW
theorem riOk_nil:RiOk ⟨0,[]⟩:=⟨Nat.zero_le _,λ_ h=>by cases h⟩
theorem plen05:plen [119,111,114,107,32,52,10,103,105,118,101,32,49,10,108,97,98,101,108,32,108,111,119,32,48,32,53,49,50,32,49,10,115,108,111,116,32,108,111,119]=true:=by decide +kernel
theorem rput_ne {x:Aj_} {m:Mail} (h:x.total=0\/0<x.kept.length):(Bg_ x m).1.total=0\/0<(Bg_ x m).1.kept.length:=by
 unfold Bg_ lt;let Q:Aj_×Int->Prop:=λr=>r.1.total=0\/0<r.1.kept.length;refine bt (P:=Q) (λ_=>h) λ_=>?_;refine bt (P:=Q) (λ_=>h) λ_=> .inr ?_;simp only[List.flatten_cons,List.flatten_nil,List.append_nil,List.length_drop,List.length_append,List.length_cons,List.length_nil];omega
theorem knew_ok (b n:Int) (h:n<=1000000):StkOk (E3_ b n):=by
 refine⟨⟨by simp[E3_],by simp[E3_],by simp[E3_]⟩,λi hi=>?_,?_,?_⟩;have :(E3_ b n).rises.get i=⟨0,[]⟩:=by
   unfold E3_ A16.get
   repeat' split
   all_goals rfl
 rw[this];exact riOk_nil;show 0<=max 0 n;omega;show max 0 n<=1000000;omega
def poB (p:G_):Bool:=decide (0<p.places.length) && decide (p.places.length<=16) && decide (0<p.slots.length) && decide (p.slots.length<=32) && decide (p.grants.length<=8)&&(p.grants.all λg=>decide (0<=g.frm) && decide (g.frm<p.places.length) && decide (0<=g.to') && decide (g.to'<p.places.length) && decide (0<=g.budget) && decide (g.budget<=16))&&p.places.all λx=>decide (0<=x.bytes) && decide (x.bytes<=65536)
theorem Wh_ {p:G_} (h:poB p=true):PoOk p:=by
 simp only[poB,List.all_eq_true,Bool.and_eq_true,decide_eq_true_eq] at h;obtain⟨⟨⟨⟨⟨⟨h1,h2⟩,h3⟩,h4⟩,h5⟩,h6⟩,h7⟩:=h;exact⟨h1,h2,h3,h4,h5,λg hg=>by have :=h6 g hg;omega,h7⟩
def ddB (l:List Aa_):Bool:=l.all λd=>decide (d.bind.key.length<=1000) && decide (d.bind.want.length<=1000) && decide (d.O_.head.length<=1000) && decide (d.O_.key.length<=1000) && decide (0<=d.O_.hops)
theorem ddB_ok {l:List Aa_} (h:ddB l=true):∀ d∈l,DdOk d/\0<=d.O_.hops:=λd hd=>by
 simp only[ddB,List.all_eq_true,Bool.and_eq_true,decide_eq_true_eq] at h
 have :=h d hd
 exact⟨⟨this.1.1.1.1,this.1.1.1.2,this.1.1.2,this.1.2⟩,this.2⟩
theorem dd1 {d:Aa_} (h:ddB [d]=true):DdOk d:=(ddB_ok h d List.mem_cons_self).1
theorem s23_mem0 (l0:List Aa_):∀ {l:List Aa_} {d:Aa_},Ew_ l0 l=true->d∈l->Rx_ d=true
 |[],d,_,hd=>by simp at hd
 |x::l,d,h,hd=>by
   simp only[Ew_] at h
   cases e:Rx_ x with
   |false=>rw[e] at h;cases h
   |true=>
     rw[e] at h
     rcases List.mem_cons.1 hd with rfl|q
     . exact e
     . exact s23_mem0 l0 h q
theorem s23_len0 (l0:List Aa_):∀ {l:List Aa_},Ew_ l0 l=true->l0.length<=40
 |[],h=>by simp[Ew_] at h;omega
 |x::l,h=>by
   simp only[Ew_] at h
   cases e:Rx_ x with
   |false=>rw[e] at h;cases h
   |true=>rw[e] at h;exact s23_len0 l0 h
def DdA (l:List Aa_):Prop:=(∀ d∈l,DdOk d)/\l.length<=40
theorem l23_dd {l:List Aa_} (h:L3_ l=true):DdA l:=⟨λd hd=>by
 have e:=s23_mem0 _ h hd
 have h1:=X0_ d e
 simp only[Rx_,Bool.and_eq_true,decide_eq_true_eq] at e
 have h2:=Vy_ _ h1.2.2.2
 refine⟨by omega,by omega,by omega,by omega⟩,s23_len0 _ h⟩
theorem dd_mem {l:List Aa_} {k:Nat} {d:Aa_} (h:DdA l) (hd:l[k]? = some d):DdOk d:=h.1 d (List.mem_of_getElem? hd)
theorem at_r (p:G_) (n:Int) (h:0<p.places.length):0<=Xz_ p n/\Xz_ p n<p.places.length:=
 ⟨Int.emod_nonneg _ pB,Int.emod_lt_of_pos _ pB⟩
theorem to_eq1:∀ (l:List B1_) (w g:Int) (p:List Bl_) (s:List Int) (o:List B1_),Iu_ l w g p s o=⟨w,g,p,s,o++l⟩
 |[],w,g,p,s,o=>by simp[Iu_]
 |x::l,w,g,p,s,o=>by simp[Iu_,to_eq1 l]
theorem to_eq0 (q:G_):∀ (l:List Bl_) (w g:Int) (p:List Bl_) (s:List Int) (o:List B1_),It_ q l w g p s o=⟨w,g,p++l,s++q.slots,o++q.grants⟩
 |[],w,g,p,s,o=>by simp[It_,to_eq1]
 |x::l,w,g,p,s,o=>by simp[It_,to_eq0 q l]
theorem to_eq (p:G_):Fh_ p=p:=by simp[Fh_,to_eq0]
theorem to_sl (p:G_):(Fh_ p).slots.length=p.slots.length:=by rw[to_eq]
theorem chk1 (y:Bl_):∀ l:List Bl_,LoP (λ_=>True) (λr:Int=>r≠0) (Gq_ y l)
 |[]=>trivial
 |x::l=>by
   unfold Gq_
   exact bt (P:=LoP _ _) (λ_=>by show (9:Int)≠0;decide) λ_=>chk1 y l
theorem chk4 (y:B1_):∀ l:List B1_,LoP (λ_=>True) (λr:Int=>r≠0) (Gr_ y l)
 |[]=>trivial
 |x::l=>by
   unfold Gr_
   exact bt (P:=LoP _ _) (λ_=>by show (9:Int)≠0;decide) λ_=>chk4 y l
theorem lp0Z {σ:Type} {I:Prop} {o:Lo Unit Int} {f:Int} (h:lp0 o f (λr=>r)=0) (ho:LoP (λ_=>I) (λr:Int=>r≠0) o):I/\f=0:=by
 cases o with
 |fin u=>exact⟨ho,h⟩
 |ret r=>exact absurd h ho
theorem LoP.imp {σ ρ:Type} {I J:σ->Prop} {R:ρ->Prop} {o:Lo σ ρ} (h:LoP I R o) (k:∀ s,I s->J s):LoP J R o:=by
 cases o with
 |fin s=>exact k s h
 |ret r=>exact h
theorem chk3 (p:G_):∀ (l:List B1_) (k:Nat),Fy_ p l k=0->∀ g∈l,0<=g.frm/\g.frm<p.places.length/\0<=g.to'/\g.to'<p.places.length/\0<=g.budget/\g.budget<=16
 |[],_,_,_,h=>by cases h
 |x::l,k,h,g,hg=>by
   unfold Fy_ at h
   obtain ⟨hx,h2⟩:=lp0Z (σ:=Unit) (I:=0<=x.frm/\x.frm<p.places.length/\0<=x.to'/\x.to'<p.places.length/\0<=x.budget/\x.budget<=16) h (by
     refine bt (P:=LoP _ _) (λ_=>by show (10:Int)≠0;decide) λe=>?_
     refine bt (P:=LoP _ _) (λ_=>by show (11:Int)≠0;decide) λ_=>?_
     refine bt (P:=LoP _ _) (λ_=>by show (7:Int)≠0;decide) λe2=>?_
     simp only[Bool.or_eq_false_iff,decide_eq_false_iff_not] at e e2
     exact (chk4 x _).imp λ_ _=>⟨by omega,by omega,by omega,by omega,by omega,by omega⟩)
   rcases List.mem_cons.1 hg with rfl|q
   . exact hx
   . exact chk3 p l (k+1) h2 g q
theorem chk2 (p:G_):∀ l:List Int,Ff_ p l=0->p.grants.length<=8/\Fy_ p p.grants 0=0
 |[],h=>by
   unfold Ff_ at h
   cases e:decide (8<(p.grants.length:Int)) with
   |true=>rw[e] at h;cases h
   |false=>rw[e] at h;simp only[decide_eq_false_iff_not] at e;exact⟨by omega,h⟩
 |x::l,h=>by
   unfold Ff_ at h
   cases e:(decide (x<0) || decide ((p.places.length:Int)<=x)) with
   |true=>rw[e] at h;cases h
   |false=>rw[e] at h;exact chk2 p l h
theorem chk0 (p:G_):∀ (l:List Bl_) (k:Nat),Fx_ p l k=0->(∀ x∈l,0<=x.bytes/\x.bytes<=65536)/\0<p.slots.length/\p.slots.length<=32/\Ff_ p p.slots=0
 |[],k,h=>by
   unfold Fx_ at h
   cases e:decide ((p.slots.length:Int)=0) with
   |true=>rw[e] at h;cases h
   |false=>
     rw[e] at h
     cases e2:decide (32<(p.slots.length:Int)) with
     |true=>rw[e2] at h;cases h
     |false=>
       rw[e2] at h
       simp only[decide_eq_false_iff_not] at e e2
       exact⟨λ_ hx=>by (cases hx),by omega,by omega,h⟩
 |x::l,k,h=>by
   unfold Fx_ at h
   obtain ⟨hx,h2⟩:=lp0Z (σ:=Unit) (I:=0<=x.bytes/\x.bytes<=65536) h (by
     refine bt (P:=LoP _ _) (λe=>?_) λ_=>?_
     . show Cx_ x.name≠0
       simpa using e
     refine bt (P:=LoP _ _) (λ_=>by show (7:Int)≠0;decide) λe=>?_
     simp only[Bool.or_eq_false_iff,decide_eq_false_iff_not] at e
     exact (chk1 x _).imp λ_ _=>⟨by omega,by omega⟩)
   obtain⟨h3,h4⟩:=chk0 p l (k+1) h2
   exact⟨λy hy=>by rcases List.mem_cons.1 hy with rfl|q;exact hx;exact h3 y q,h4⟩
theorem l05_ok {p:G_} (h:Nl_ p=true):PoOk p:=by
 simp only[Nl_,Bool.and_eq_true,decide_eq_true_eq,to_eq] at h;have h1:=h.2;unfold Pf_ at h1
 cases e0:(decide (p.work<1) || decide (16<p.work) || decide (p.give<1) || decide (16<p.give)) with
 |true=>rw[e0] at h1;cases h1
 |false=>
   rw[e0] at h1
   cases e1:decide ((p.places.length:Int)=0) with
   |true=>rw[e1] at h1;cases h1
   |false=>
     rw[e1] at h1
     cases e2:decide (16<(p.places.length:Int)) with
     |true=>rw[e2] at h1;cases h1
     |false=>
       rw[e2] at h1
       simp only[decide_eq_false_iff_not] at e1 e2
       obtain⟨a1,a2,a3,a4⟩:=chk0 p p.places 0 h1
       obtain⟨b1,b2⟩:=chk2 p p.slots a4
       exact⟨by omega,by omega,a2,a3,b1,chk3 p p.grants 0 b2,a1⟩
theorem l05_may {p:G_} (h:Nl_ p=true):PoOk p/\0<p.places.length/\p.places.length<=16/\0<p.slots.length/\p.slots.length<=32/\p.grants.length<=8:=by
 have q:=l05_ok h;obtain⟨h1,h2,h3,h4,h5,_⟩:=id q;exact⟨q,h1,h2,h3,h4,h5⟩
theorem l23_ddl {l:List Aa_} (h:L3_ l=true):DdA l/\l.length<=40:=⟨l23_dd h,(l23_dd h).2⟩
variable {P:Program} {n:Nat} {N:Rest} {H0:Env} {all rest:List Oper} {Q:Qs} {ks:List Kt} {fF:Nat->PV} {fL:Nat->Blk} {T ty d:Nat} {pos:String} {af:Array Edge} {x y z:Operand} {K:St->Prop}
noncomputable def allH (H:Hp) (L:Ls):Hp:=λb=>open Classical in if h:∃ o i,L i=some (b,o) then some h.choose else H b
theorem allH_own {N:Rest} {H:Hp} {L:Ls} {w:World} (hm:Mem N H L w) {i b:Nat} {o:Obj} (h:L i=some (b,o)):allH H L b=some o:=by
 have he:∃ o i,L i=some (b,o):=⟨o,i,h⟩;unfold allH;rw[dif_pos he];obtain⟨j,hj⟩:=he.choose_spec;have :=hm.ll i j b o _ h hj;subst this;rw[h] at hj
 cases hj
 simp
theorem allH_le {N:Rest} {H:Hp} {L:Ls} {w:World} (hm:Mem N H L w):HLe H (allH H L):=λb o h=>by
 unfold allH
 split
 . rename_i he
   obtain⟨o',i,hi⟩:=he
   have :=(hm.nl i b o' hi).2
   rw[h] at this;cases this
 . exact h
theorem mem_lend {N:Rest} {H:Hp} {L:Ls} {w:World} (hm:Mem N H L w):Mem N (allH H L) (λ_=>none) w:=by
 refine⟨hm.os,hm.tape,hm.output,hm.n,λb o h=>?_,(λ_ _ _ h=>by cases h),λb o h=>?_,(λ_ _ _ h=>by cases h),(λ_ _ _ _ _ h=>by cases h)⟩
 . unfold allH at h
   split at h
   . rename_i he
     cases h
     obtain⟨j,hj⟩:=he.choose_spec
     exact hm.l _ _ _ hj
   exact hm.h b o h
 . unfold allH
   split
   . rename_i he
     obtain⟨o',i,hi⟩:=he
     have :=(hm.nl i b o' hi).1
     rw[h] at this;cases this
   exact hm.nh b o h
theorem mem_lent {N:Rest} {H H':Hp} {L:Ls} {w w':World} (hm:Mem N H L w) (hl:HLe (allH H L) H') (hm':Mem N H' (λ_=>none) w'):Mem N H L w':=
 ⟨hm'.os,hm'.tape,hm'.output,hm'.n,λb o h=>hm'.h b o (hl b o (allH_le hm b o h)),λi b o h=>hm'.h b o (hl b o (allH_own hm h)),hm.nh,hm.nl,hm.ll⟩
inductive LentL (sL:Nat->Blk):List PV->List PV->Prop
 |nil:LentL sL [] []
 |same (p:PV) {ps qs:List PV} (h:LentL sL ps qs):LentL sL (p::ps) (p::qs)
 |lend (j:Nat) {α:Type} {u:Value} {k e:Nat} {enc:α->List PV} {xs:List α} {ps qs:List PV} (hj:sL j = .arr u k e enc xs) (h:LentL sL ps qs):LentL sL (.usl u::ps) (.sl enc xs::qs)
 |agg {ps qs rs ss:List PV} (h1:LentL sL ps qs) (h:LentL sL rs ss):LentL sL (.agg ps::rs) (.agg qs::ss)
theorem LentL.sims {sL:Nat->Blk} {H H':Hp} {L:Ls} (hl:HLe H H') (ho:∀ i b o,L i=some (b,o)->H' b=some o) (hb:∀ i,SimB sL H (sL i) (L i)) {ps qs:List PV} (h:LentL sL ps qs):∀ {vs:List Value},Sims H ps vs->Sims H' qs vs:=by
 induction h with
 |nil=>intro vs hs;cases hs.inv_nil;exact Sims.nil
 |same p _ ih=>
   intro vs hs
   obtain⟨v,us,rfl,h1,h2⟩:=hs.inv_cons
   exact (ih h2).cons (h1.mono hl)
 |lend j hj _ ih=>
   intro vs hs
   obtain⟨v,us,rfl,h1,h2⟩:=hs.inv_cons
   have e:=h1.inv_usl.1
   subst e
   have hi:=hb j
   rw[hj] at hi
   obtain⟨cs,h3,h4,h5⟩:=hi
   exact (ih h2).cons (Sim.of_slh (slh_ownE K4_ h3 (h4.mono Pl_ hl) λb o q=>ho j b o q) h5)
 |agg _ _ ih1 ih=>
   intro vs hs
   obtain⟨v,us,rfl,h1,h2⟩:=hs.inv_cons
   obtain⟨zs,rfl,h3⟩:=h1.inv_agg
   exact (ih h2).cons (Sim.toAgg (ih1 h3))
theorem ecallL {f:FuncId} {args args':List PV} {res:PV} {as0:Array Operand} {ats:Array TypeId} (h:Fn P H0.g f args' res) (hf:res.flat=true) (ha:argsP fF x as0.toList=some (f,args)) (hl:LentL fL args args') (hd:Nat.blt d n=true)
   (k:res.wf->K ⟨updp fF d res,fL⟩):E1 P n N H0 all ⟨some d, .call ⟨.value x,as0,ats⟩,ty,pos,af,none⟩ none ⟨fF,fL⟩ K:=by
 intro F H L hab a w hA hm;obtain⟨vs,h1,h2⟩:=Kd_ (ats:=ats) hab.f ha h.cb;have hle:=allH_le hm;have hs:=hl.sims hle (λi b o q=>allH_own hm q) hab.l h1;rw[if_pos pI];unfold Oper.wp;rw[hA.eval,h2];refine (h.run N (allH H L) _ w vs (H0.g.mono _ _ hle hab.g) hs (mem_lend hm)).mono λe' w' ⟨v,H',he,hv,hl',hm'⟩=>?_;subst he;exact⟨_,H,L,hA.put pK v,mem_lent hm hl' hm', .refl H,λ_ _=>rfl,_,hab.put d (Sim.simT (Sim.flat_any hf hv) h.no),k hv.wf⟩
end Go.SW.V
namespace Go.SW.V
open Go.SW
variable {P:Program} {N:Rest} {H0:Env} {s:St} {T T' ty:TypeId} {x:Operand}
theorem qnilN {q:Array (String×TypeId)} (hx:evP s.F x = .val .nilIface) (hT:P.underlying T=some (.interface q)):Qy P N H0 s (.binOp .neq T x (.const .nilIface) T') ty (.bool false):=λF H L ha=>by
 have h1:=Da_ ha.f x
 unfold Ok1 at h1
 rw[hx] at h1
 have h2:=h1.sim.inv_val
 have h:∀ d w,(Op.equalIn (d+1) T .nilIface .nilIface).run P w = .ok true w:=λd w=>by simp[Op.equalIn,run_underlying hT]
 exact⟨_,Sim.bool,λ_ _ _=>F3_ (b:= .nilIface) h2 Y (λw=>by simp[eqGuard]) λw=>by simp[binOp,N9_ (h · w)]⟩
theorem inv_fn0 {H:Hp} {f:FuncId} {v:Value} (h:Sim H (.fn f [] []) v):v = .func (.func f) #[] #[]:=by
 obtain⟨vs,us,rfl,h1,h2⟩:=h.inv_fn
 cases h1.inv_nil;cases h2.inv_nil
 rfl
end Go.SW.V
namespace Go.SW.V
open Go.SW
def K0_ (s:Bs):(List Bs):=
 (flds s)
def Jl_ (n:Int) (least:Int) (most:Int):Int:=
 (bif decide (n<least) then
 15
 else (bif decide (most<n) then
 6
 else 0))
def Lm_ (y:Bl_) (x1:Bl_):Bool:=
 ((decide (y.name=x1.name))||(decide (y.label=x1.label)))
def Ll_ (y:B1_) (x1:B1_):Bool:=
 ((decide (y.frm=x1.frm))&&(decide (y.to'=x1.to')))
def O2_ (s:List Int) (v:Int):Bool:=
 lt (idxP (λy=>decide (v=y)) s) λr=>
 (decide (0<=r))
def L0_:List Int->Int
 |[]=>0
 | x::t=>(bif !decide (x=0) then
 x
 else L0_ t)
def cmp_Or (vals:List Int):Int:=
 L0_ vals
def Ju_ (a:C5_):Bool:=
 (decide (a.level<=15))
def D1_ (s:Bs) (most:Int):Nat->Nat->Int->Int×Int
 |0,_,_=>default
 | f2+1,k1,n1=>(bif decide ((k1:Int)<(s.length:Int)) then
 (bif ((decide (((s.getD k1 0).toNat:Int)<48))||(decide (57<((s.getD k1 0).toNat:Int)))) then
 ((k1:Int),n1)
 else (bif decide (n1<=most) then
 D1_ s most f2 (k1+1) ((10*n1)+(IntKind.wrap .u8 (((s.getD k1 0).toNat:Int)-48)))
 else D1_ s most f2 (k1+1) n1))
 else ((k1:Int),n1))
def Ea_ (s:Bs) (most:Int):Int×Bs×Int:=
 (lt2 (D1_ s most (s.length-0+1) 0 0) (λk n=>
 (bif ((decide (k=0))&&(decide ((s.length:Int)=0))) then
 (0,[],3)
 else (lt1 ((bif decide (k=0) then
 (decide (k=0))
 else ((decide (1<k))&&(decide (((s.getD 0 0).toNat:Int)=48))))) (λv=>
 (bif v then
 (0,[],4)
 else (bif decide (most<n) then
 (0,[],7)
 else (n,(s.drop (k).toNat),0))))))))
theorem plen_w {s l:Bs} {r:List Bs} (h:plen s=true) (hr:K0_ l=r) (hz:l.length<=65536/\(flds l).length<=65536/\∀ w∈flds l,0<w.length/\w.length<=19):∀ w∈r,0<w.length/\w.length<=19:=by
 subst hr;exact hz.2.2
theorem there_in {p:G_} {i:Int} (h:Bt_ p i=true):0<=i/\i<p.places.length:=by
 simp only[Bt_,C8_,Bool.and_eq_true,decide_eq_true_eq] at h;omega
theorem wrap8_r (z:Int):0<=IntKind.wrap .u8 z/\IntKind.wrap .u8 z<=255:=Lg_ .u8 z
theorem lnum_l (s:Bs) (most:Int):∀ (f k:Nat) (n:Int),0<=n->0<=(D1_ s most f k n).2
 |0,_,_,_=>by simp[D1_,default]
 |f+1,k,n,hn=>by
   unfold D1_
   let Q:Int×Int->Prop:=λr=>0<=r.2
   refine bt (P:=Q) (λ_=>?_) λ_=>hn
   refine bt (P:=Q) (λ_=>hn) λ_=>?_
   refine bt (P:=Q) (λ_=>lnum_l s most f _ _ ?_) λ_=>lnum_l s most f _ _ hn
   have :=(wrap8_r (((s.getD k 0).toNat:Int)-48)).1
   omega
theorem lnum_r (s:Bs) (most:Int) (hm:0<=most/\most<=1000):0<=(Ea_ s most).1/\(Ea_ s most).1<=1000/\(Ea_ s most).2.1.length<=s.length:=by
 unfold Ea_;have h:=lnum_l s most (s.length-0+1) 0 0 (Int.le_refl _);generalize D1_ s most (s.length-0+1) 0 0=q at h ⊢;obtain⟨k,n⟩:=q;let Q:Int×Bs×Int->Prop:=λr=>0<=r.1/\r.1<=1000/\r.2.1.length<=s.length;have hno:∀ e:Int,Q (0,[],e):=λe=>⟨Int.le_refl _,by show (0:Int)<=1000;decide,Nat.zero_le _⟩;show Q (bif _ then _ else _);refine bt (P:=Q) (λ_=>hno _) λ_=>?_;refine lt1E (P:=Q) (λ_=>True) Z λv _=>?_;refine bt (P:=Q) (λ_=>hno _) λ_=>?_;refine bt (P:=Q) (λ_=>hno _) λe=>?_;simp only[decide_eq_false_iff_not] at e;exact⟨h,by show n<=1000;omega,by show (s.drop _).length<=_;rw[List.length_drop];omega⟩
def Kz_ (x:Bl_) (ahead:List Bl_):Int:=
 (bif !decide ((Cx_ x.name)=0) then
 (Cx_ x.name)
 else (lt1 ((bif !(Ju_ x.label) then
 (!(Ju_ x.label))
 else (bif !(C8_ x.bytes 0 65536) then
 (!(C8_ x.bytes 0 65536))
 else (decide (x.base=0))))) (λv=>
 (bif v then
 7
 else (bif decide (0<=idxP (λz_28:Bl_=>(Lm_ z_28 x)) ahead) then
 9
 else 0)))))
def F4_ (p:G_) (x:B1_) (ahead:List B1_):Int:=
 (bif !(Bt_ p x.frm) then
 10
 else (bif !(Bt_ p x.to') then
 10
 else (bif (Ft_ ((gt p.places ((x.frm).toNat)).label) ((gt p.places ((x.to').toNat)).label)) then
 11
 else (bif !(C8_ x.budget 0 16) then
 7
 else (bif decide (0<=idxP (λz_32:B1_=>(Ll_ z_32 x)) ahead) then
 9
 else 0)))))
def Fv_ (p:G_):Nat->Int->Nat->Int
 |0,_,_=>default
 | f2+1,e_1,i=>(bif ((decide (e_1=0))&&(decide ((i:Int)<(p.places.length:Int)))) then
 Fv_ p f2 (Kz_ (gt p.places i) (p.places.take i)) (i+1)
 else e_1)
def Es_ (p:G_):Int:=
 lt (Jl_ (p.places.length:Int) 1 16) λr=>
 Fv_ p (p.places.length+1-0+1) r 0
def E1_ (p:G_):Nat->Int->Nat->Int
 |0,_,_=>default
 | f2+1,e_1,i=>(bif ((decide (e_1=0))&&(decide ((i:Int)<(p.slots.length:Int)))) then
 (bif !(Bt_ p (gt p.slots i)) then
 E1_ p f2 10 (i+1)
 else E1_ p f2 e_1 (i+1))
 else e_1)
def E4_ (p:G_):Int:=
 lt (Jl_ (p.slots.length:Int) 1 32) λr=>
 E1_ p (p.slots.length+1-0+1) r 0
def Fu_ (p:G_):Nat->Int->Nat->Int
 |0,_,_=>default
 | f2+1,e_1,i=>(bif ((decide (e_1=0))&&(decide ((i:Int)<(p.grants.length:Int)))) then
 Fu_ p f2 (F4_ p (gt p.grants i) (p.grants.take i)) (i+1)
 else e_1)
def Er_ (p:G_):Int:=
 lt (Jl_ (p.grants.length:Int) 0 8) λr=>
 Fu_ p (p.grants.length+1-0+1) r 0
def Dn_ (p:G_):List Bl_->Nat->Int
 |[],k=>0
 | x::t,k=>(bif !(O2_ p.slots (k:Int)) then
 15
 else Dn_ p t (k+1))
def He_ (p:G_):Int:=
 (bif ((!(C8_ p.work 1 16))||(!(C8_ p.give 1 16))) then
 7
 else (bif !decide ((cmp_Or [(Es_ p),(E4_ p),(Er_ p)])=0) then
 (cmp_Or [(Es_ p),(E4_ p),(Er_ p)])
 else Dn_ p p.places 0))
def Fk_ (s:Bs) (most:Int):List UInt8->Int×Int
 | []=>(bif decide (most<(dec s:Int)) then
 (0,7)
 else ((dec s:Int),0))
 | x::t=>(bif ((decide ((x.toNat:Int)<48))||(decide (57<(x.toNat:Int)))) then
 (0,4)
 else Fk_ s most t)
def Il_ (s:Bs) (most:Int):Int×Int:=
 (bif ((decide (s=[]))||((decide (1<(s.length:Int)))&&(decide (((s.getD 0 0).toNat:Int)=48)))) then
 (0,4)
 else Fk_ s most s)
def Fd_ (s:Bs):Int×Int:=
 lt (Il_ s 1048576) λr=>
 ((IntKind.wrap .i64 r.1),r.2)
def Bs_ (p:G_) (s:Bs):Int×Int:=
 lt (K_ p s) λr=>
 (bif decide (0<=r) then
 (r,0)
 else (0,10))
def I2_:Nat->Bs->Int->C5_->C5_×Int
 |0,_,_,_=>default
 | f2+1,s1,last,x=>(bif decide (0<(s1.length:Int)) then
 (bif !decide (((s1.getD 0 0).toNat:Int)=58) then
 ((⟨0,0⟩:C5_),4)
 else lt (Ea_ (s1.drop 1) 31) λr1=>
 (bif !decide (r1.2.2=0) then
 ((⟨0,0⟩:C5_),r1.2.2)
 else (bif decide (r1.1<=last) then
 ((⟨0,0⟩:C5_),4)
 else I2_ f2 r1.2.1 r1.1 (⟨x.level,(IntKind.wrap .u32 ((BitVec.ofInt (IntKind.bits .u32) x.Q0_ |||BitVec.ofInt (IntKind.bits .u32) (IntKind.wrap .u32 (1*2 ^ (min (r1.1:Int).toNat (IntKind.bits .u32))))).toNat))⟩:C5_))))
 else (x,0))
def Gk_ (s:Bs):C5_×Int:=
 lt (Ea_ s 15) λr=>
 (bif !decide (r.2.2=0) then
 ((⟨0,0⟩:C5_),r.2.2)
 else I2_ (r.2.1.length+1) r.2.1 (-1) (⟨(IntKind.wrap .u8 r.1),0⟩:C5_))
def B3_:List Bs->Nat->Int->Int->List Bl_->List Int->List B1_->G_×Int×Int
 |[],k,work,give_,places,slots,grants=>lt (He_ (⟨work,give_,places,slots,grants⟩:G_)) λr16=>
 (bif !decide (r16=0) then
 ((⟨0,0,[],[],[]⟩:G_),0,r16)
 else ((⟨work,give_,places,slots,grants⟩:G_),0,0))
 |x::t,k,work,give_,places,slots,grants=>lt (K0_ x) λr=>
 (bif ((decide ((r.length:Int)=0))||(decide ((((gt r 0).getD 0 0).toNat:Int)=35))) then
 B3_ t (k+1) work give_ places slots grants
 else (bif decide ((gt r 0)=[108,97,98,101,108]) then
 (bif !decide ((r.length:Int)=5) then
 ((⟨0,0,[],[],[]⟩:G_),((k:Int)+1),4)
 else (bif decide ((gt r 0)=[119,111,114,107]) then
 lt (Fd_ (gt r 1)) λr1=>
 (bif !decide (r1.2=0) then
 ((⟨0,0,[],[],[]⟩:G_),((k:Int)+1),r1.2)
 else B3_ t (k+1) r1.1 give_ places slots grants)
 else (bif decide ((gt r 0)=[103,105,118,101]) then
 lt (Fd_ (gt r 1)) λr2=>
 (bif !decide (r2.2=0) then
 ((⟨0,0,[],[],[]⟩:G_),((k:Int)+1),r2.2)
 else B3_ t (k+1) work r2.1 places slots grants)
 else (bif decide ((gt r 0)=[115,108,111,116]) then
 lt (Bs_ (⟨work,give_,places,slots,grants⟩:G_) (gt r 1)) λr3=>
 (bif !decide (r3.2=0) then
 ((⟨0,0,[],[],[]⟩:G_),((k:Int)+1),r3.2)
 else B3_ t (k+1) work give_ places (slots++[r3.1]) grants)
 else lt (Gk_ (gt r 2)) λr4=>
 (bif !decide (r4.2=0) then
 ((⟨0,0,[],[],[]⟩:G_),((k:Int)+1),r4.2)
 else lt (Fd_ (gt r 3)) λr5=>
 (bif !decide (r5.2=0) then
 ((⟨0,0,[],[],[]⟩:G_),((k:Int)+1),r5.2)
 else lt (Il_ (gt r 4) 18446744073709551615) λr6=>
 (bif !decide (r6.2=0) then
 ((⟨0,0,[],[],[]⟩:G_),((k:Int)+1),r6.2)
 else B3_ t (k+1) work give_ (places++[(⟨(gt r 1),r4.1,r5.1,r6.1⟩:Bl_)]) slots grants)))))))
 else (bif decide ((gt r 0)=[103,114,97,110,116]) then
 (bif !decide ((r.length:Int)=4) then
 ((⟨0,0,[],[],[]⟩:G_),((k:Int)+1),4)
 else (bif decide ((gt r 0)=[119,111,114,107]) then
 lt (Fd_ (gt r 1)) λr7=>
 (bif !decide (r7.2=0) then
 ((⟨0,0,[],[],[]⟩:G_),((k:Int)+1),r7.2)
 else B3_ t (k+1) r7.1 give_ places slots grants)
 else (bif decide ((gt r 0)=[103,105,118,101]) then
 lt (Fd_ (gt r 1)) λr8=>
 (bif !decide (r8.2=0) then
 ((⟨0,0,[],[],[]⟩:G_),((k:Int)+1),r8.2)
 else B3_ t (k+1) work r8.1 places slots grants)
 else (bif decide ((gt r 0)=[115,108,111,116]) then
 lt (Bs_ (⟨work,give_,places,slots,grants⟩:G_) (gt r 1)) λr9=>
 (bif !decide (r9.2=0) then
 ((⟨0,0,[],[],[]⟩:G_),((k:Int)+1),r9.2)
 else B3_ t (k+1) work give_ places (slots++[r9.1]) grants)
 else lt (Bs_ (⟨work,give_,places,slots,grants⟩:G_) (gt r 1)) λr10=>
 (bif !decide (r10.2=0) then
 ((⟨0,0,[],[],[]⟩:G_),((k:Int)+1),r10.2)
 else lt (Bs_ (⟨work,give_,places,slots,grants⟩:G_) (gt r 2)) λr11=>
 (bif !decide (r11.2=0) then
 ((⟨0,0,[],[],[]⟩:G_),((k:Int)+1),r11.2)
 else lt (Fd_ (gt r 3)) λr12=>
 (bif !decide (r12.2=0) then
 ((⟨0,0,[],[],[]⟩:G_),((k:Int)+1),r12.2)
 else B3_ t (k+1) work give_ places slots (grants++[(⟨r10.1,r11.1,r12.1⟩:B1_)]))))))))
 else (bif decide ((gt r 0)=[119,111,114,107]) then
 (bif !decide ((r.length:Int)=2) then
 ((⟨0,0,[],[],[]⟩:G_),((k:Int)+1),4)
 else lt (Fd_ (gt r 1)) λr13=>
 (bif !decide (r13.2=0) then
 ((⟨0,0,[],[],[]⟩:G_),((k:Int)+1),r13.2)
 else B3_ t (k+1) r13.1 give_ places slots grants))
 else (bif decide ((gt r 0)=[103,105,118,101]) then
 (bif !decide ((r.length:Int)=2) then
 ((⟨0,0,[],[],[]⟩:G_),((k:Int)+1),4)
 else lt (Fd_ (gt r 1)) λr14=>
 (bif !decide (r14.2=0) then
 ((⟨0,0,[],[],[]⟩:G_),((k:Int)+1),r14.2)
 else B3_ t (k+1) work r14.1 places slots grants))
 else (bif decide ((gt r 0)=[115,108,111,116]) then
 (bif !decide ((r.length:Int)=2) then
 ((⟨0,0,[],[],[]⟩:G_),((k:Int)+1),4)
 else lt (Bs_ (⟨work,give_,places,slots,grants⟩:G_) (gt r 1)) λr15=>
 (bif !decide (r15.2=0) then
 ((⟨0,0,[],[],[]⟩:G_),((k:Int)+1),r15.2)
 else B3_ t (k+1) work give_ places (slots++[r15.1]) grants))
 else ((⟨0,0,[],[],[]⟩:G_),((k:Int)+1),4)))))))
def Jk_ (s:Bs):G_×Int×Int:=
 B3_ (cuts 10 s) 0 0 0 [] [] []
def Vj_:Bool:=
 lt (Gk_ [50,58,48,58,53]) λr=>
 lt (Gk_ [51,58,48,58,53,58,55]) λr1=>
 lt (Gk_ [51,58,53]) λr2=>
 ((((((decide (r.2=0))&&(decide (r1.2=0)))&&(decide (r2.2=0)))&&(Ft_ r.1 r1.1))&&(!(Ft_ r.1 r2.1)))&&(!(Ft_ r1.1 r.1)))
def Vi_:Bool:=
 (Vj_)
def Vl_:Bool:=
 lt (Jk_ [119,111,114,107,32,52,10,103,105,118,101,32,49,10,108,97,98,101,108,32,108,111,119,32,48,32,53,49,50,32,49,10,115,108,111,116,32,108,111,119]) λr=>
 (((((((Vi_)&&true)&&(decide (r.2.1=0)))&&(decide (r.2.2=0)))&&(decide ((r.1.places.length:Int)=1)))&&(decide (r.1.work=4)))&&(decide (((gt r.1.places 0).bytes)=512)))
def Vk_:Bool:=
 (Vl_)
def Vo_:Bool:=
 lt (At_ (⟨[]⟩:Aq_) (⟨3,[97],[],[],[],0,0⟩:Mail)) λr=>
 lt (At_ r.1 (⟨5,[97],[],[],[],0,0⟩:Mail)) λr1=>
 lt (Ce_ r1.1) λr2=>
 lt (Ce_ r2.1) λr3=>
 lt (Cu_ r3.1 3) λr4=>
 lt (Ar_ r4.1) λr5=>
 (((((((((decide (r.2=0))&&(decide (r1.2=0)))&&r2.2.2)&&(decide (r2.2.1.O_.id=3)))&&r3.2.2)&&(decide (r3.2.1.O_.id=5)))&&(decide (r4.2=0)))&&r5.2)&&(decide (r5.1.id=3)))
def Vn_:Bool:=
 (Vo_)
def Mt_:Nat->Nat->Bx_->Bool
 |0,_,_=>default
 | f2+1,v,x=>(bif decide ((v:Int)<40) then
 lt (Br_ x (⟨0,(IntKind.wrap .u8 (v:Int)),[]⟩:C1_)) λr=>
 Mt_ f2 (v+1) r.1
 else lt (G2_ x 9) λr1=>
 lt (G2_ x 8) λr2=>
 (((r1.2&&(decide (r1.1.kind=8)))&&(!r2.2))&&(decide ((Ik_ x)=40))))
def Ru_:Bool:=
 Mt_ (40-0+1) 0 (⟨0,[]⟩:Bx_)
def Vp_:Bool:=
 (Ru_)
def Mu_:Nat->Nat->Aj_->Bool
 |0,_,_=>default
 | f2+1,v,x=>(bif decide ((v:Int)<20) then
 lt (Bg_ x (⟨0,[97],[],[],[],0,0⟩:Mail)) λr=>
 Mu_ f2 (v+1) r.1
 else lt (F9_ x 0) λr1=>
 lt (F9_ x 20) λr2=>
 (((decide (r1.1=5))&&r1.2.2)&&(!r2.2.2)))
def Rv_:Bool:=
 Mu_ (20-0+1) 0 (⟨0,[]⟩:Aj_)
def Vq_:Bool:=
 (Rv_)
def Vu_:Bool:=
 lt (E3_ 7 100) λr=>
 lt (A4_ r (⟨[113],3,0,[]⟩:Ae_)) λr1=>
 lt (As_ r1.1 [113] (⟨0,[97],[],[],[],0,0⟩:Mail)) λr2=>
 (((((Vn_)&&(Vq_))&&(decide (r1.2=0)))&&(decide (r2.2.2.2=0)))&&(decide (r2.2.1=7)))
def Vs_:Bool:=
 (Vu_)
def Mv_:Nat->Nat->E_->Bool
 |0,_,_=>default
 | f2+1,v,x=>(bif decide ((v:Int)<([(⟨0,0,(⟨[97],1,[]⟩:Z_),(⟨[],0,0,[]⟩:Ae_),(⟨[],[],false,[],[],false⟩:R_),[],0,0,0,0,0,(⟨0,[],[],[],[],0,0⟩:Mail),[]⟩:Aa_),(⟨2,0,(⟨[],0,[]⟩:Z_),(⟨[113],4,0,[]⟩:Ae_),(⟨[],[],false,[],[],false⟩:R_),[],0,0,0,0,0,(⟨0,[],[],[],[],0,0⟩:Mail),[]⟩:Aa_),(⟨4,0,(⟨[],0,[]⟩:Z_),(⟨[],0,0,[]⟩:Ae_),(⟨[97],[113],false,[],[],false⟩:R_),[],0,0,0,0,0,(⟨0,[],[],[],[],0,0⟩:Mail),[]⟩:Aa_)].length:Int)) then
 lt (Ap_ x (gt [(⟨0,0,(⟨[97],1,[]⟩:Z_),(⟨[],0,0,[]⟩:Ae_),(⟨[],[],false,[],[],false⟩:R_),[],0,0,0,0,0,(⟨0,[],[],[],[],0,0⟩:Mail),[]⟩:Aa_),(⟨2,0,(⟨[],0,[]⟩:Z_),(⟨[113],4,0,[]⟩:Ae_),(⟨[],[],false,[],[],false⟩:R_),[],0,0,0,0,0,(⟨0,[],[],[],[],0,0⟩:Mail),[]⟩:Aa_),(⟨4,0,(⟨[],0,[]⟩:Z_),(⟨[],0,0,[]⟩:Ae_),(⟨[97],[113],false,[],[],false⟩:R_),[],0,0,0,0,0,(⟨0,[],[],[],[],0,0⟩:Mail),[]⟩:Aa_)] v)) λr1=>
 (bif !decide (r1.2.2=0) then
 false
 else Mv_ f2 (v+1) r1.1)
 else lt (Ap_ x (⟨6,0,(⟨[],0,[]⟩:Z_),(⟨[],0,0,[]⟩:Ae_),(⟨[],[],false,[],[],false⟩:R_),[],0,0,0,0,0,(⟨0,[97],[],[],[120],0,0⟩:Mail),[]⟩:Aa_)) λr2=>
 lt (Ap_ r2.1 (⟨7,0,(⟨[],0,[]⟩:Z_),(⟨[],0,0,[]⟩:Ae_),(⟨[],[],false,[],[],false⟩:R_),[113],0,0,0,0,0,(⟨0,[],[],[],[],0,0⟩:Mail),[]⟩:Aa_)) λr3=>
 ((((((((Vk_)&&(Vs_))&&true)&&(Vp_))&&(decide (r2.2.2=0)))&&(decide (r2.2.1.count=1)))&&(decide (r3.2.2=0)))&&(decide (r3.2.1.item.O_.body=[120]))))
def O6_:Bool:=
 lt (Cd_ (⟨4,1,[(⟨[108,111,119],(⟨0,0⟩:C5_),500,1⟩:Bl_)],[0],[]⟩:G_) 0) λr=>
 Mv_ (([(⟨0,0,(⟨[97],1,[]⟩:Z_),(⟨[],0,0,[]⟩:Ae_),(⟨[],[],false,[],[],false⟩:R_),[],0,0,0,0,0,(⟨0,[],[],[],[],0,0⟩:Mail),[]⟩:Aa_),(⟨2,0,(⟨[],0,[]⟩:Z_),(⟨[113],4,0,[]⟩:Ae_),(⟨[],[],false,[],[],false⟩:R_),[],0,0,0,0,0,(⟨0,[],[],[],[],0,0⟩:Mail),[]⟩:Aa_),(⟨4,0,(⟨[],0,[]⟩:Z_),(⟨[],0,0,[]⟩:Ae_),(⟨[97],[113],false,[],[],false⟩:R_),[],0,0,0,0,0,(⟨0,[],[],[],[],0,0⟩:Mail),[]⟩:Aa_)].length)-0+1) 0 r
def Ji_ (x:D_) (y:D_):Bool:=
 (((decide (x.O_=y.O_))&&(x.Nm_==y.Nm_))&&(x.again==y.again))
def Fz_ (s2:List R_):List R_->Nat->Bool
 |[],k=>true
 | x::t,k=>(bif !(decide (x=(gt s2 k))) then
 false
 else Fz_ s2 t (k+1))
def Mp_ (s1:List R_) (s2:List R_):Bool:=
 (bif !decide ((s1.length:Int)=(s2.length:Int)) then
 false
 else Fz_ s2 s1 0)
def F0_ (s2:List D_):List D_->Nat->Bool
 |[],k=>true
 | x::t,k=>(bif !(Ji_ x (gt s2 k)) then
 false
 else F0_ s2 t (k+1))
def Mq_ (s1:List D_) (s2:List D_):Bool:=
 (bif !decide ((s1.length:Int)=(s2.length:Int)) then
 false
 else F0_ s2 s1 0)
def F1_ (s2:List Mail):List Mail->Nat->Bool
 |[],k=>true
 | x::t,k=>(bif !(decide (x=(gt s2 k))) then
 false
 else F1_ s2 t (k+1))
def Mr_ (s1:List Mail) (s2:List Mail):Bool:=
 (bif !decide ((s1.length:Int)=(s2.length:Int)) then
 false
 else F1_ s2 s1 0)
def O8_ (a:Aq_) (b:Aq_):Bool:=
 (Mq_ a.items b.items)
def J6_ (a:Aj_) (b:Aj_):Bool:=
 ((decide (a.total=b.total))&&(Mr_ a.kept b.kept))
def Lx_ (a:Bx_) (b:Bx_):Bool:=
 ((decide (a.total=b.total))&&(decide (a.kept=b.kept)))
def Lz_ (a:Ac_) (b:Ac_):Bool:=
 ((decide (a.Ad_=b.Ad_))&&(Mp_ a.binds b.binds))
def If_ (x:Eu_) (y:Eu_):Bool:=
 ((decide (x.q=y.q))&&(O8_ x.l y.l))
def G0_ (s2:List Eu_):List Eu_->Nat->Bool
 |[],k=>true
 | x::t,k=>(bif !(If_ x (gt s2 k)) then
 false
 else G0_ s2 t (k+1))
def Nk_ (s1:List Eu_) (s2:List Eu_):Bool:=
 (bif !decide ((s1.length:Int)=(s2.length:Int)) then
 false
 else G0_ s2 s1 0)
def Hs_ (a:I_) (b:I_):Nat->Nat->Bool
 |0,_=>default
 | f2+1,v=>(bif decide ((v:Int)<16) then
 (bif !(J6_ (A16.get a.rises v) (A16.get b.rises v)) then
 false
 else Hs_ a b f2 (v+1))
 else true)
def Jp_ (a:I_) (b:I_):Bool:=
 (bif (((!decide (a.next = b.next))||(!decide (a.bytes=b.bytes)))||(!(Nk_ a.rows b.rows))) then
 false
 else Hs_ a b (16-0+1) 0)
def H1_ (a:Cb_) (b:Cb_):Bool:=
 (((((Lz_ a.book b.book)&&(Jp_ a.C_ b.C_))&&(Lx_ a.notes b.notes))&&(decide (a.seen=b.seen)))&&(decide (a.spent=b.spent)))
def I8_ (b:Ac_):(List Z_):=
 b.Ad_
def Cv_:List R_->List R_->(List R_)
 |[],out=>out
 |x::t,out=>Cv_ t (out++[x])
def Gg_ (b:Ac_):(List R_):=
 Cv_ b.binds []
theorem line_ok {s:I_} {n:Bs} (h:StkOk s):LnOk (Dd_ s n):=by
 unfold Dd_ lt;refine bt (P:=LnOk) (λ_=>Sc_) λ_=>?_;generalize (J_ s n).toNat=k
 cases e:s.rows[k]? with
 |none=>
   have :(gt s.rows k)=default:=by simp[gt,e]
   rw[this];exact Sc_
 |some x=>
   have :(gt s.rows k)=x:=by simp[gt,e]
   rw[this];exact h.1.at e
theorem Wn_:∀ (t:List Eu_) (out:List Ae_),(Bz_ t out).length=out.length+t.length
 |[],out=>rfl
 |x::t,out=>by
   unfold Bz_
   rw[Wn_ t];simp;omega
theorem queues_len {s:I_} (h:StkOk s):(Ds_ s).length<=8:=by
 unfold Ds_;rw[Wn_];have :=h.1.1;simp;omega
theorem all_len0:∀ (t out:List D_),(C0_ t out).length=out.length+t.length
 |[],out=>rfl
 |x::t,out=>by
   unfold C0_ lt
   rw[all_len0 t];simp;omega
theorem all_len {l:Aq_} (h:LnOk l):(Gl_ l).length<=64:=by
 unfold Gl_;rw[all_len0];have :=h.1;simp;omega
structure Clo (B:Ac_->Prop) (K:I_->Prop) (M:Bx_->Prop):Prop where
 ma:∀ {b x},0<=x.sort->B b->B (Bu_ b x).1
 bd:∀ {b x},(∀ p∈x.want,p.wf)->B b->B (A7_ b x).1
 dp:∀ {b n},B b->B (Cp_ b n).1
 ub:∀ {b x},B b->B (B4_ b x).1
 fg:∀ {b q},B b->B (Cm_ b q)
 km:∀ {k q},K k->K (A4_ k q).1
 kd:∀ {k n},K k->K (Ax_ k n).1
 kp:∀ {k n m},StkOk k->K k->K (As_ k n m).1
 kl:∀ {k n},K k->K (Bc_ k n).1
 kr:∀ {k n i},K k->K (U_ k n i).1
 kb:∀ {k n i},K k->K (Bb_ k n i).1
 ks:∀ {k p m},K k->K (Au_ k p m).1
 kw:∀ {k},StkOk k->K k->K (Cs_ k)
 na:∀ {n x},0<=x.kind/\x.kind<=255->M n->M (Br_ n x).1
def Cl (B:Ac_->Prop) (K:I_->Prop) (M:Bx_->Prop) (s:E_):Prop:=B s.x.book/\K s.x.C_/\M s.x.notes
section
variable {B:Ac_->Prop} {K:I_->Prop} {M:Bx_->Prop} (C:Clo B K M)
include C
variable {s:E_}
omit C in
section
variable {m:Mail} {tick:Int} {r:List Bs×List Bs×Int}
end
section
variable {d:Aa_}
end
end
def BiB (y:R_):Prop:=y.Ak_.length<=16/\Cx_ y.to'=0/\y.key.length<=64/\Du_ y.want=0/\∀ p∈y.want,p.wf
def BkB (b:Ac_):Prop:=(∀ s∈b.Ad_,On_ s=0/\0<=s.sort)/\∀ y∈b.binds,BiB y
def RoB (k:I_):Prop:=∀ r∈k.rows,Dl_ r.q=0
def NoB (n:Bx_):Prop:=∀ x∈n.kept,x.text.length<=64/\0<=x.kind/\x.kind<=255
theorem Se_ {s:Bs} (h:Cx_ s=0):s.length<=16:=by
 unfold Cx_ at h
 split at h
 . cases h
 . split at h
   . cases h
   omega
theorem keyE_len {l:List Bs} {s:Bs} (h:keyE l s=0):s.length<=64:=by
 unfold keyE at h
 split at h
 . cases h
 omega
theorem shopE_f {x:Z_} (h:On_ x=0):x.name.length<=16/\x.to'.length<=16/\x.sort<=4:=by
 unfold On_ at h
 split at h
 . rename_i q;exact (q h).elim
 . rename_i q
   split at h
   . cases h
   . refine⟨Se_ oP,?_,by omega⟩
     split at h
     exact Se_ h
     . split at h
       . cases h
       . rename_i q2;rw[show x.to'=[] by simpa using q2];simp
theorem qcheck_f {q:Ae_} (h:Dl_ q=0):q.name.length<=16/\q.dead.length<=16/\1<=q.most/\q.most<=64:=by
 unfold Dl_ at h;by_cases q1:Cx_ q.name=0
 . rw[decide_eq_true q1] at h
   simp only[Bool.not_true,cond_false] at h
   cases e:(decide (q.most<1) || decide (64<q.most)) with
   |true=>rw[e] at h;cases h
   |false=>
     rw[e] at h
     simp only[cond_false] at h
     simp only[Bool.or_eq_false_iff,decide_eq_false_iff_not] at e
     refine⟨Se_ q1,?_,by omega,by omega⟩
     by_cases q2:q.dead=[]
     . rw[q2];simp
     . rw[decide_eq_false q2] at h;exact Se_ h
 rw[decide_eq_false q1] at h;exact (q1 h).elim
theorem X6_ {α:Type} {l:List α} {a b:Nat} {x:α} (h:x∈[l.take a,l.drop b].flatten):x∈l:=by
 simp only[List.flatten_cons,List.flatten_nil,List.append_nil,List.mem_append] at h
 rcases h with h|h
 exact List.mem_of_mem_take h;exact List.mem_of_mem_drop h
theorem Nn_ {α:Type} {l:List α} {y x:α} (h:x∈[l,[y]].flatten):x∈l\/x=y:=by
 simpa using h
theorem Um_ (f:R_->Bool):∀ (t out:List R_) (y:R_),y∈Cc_ f t out->y∈out\/y∈t
 |[],out,y,h=> .inl h
 |x::t,out,y,h=>by
   unfold Cc_ at h
   cases e:f x with
   |true=>
     rw[e] at h
     rcases Um_ f t _ y h with q|q
     . rcases List.mem_append.1 q with q|q
       . exact .inl q
       . exact .inr (by rw[List.mem_singleton.1 q];simp)
     . exact .inr pV
   |false=>
     rw[e] at h
     rcases Um_ f t _ y h with q|q
     . exact .inl q
     . exact .inr pV
theorem ruleE_f {r:Rule} (h:Qc_ r=0):r.key.length<=64/\Du_ r.want=0:=by
 unfold Qc_ at h
 split at h
 . cases h
 . split at h
   . split at h
     . rename_i q;exact (q h).elim
     . rename_i q;exact⟨keyE_len oP,h⟩
   . split at h
     . rename_i q;exact (q h).elim
     . rename_i q;exact⟨keyE_len oP,h⟩
theorem shopOf_mem {l:List Z_} {n:Bs} (h:(D0_ l n).isSome=true):∃ s∈l,s.name=n:=by
 obtain⟨s,hs⟩:=Option.isSome_iff_exists.1 h;exact⟨s,List.mem_of_find?_eq_some hs,by simpa using List.find?_some hs⟩
theorem Ss_ {s:I_} {k:Int} {l:Aq_} (h:RoB s):RoB (W_ s k l):=λr hr=>by
 have hr:r∈s.rows.set k.toNat ⟨(gt s.rows k.toNat).q,l⟩:=hr
 by_cases q:k.toNat<s.rows.length
 . rcases List.mem_or_eq_of_mem_set hr with e|e
   . exact h r e
   . rw[e];exact h (gt s.rows k.toNat) (List.mem_of_getElem? (getG q))
 . rw[List.set_eq_of_length_le pB] at hr;exact h r hr
theorem rob_wake:∀ (t:List Eu_) (k:Nat) (x:I_),RoB x->RoB (Bf_ t k x)
 |[],_,_,h=>h
 |_::t,k,_,h=>rob_wake t (k+1) _ (Ss_ h)
theorem cloB:Clo BkB RoB NoB where
 ma:=λ{b x} hq h=>by
   unfold Bu_
   let Q:Ac_×Int->Prop:=λr=>BkB r.1
   refine bt (P:=Q) (λ_=>h) λe=>bt (P:=Q) (λ_=>h) λ_=>bt (P:=Q) (λ_=>h) λ_=>bt (P:=Q) (λ_=>h) λ_=>⟨λs hs=>?_,h.2⟩
   rcases Nn_ hs with q|q
   . exact h.1 s q
   . rw[q];exact⟨by simpa using e,hq⟩
 bd:=λ{b x} hw h=>by
   unfold A7_ lt
   let Q:Ac_×Int->Prop:=λr=>BkB r.1
   refine bt (P:=Q) (λ_=>h) λe1=>bt (P:=Q) (λ_=>h) λ_=>bt (P:=Q) (λ_=>h) λe2=>bt (P:=Q) (λ_=>h) λe3=>bt (P:=Q) (λ_=>h) λ_=>bt (P:=Q) (λ_=>h) λ_=>⟨h.1,λy hy=>?_⟩
   rcases Nn_ hy with q|q
   . exact h.2 y q
   . rw[q]
     obtain⟨s,hs,hn⟩:=shopOf_mem (by simpa using e1)
     have hr:=ruleE_f (by simpa using e3)
     exact⟨by rw[<- hn];exact (shopE_f (h.1 s hs).1).1,by simpa using e2,hr.1,hr.2,hw⟩
 dp:=λ{b n} h=>by
   unfold Cp_ lt
   let Q:Ac_×Int->Prop:=λr=>BkB r.1
   refine bt (P:=Q) (λ_=>h) λ_=>⟨λs hs=>h.1 s (X6_ hs),λy hy=>?_⟩
   rcases Um_ _ _ _ y hy with q|q
   . cases q
   . exact h.2 y q
 ub:=λ{b x} h=>by
   unfold B4_ lt
   let Q:Ac_×Int->Prop:=λr=>BkB r.1
   exact bt (P:=Q) (λ_=>h) λ_=>⟨h.1,λy hy=>h.2 y (X6_ hy)⟩
 fg:=λ{b q} h=>⟨h.1,λy hy=>by
   rcases Um_ _ _ _ y hy with q|q
   . cases q
   . exact h.2 y q⟩
 km:=λ{k q} h=>by
   unfold A4_ lt
   let Q:I_×Int->Prop:=λr=>RoB r.1
   refine bt (P:=Q) (λ_=>h) λe=>bt (P:=Q) (λ_=>h) λ_=>bt (P:=Q) (λ_=>h) λ_=>bt (P:=Q) (λ_=>h) λ_=>λr hr=>?_
   rcases Nn_ hr with q|q
   . exact h r q
   . rw[q];simpa using e
 kd:=λ{k n} h=>by
   unfold Ax_ lt
   let Q:I_×Int->Prop:=λr=>RoB r.1
   exact bt (P:=Q) (λ_=>h) λ_=>λr hr=>h r (X6_ hr)
 kp:=λ{k n m} _ h=>by
   unfold As_ lt
   let Q:I_×Int×Mail×Int->Prop:=λr=>RoB r.1
   refine bt (P:=Q) (λ_=>h) λ_=>bt (P:=Q) (λ_=>h) λ_=>bt (P:=Q) (λ_=>h) λ_=>?_
   refine lp2E (P:=Q) (λ_=>True) ?_ λx x1 _=>?_
   . exact bt (P:=LoP _ _) (λ_=>bt (P:=LoP _ _) (λ_=>h) λ_=>trivial) λ_=>trivial
   . exact bt (P:=Q) (λ_=>h) λ_=>bt (P:=Q) (λ_=>h) λ_=>λr hr=>Ss_ (k:=J_ k n) h r hr
 kl:=λ{k n} h=>by
   unfold Bc_ lt
   let Q:I_×D_×Bool->Prop:=λr=>RoB r.1
   exact zF
 kr:=λ{k n i} h=>by
   unfold U_ lt
   let Q:I_×D_×Int->Prop:=λr=>RoB r.1
   exact zF
 kb:=λ{k n i} h=>by
   unfold Bb_ lt
   let Q:I_×Int->Prop:=λr=>RoB r.1
   exact zF
 ks:=λ{k p m} h=>by
   unfold Au_ lt
   let Q:I_×Int->Prop:=λr=>RoB r.1
   exact zG
 kw:=λ{k} _ h=>rob_wake _ _ _ h
 na:=λ{n x} hk h=>by
   unfold Br_
   let Q:Bx_×Int->Prop:=λr=>NoB r.1
   refine bt (P:=Q) (λ_=>h) λe=>bt (P:=Q) (λ_=>h) λ_=>λy hy=>?_
   simp only[decide_eq_false_iff_not] at e
   rcases Nn_ (List.mem_of_mem_drop hy) with q|q
   . exact h y q
   . rw[q];exact⟨by omega,hk⟩
def StB (s:E_):Prop:=Cl BkB RoB NoB s
theorem newB (p:G_) (k:Int):StB (Cd_ p k):=⟨⟨(λ_ h=>by cases h),λ_ h=>by cases h⟩,(λ_ h=>by cases h),λ_ h=>by cases h⟩
theorem binds_eq0:∀ (l out:List R_),Cv_ l out=out++l
 |[],out=>by simp[Cv_]
 |x::t,out=>by unfold Cv_;rw[binds_eq0 t];simp
theorem Yr_ (b:Ac_):Gg_ b=b.binds:=by unfold Gg_;rw[binds_eq0];rfl
theorem rise_ok2 {s:I_} {k:Int} (h:StkOk s):RiOk (Ej_ s k):=by
 unfold Ej_;refine bt (P:=RiOk) (λ_=>riOk_nil) λe=>?_;simp only[Bool.or_eq_false_iff,decide_eq_false_iff_not] at e;exact h.2.1 _ pB
theorem shops_eq (b:Ac_):I8_ b=b.Ad_:=rfl
theorem O4_ {h:List Pair} (e:Du_ h=0):h.length<=8:=by
 unfold Du_ at e
 split at e
 . cases e
 omega
theorem bk_want {b:Ac_} (h:BkOk b) (k:BkB b):b.binds.length<=1000/\∀ y∈b.binds,y.want.length<=1000:=
 ⟨by have :=h.2.1;omega,λy hy=>by have :=O4_ (k.2 y hy).2.2.2.1;omega⟩
theorem nall_eq (n:Bx_):J0_ n=n.kept:=rfl
def I5_ (m:Mail):Int:=
 (bif !decide ((Eg_ m)=0) then
 0
 else ((Zw_ m).length:Int))
def Ix_:List D_->List D_->(List D_)
 |[],out=>out
 |x::t,out=>Ix_ t (out++[x])
def Ty_ (l:Aq_):(List D_):=
 lt (Gl_ l) λr=>
 Ix_ r []
def Vr_ (x:Aj_):Aj_:=
 lt (Hr_ x) λr=>
 (⟨(Mi_ x),r⟩:Aj_)
def Iy_:List C1_->Int->List C1_->Bx_
 |[],total,kept=>(⟨total,kept⟩:Bx_)
 |x::t,total,kept=>Iy_ t total (kept++[x])
def Rs_ (n:Bx_):Bx_:=
 lt (Ik_ n) λr=>
 lt (J0_ n) λr1=>
 Iy_ r1 r []
def Iw_:List R_->List Z_->List R_->Ac_
 |[],shops1,binds1=>(⟨shops1,binds1⟩:Ac_)
 |x::t,shops1,binds1=>Iw_ t shops1 (binds1++[x])
def Iv_ (b:Ac_):List Z_->List Z_->List R_->Ac_
 |[],Ad_,binds=>lt (Gg_ b) λr1=>
 Iw_ r1 Ad_ binds
 |x1::t1,Ad_,binds=>Iv_ b t1 (Ad_++[x1]) binds
def Qj_ (b:Ac_):Ac_:=
 lt (I8_ b) λr=>
 Iv_ b r [] []
theorem Si_ (m:Mail):0<=I5_ m/\I5_ m<=20000:=by
 unfold I5_;by_cases e:Eg_ m=0;rw[decide_eq_true e];simp only[Bool.not_true,cond_false];obtain⟨mk1,mk2,mk3,mk4,mk5⟩:=Ii_ e;have hs:=Sx_ mk3;have :=r9B_len hs;have :=hs.1;have :=O4_ mk3;have :(r9B m.head).length<=17000:=by omega
 simp only[Zw_,List.length_append,A1_,Op_];omega;rw[decide_eq_false e];simp
def E5_:List D_->Int->Int
 |[],n=>n
 |x::t,n=>lt (I5_ (x.O_)) λr=>
 E5_ t (n+r)
def M9_ (l:List D_):Int:=
 E5_ l 0
def E8_:List Mail->Int->Int
 |[],n=>n
 |x1::t,n=>lt (I5_ x1) λr=>
 E8_ t (n+r)
def Nb_ (x:Aj_):Int:=
 E8_ x.kept 0
def Jt_ (s:I_):Nat->Nat->Q_->Q_
 |0,_,_=>default
 | f2+1,v,x=>(bif decide ((v:Int)<16) then
 lt (Ej_ s (v:Int)) λr3=>
 lt (Vr_ r3) λr4=>
 Jt_ s f2 (v+1) (⟨x.next,x.most,x.rows,(A16.set x.rises r4 v)⟩:Q_)
 else x)
def F2_ (s:I_):List Ae_->List El_->Q_
 |[],rows=>Jt_ s (16-0+1) 0 (⟨(Fo_ s),((Ai_ s)+(B0_ s)),rows,(⟨(⟨0,[]⟩:Aj_),(⟨0,[]⟩:Aj_),(⟨0,[]⟩:Aj_),(⟨0,[]⟩:Aj_),(⟨0,[]⟩:Aj_),(⟨0,[]⟩:Aj_),(⟨0,[]⟩:Aj_),(⟨0,[]⟩:Aj_),(⟨0,[]⟩:Aj_),(⟨0,[]⟩:Aj_),(⟨0,[]⟩:Aj_),(⟨0,[]⟩:Aj_),(⟨0,[]⟩:Aj_),(⟨0,[]⟩:Aj_),(⟨0,[]⟩:Aj_),(⟨0,[]⟩:Aj_)⟩:A16_RiseR)⟩:Q_)
 |x1::t,rows=>lt (Dd_ s (x1.name)) λr1=>
 lt (Ty_ r1) λr2=>
 F2_ s t (rows++[(⟨x1,r2⟩:El_)])
def Jg_ (s:I_):Q_:=
 lt (Ds_ s) λr=>
 F2_ s r []
theorem r18size_b:∀ (l:List D_) (n:Int),n<=E5_ l n/\E5_ l n<=n+20000*l.length
 |[],n=>by simp[E5_]
 |x::t,n=>by
   unfold E5_ lt
   have h1:=r18size_b t (n+I5_ x.O_)
   have h2:=Si_ x.O_
   exact sT
theorem r18size_r (l:List D_):0<=M9_ l/\M9_ l<=20000*l.length:=by
 have :=r18size_b l 0;unfold M9_;omega
theorem r20size_b:∀ (l:List Mail) (n:Int),n<=E8_ l n/\E8_ l n<=n+20000*l.length
 |[],n=>by simp[E8_]
 |x::t,n=>by
   unfold E8_ lt
   have h1:=r20size_b t (n+I5_ x)
   have h2:=Si_ x
   exact sT
theorem r20size_r (x:Aj_):0<=Nb_ x/\Nb_ x<=20000*x.kept.length:=by
 have :=r20size_b x.kept 0;unfold Nb_;omega
def RkOk (s:Q_):Prop:=s.rows.length<=8/\(∀ r∈s.rows,r.l.length<=64/\r.q.name.length<=16/\r.q.dead.length<=16)/\∀ i,i<16->(s.rises.get i).kept.length<=16
def Kj_ (s:Q_):Nat->Int->Nat->Int
 |0,_,_=>default
 | f2+1,n1,v=>(bif decide ((v:Int)<16) then
 lt (Nb_ (A16.get s.rises v)) λr1=>
 Kj_ s f2 (n1+r1) (v+1)
 else n1)
def Ho_ (s:Q_):List El_->Int->Int
 |[],n=>Kj_ s (16-0+1) n 0
 |x::t,n=>lt (M9_ (x.l)) λr=>
 Ho_ s t (n+r)
def J3_ (s:Q_):Int:=
 Ho_ s s.rows 0
def Hv_ (x:Cb_):Nat->Nat->F_->F_
 |0,_,_=>default
 | f2+1,v,x1=>(bif decide ((v:Int)<8) then
 Hv_ x f2 (v+1) (⟨x1.p,x1.at_,x1.book,x1.C_,x1.notes,x1.seen,(A8.set x1.spent (A8.get x.spent v) v)⟩:F_)
 else x1)
def Jh_ (x:Cb_) (p:G_) (at_:Int):F_:=
 lt (Qj_ x.book) λr=>
 lt (Jg_ x.C_) λr1=>
 lt (Rs_ x.notes) λr2=>
 Hv_ x (8-0+1) 0 (⟨p,at_,r,r1,r2,x.seen,(⟨(⟨0,0⟩:Ba_),(⟨0,0⟩:Ba_),(⟨0,0⟩:Ba_),(⟨0,0⟩:Ba_),(⟨0,0⟩:Ba_),(⟨0,0⟩:Ba_),(⟨0,0⟩:Ba_),(⟨0,0⟩:Ba_)⟩:A8_SpentR)⟩:F_)
variable {r r':Bs}
end Go.SW.V
namespace Go.SW.V
open Go.SW
theorem Oq_ {z:Int} (h0:0<=z) (h1:z<=18446744073709551615):IntKind.wrap .u64 z=z:=Rg_ ⟨h0,h1⟩
def U64 (t:Int):Prop:=0<=t/\t<=18446744073709551615
structure Clw (T:Int->Prop) (W:Mail->Prop) (K:I_->Prop) (M:Bx_->Prop):Prop where
 kp:∀ {k n m},StkOk k->W m->K k->K (As_ k n m).1/\W (As_ k n m).2.2.1
 kl:∀ {k n},K k->K (Bc_ k n).1
 kr:∀ {k n i},K k->K (U_ k n i).1/\W (U_ k n i).2.1.O_
 kb:∀ {k n i},K k->K (Bb_ k n i).1
 ks:∀ {k p m},W m->K k->K (Au_ k p m).1
 kw:∀ {k},StkOk k->K k->K (Cs_ k)
 kt:∀ {k t},K k->W (Ah_ k t).2.1
 na:∀ {n x},T x.tick->0<=x.kind/\x.kind<=255->M n->M (Br_ n x).1
 wd:∀ {m t l},W m->W ⟨0,m.Ak_,m.key,m.head,m.body,Hz_ m.due t l,m.hops⟩
 wr:∀ {m},W m->W ⟨0,m.Ak_,m.key,m.head,m.body,m.due,m.hops⟩
 wb:∀ {m s},W m->W ⟨m.id,s,m.key,m.head,m.body,0,IntKind.wrap .u8 (m.hops+1)⟩
 wp:∀ {m},W m->W ⟨m.id,m.Ak_,m.key,m.head,m.body,m.due,IntKind.wrap .u8 (m.hops+1)⟩
def Sp (a:A8_SpentR):Prop:=∀ i,i<8->U64 (A8.get a i).round
theorem round_u {p:G_} {t:Int} (h:U64 t):U64 (Fn_ p t):=by
 unfold Fn_;obtain⟨h1,h2⟩:=h;have h3:0<=t/(p.slots.length:Int):=Int.ediv_nonneg h1 pB;have h4:t/(p.slots.length:Int)<=t:=Int.ediv_le_self _ h1;exact⟨h3,by omega⟩
theorem Sp.all {a:A8_SpentR} (h:Sp a) (k:Nat):U64 (A8.get a k).round:=by
 by_cases q:k<8;exact h k q;obtain⟨n,rfl⟩:∃ n,k=n+8:=⟨_,(Nat.sub_add_cancel pB).symm⟩;exact h 7 pC
theorem Sp.set {a:A8_SpentR} (h:Sp a) {x:Ba_} (hx:U64 x.round) (k:Nat):Sp (A8.set a x k):=by
 have key:∀ k,k<8->Sp (A8.set a x k):=λk hk i hi=>by
   rw[A8.get_set _ _ _ _ hk hi]
   by_cases q:i=k
   . rw[if_pos q];exact hx
   . rw[if_neg q];exact h i hi
 by_cases q:k<8;exact key k q;obtain⟨n,rfl⟩:∃ n,k=n+8:=⟨_,(Nat.sub_add_cancel pB).symm⟩;exact key 7 pC
def seenW (s:E_) (d:Aa_):E_:=⟨⟨s.x.book,s.x.C_,s.x.notes,A16.set s.x.seen d.number d.frm.toNat,s.x.spent⟩,s.L_,s.place⟩
structure Kw (T:Int->Prop) (K:I_->Prop) (M:Bx_->Prop) (s0 s:E_):Prop where
 po:s.L_=s0.L_
 pl:s.place=s0.place
 bo:s.x.book=s0.x.book
 k:K s.x.C_
 n:M s.x.notes
 se:s.x.seen=s0.x.seen
 sp:(∀ t,T t->U64 t)->Sp s0.x.spent->Sp s.x.spent
section
variable {T:Int->Prop} {W:Mail->Prop} {K:I_->Prop} {M:Bx_->Prop} (C:Clw T W K M) {s0 s:E_}
include C
omit C in
theorem Kw.C_ (h:Kw T K M s0 s) {k:I_} (hk:K k):Kw T K M s0 ⟨⟨s.x.book,k,s.x.notes,s.x.seen,s.x.spent⟩,s.L_,s.place⟩:=⟨h.po,h.pl,h.bo,hk,h.n,h.se,h.sp⟩
theorem Kw.note (h:Kw T K M s0 s) {t k:Int} {x:Bs} (ht:T t) (hk:0<=k/\k<=255):Kw T K M s0 (A0_ s t k x):=⟨h.po,h.pl,h.bo,h.k,C.na ht hk h.n,h.se,h.sp⟩
theorem Kw.spend (h:Kw T K M s0 s) {to' t:Int} (ht:T t):Kw T K M s0 (Ao_ s to' t).1:=by
 unfold Ao_ lt;let Q:E_×Int->Prop:=λr=>Kw T K M s0 r.1;refine bt (P:=Q) (λ_=>h) λ_=>?_;refine lt1E (P:=Q) (λx:Ba_=>(∀ t,T t->U64 t)->Sp s.x.spent->U64 x.round) ?_ λx hx=>bt (P:=Q) (λ_=>h) λ_=>⟨h.po,h.pl,h.bo,h.k,C.na ht ⟨(by decide :(0:Int)<=2),(by decide :(2:Int)<=255)⟩ h.n,h.se,λu q=>Sp.set (h.sp u q) (x:=⟨x.round,x.count+1⟩) (hx u (h.sp u q)) _⟩;exact bt (P:=λx:Ba_=>(∀ t,T t->U64 t)->Sp s.x.spent->U64 x.round) (λ_ u _=>round_u (u _ ht)) λ_ _ q=>q.all _
def GnW (T:Int->Prop) (W:Mail->Prop) (K:I_->Prop) (M:Bx_->Prop) (s0:E_) (r:E_×List Dv_×Int×Int):Prop:=Kw T K M s0 r.1/\∀ g∈r.2.1,W g.O_
section
variable {m:Mail} {tick:Int} {r:List Bs×List Bs×Int}
theorem send1_w {gone:List Dv_} (ht:T tick) (hm:W m) (hs:Kw T K M s0 s) (hg:∀ g∈gone,W g.O_):∀ (t:List Bs) (n:Int) (x:E_),Kw T K M s0 x->GnW T W K M s0 (A3_ s m tick r gone t n x)
 |[],n,x,hx=>⟨hx,hg⟩
 |q::t,n,x,hx=>by
   unfold A3_ lt
   have h0:∀ e,GnW T W K M s0 (s,[],0,e):=λe=>⟨hs,(λ_ h=>by cases h)⟩
   refine lp1E (P:=GnW T W K M s0) (Kw T K M s0) ?_ λy hy=>?_
   . refine bt (P:=LoP _ _) (λ_=>?_) λ_=>hx
     exact bt (P:=LoP _ _) (λ_=>h0 _) λ_=>Kw.spend C hx ht
   . exact bt (P:=GnW T W K M s0) (λ_=>h0 _) λ_=>send1_w ht hm hs hg t _ _ (hy.C_ (C.ks (C.wr hm) hy.k))
theorem send0_w (ht:T tick) (hm:W m) (hs:Kw T K M s0 s) (h0:0<=m.hops):∀ (t:List Bs) (gone:List Dv_) (n:Int) (x:E_),(∀ g∈gone,W g.O_)->StOk x->Kw T K M s0 x->GnW T W K M s0 (Aw_ s m tick r t gone n x)
 |[],gone,n,x,hg,_,hx=>by
   unfold Aw_
   exact send1_w C ht hm hs hg _ _ _ hx
 |q::t,gone,n,x,hg,ho,hx=>by
   unfold Aw_ lt
   refine bt (P:=GnW T W K M s0) (λ_=>send0_w ht hm hs h0 t _ _ x hg ho hx) λ_=>?_
   have hw:=C.wd (t:=tick) (l:=(Ag_ x.x.C_ q).1.life) hm
   generalize Hz_ m.due tick (Ag_ x.x.C_ q).1.life=due at hw ⊢
   have hp:=(Vf_ (s:=x.x.C_) (n:=q) (m:=⟨0,m.Ak_,m.key,m.head,m.body,due,m.hops⟩) ho.stk h0).1
   have hk:=C.kp (n:=q) (m:=⟨0,m.Ak_,m.key,m.head,m.body,due,m.hops⟩) ho.stk hw hx.k
   refine bt (P:=GnW T W K M s0) (λ_=>⟨hs,(λ_ h=>by cases h)⟩) λ_=>?_
   refine bt (P:=GnW T W K M s0) (λ_=>send0_w ht hm hs h0 t _ _ _ (λg q=>?_) (Ca_ ho hp) (hx.C_ hk.1)) λ_=>send0_w ht hm hs h0 t _ _ _ hg (Ca_ ho hp) (hx.C_ hk.1)
   rcases List.mem_append.1 q with q|q
   . exact hg g q
   . rw[List.mem_singleton.1 q];exact hk.2
theorem Yk_ (ht:T tick) (ho:StOk s) (hs:Kw T K M s0 s) (hm:W m) (h0:0<=m.hops):GnW T W K M s0 (P_ s m tick):=by
 unfold P_ lt;exact bt (P:=GnW T W K M s0) (λ_=>⟨hs,(λ_ h=>by cases h)⟩) λ_=>send0_w C ht hm hs h0 _ _ _ _ (λ_ h=>by cases h) ho hs
end
theorem Yv_ {tick:Int} (ht:T tick):∀ (f:Nat) (gone:List Dv_) (lost:Int) (x:E_),T5_ gone lost x->wtk x.x.C_+wto gone<f->(∀ g∈gone,W g.O_)->Kw T K M s0 x->Kw T K M s0 (Bk_ tick f gone lost x).1
 |0,_,_,_,_,h,_,_=>by omega
 |f+1,gone,lost,x,hI,hf,hg,hx=>by
   unfold Bk_ lt
   let Q:E_×Int->Prop:=λr=>Kw T K M s0 r.1
   refine bt (P:=Q) (λe=>?_) λ_=>hx
   have hn:0<gone.length:=by simpa using e
   have hd:∀ g∈gone.drop 1,W g.O_:=λg q=>hg g (List.mem_of_mem_drop q)
   refine bt (P:=Q) (λ_=>Yv_ ht f _ _ _ (Qm_ hI hn) (Ts_ hn hf) hd hx) λ_=>?_
   have hm:MlOk (gt gone 0).O_:=hI.2.1 _ (Go_ hn)
   refine bt (P:=Q) (λ_=>?_) λe4=>?_
   . have h:=Jy_ (s:=x) (t:=tick) (k:=1) (x:=(gt gone 0).queue) hI.1
     exact Yv_ ht f _ _ _ (S4_ hI h.1 h.2 hn) (Xo_ h.2 hn hf) hd (Kw.note C hx ht pC)
   . simp only[Bool.or_eq_false_iff,decide_eq_false_iff_not,Bool.not_eq_false',decide_eq_true_eq] at e4
     have hs:=Km_ (s:=x) (m:=⟨(H_ (gt gone 0).O_).id,(Ag_ x.x.C_ (gt gone 0).queue).1.dead,(H_ (gt gone 0).O_).key,(H_ (gt gone 0).O_).head,(H_ (gt gone 0).O_).body,0,IntKind.wrap .u8 ((H_ (gt gone 0).O_).hops+1)⟩) (tick:=tick) hI.1 (Mo_ _)
     have hw:=Yk_ C (tick:=tick) ht hI.1 hx (C.wb (m:=H_ (gt gone 0).O_) (s:=(Ag_ x.x.C_ (gt gone 0).queue).1.dead) (hg _ (Go_ hn))) (Mo_ _)
     refine Yv_ ht f _ _ _ (S5_ hI hs.1 hs.2.1 hn Y hm e4.1 hs.2.2 Y e4.2) (Uv_ hn hf Y hm e4.1 hs.2.2 Y e4.2) (λg q=>?_) hw.1
     rcases List.mem_append.1 (List.mem_of_mem_drop q) with q|q
     . exact hg g q
     . exact hw.2 g q
theorem bury_v {gone:List Dv_} {tick:Int} (ht:T tick) (h:StOk s) (hg:gone.length<=600/\∀ g∈gone,MlOk g.O_) (hw:∀ g∈gone,W g.O_) (hs:Kw T K M s0 s):Kw T K M s0 (A9_ s gone tick).1:=
 Yv_ C ht _ gone 0 s (buryI0 h hg) (Nat.lt_succ_self _) hw hs
section
variable {d:Aa_}
theorem settle_w (ht:T d.tick) (h:StOk s) (hs:Kw T K M s0 s):Kw T K M s0 (Bh_ s d).1:=by
 unfold Bh_ lt;let Q:E_×X_×Int->Prop:=λr=>Kw T K M s0 r.1;refine bt (P:=Q) (λ_=>hs) λ_=>?_;refine bt (P:=Q) (λ_=>hs.C_ (C.kb hs.k)) λ_=>?_;have hr:=H0_ (n:=d.name) (id:=d.id) h.stk;have hk:=C.kr (n:=d.name) (i:=d.id) hs.k;refine bt (P:=Q) (λ_=>bury_v C ht (Ca_ h hr.1) ⟨by simp,λg hg=>?_⟩ (λg hg=>?_) (hs.C_ hk.1)) λ_=>hs.C_ hk.1;rw[List.mem_singleton.1 hg];exact hr.2;rw[List.mem_singleton.1 hg];exact hk.2
theorem late_w0 {t:Int} (ht:T t):∀ (f:Nat) (gone:List Dv_) (x:E_),StOk x->(∀ g∈gone,MlOk g.O_)->(∀ g∈gone,W g.O_)->gone.length+nik x.x.C_<=512->nik x.x.C_<f->Kw T K M s0 x->Kw T K M s0 (Cq_ t f gone x).1
 |0,_,_,_,_,_,_,h,_=>by omega
 |f+1,gone,x,h,hg,hw,hl,hf,hs=>by
   unfold Cq_ lt
   let Q:E_×X_->Prop:=λr=>Kw T K M s0 r.1
   refine bt (P:=Q) (λ_=>bury_v C ht h ⟨by omega,hg⟩ hw hs) λe=>?_
   have e':(Ah_ x.x.C_ t).2.2=true:=by simpa using e
   have hr:=H0_ (n:=(Ah_ x.x.C_ t).1) (id:=(Ah_ x.x.C_ t).2.1.id) h.stk
   refine late_w0 ht f _ _ (Ca_ h hr.1) (λg q=>?_) (λg q=>?_) (Vv_ h.stk Y e' Y hl) (Vw_ h.stk Y e' Y hf) (hs.C_ (C.kr hs.k).1)
   . rcases List.mem_append.1 q with q|q
     . exact hg g q
     . rw[List.mem_singleton.1 q];exact Rp_ h.stk
   . rcases List.mem_append.1 q with q|q
     . exact hw g q
     . rw[List.mem_singleton.1 q];exact C.kt hs.k
theorem late_w {t:Int} (ht:T t) (h:StOk s) (hs:Kw T K M s0 s):Kw T K M s0 (Dz_ s t).1:=
 late_w0 C ht _ [] s h (λ_ h=>by cases h) (λ_ h=>by cases h) nR (Nat.lt_succ_self _) hs
theorem put_w (ht:T d.tick) (h:StOk s) (h0:0<=d.O_.hops) (hm:W d.O_) (hs:Kw T K M s0 s):Kw T K M s0 (Cr_ s d).1:=by
 unfold Cr_ lt;let Q:E_×X_×Int->Prop:=λr=>Kw T K M s0 r.1;have h1:=Km_ (s:=s) (m:=H_ d.O_) (tick:=d.tick) h h0;have hl:=Ls_ (s:=s) (m:=H_ d.O_) (tick:=d.tick) h;have hw:=Yk_ C (m:=H_ d.O_) (tick:=d.tick) ht h hs hm h0;exact bt (P:=Q) (λ_=>hs) λ_=>bury_v C ht h1.1 ⟨by omega,h1.2.1⟩ hw.2 hw.1
theorem lend_w (hs:Kw T K M s0 s):Kw T K M s0 (B6_ s d).1:=by
 unfold B6_ lt;let Q:E_×X_×Int->Prop:=λr=>Kw T K M s0 r.1;refine bt (P:=Q) (λ_=>hs) λ_=>?_;exact bt (P:=Q) (λ_=>hs) λ_=>hs.C_ (C.kl hs.k)
theorem pull_w (ht:T d.tick) (h:StOk s) (hm:W d.O_) (hs:Kw T K M s s):Kw T K M s (Bp_ s d).1\/Kw T K M (seenW s d) (Bp_ s d).1:=by
 unfold Bp_ lt;let Q:E_×X_×Int->Prop:=λr=>Kw T K M s r.1\/Kw T K M (seenW s d) r.1;refine bt (P:=Q) (λ_=> .inl hs) λ_=>bt (P:=Q) (λ_=> .inl hs) λ_=>bt (P:=Q) (λ_=> .inl hs) λ_=>?_;let I:E_->Prop:=λx=>StOk x/\Kw T K M (seenW s d) x;have h2:Kw T K M (seenW s d) (⟨(⟨s.x.book,s.x.C_,s.x.notes,(A16.set s.x.seen d.number ((d.frm).toNat)),s.x.spent⟩:Cb_),s.L_,s.place⟩:E_):=⟨rfl,rfl,rfl,hs.k,hs.n,rfl,λ_=>id⟩;refine lt1E (P:=Q) I ?_ λx hx=>?_;exact bt (P:=I) (λ_=>⟨(Jy_ (Dk_ h)).1,Kw.note C h2 ht pC⟩) λ_=>⟨Dk_ h,h2⟩;refine bt (P:=Q) (λ_=> .inr (Kw.note C hx.2 ht pC)) λ_=>?_;have h1:=Km_ (s:=x) (m:=⟨(H_ d.O_).id,(H_ d.O_).Ak_,(H_ d.O_).key,(H_ d.O_).head,(H_ d.O_).body,(H_ d.O_).due,IntKind.wrap .u8 ((H_ d.O_).hops+1)⟩) (tick:=d.tick) hx.1 (Mo_ _);have hl:=Ls_ (s:=x) (m:=⟨(H_ d.O_).id,(H_ d.O_).Ak_,(H_ d.O_).key,(H_ d.O_).head,(H_ d.O_).body,(H_ d.O_).due,IntKind.wrap .u8 ((H_ d.O_).hops+1)⟩) (tick:=d.tick) hx.1;have hw:=Yk_ C (tick:=d.tick) ht hx.1 hx.2 (C.wp (m:=H_ d.O_) hm) (Mo_ _);exact .inr (bury_v C ht h1.1 ⟨by omega,h1.2.1⟩ hw.2 hw.1)
theorem do_w (ht:T d.tick) (hc:0<=d.code/\d.code<=255) (h:StOk s) (h0:0<=d.O_.hops) (hm:W d.O_) (hs:Kw T K M s s):(Ap_ s d).1=s\/(Kw T K M s (Ap_ s d).1\/Kw T K M (seenW s d) (Ap_ s d).1)\/(Ap_ s d).1=(Bv_ s d).1\/(Ap_ s d).1=(Ay_ s d).1:=by
 unfold Ap_ lt;let Q:E_×X_×Int->Prop:=λr=>r.1=s\/(Kw T K M s r.1\/Kw T K M (seenW s d) r.1)\/r.1=(Bv_ s d).1\/r.1=(Ay_ s d).1;refine bt (P:=Q) (λe=> .inl Y) λ_=>?_;let I:Int×E_×X_->Prop:=λr=>(Kw T K M s r.2.1\/Kw T K M (seenW s d) r.2.1)\/r.2.1=(Bv_ s d).1\/r.2.1=(Ay_ s d).1;refine lt3E (P:=Q) I ?_ λa b c hb=>bt (P:=Q) (λe=> .inl Y) λe=> .inr hb;refine lt1E (P:=I) (λv:Bool=>True) Z λv hv=>?_;refine bt (P:=I) (λe=> .inr (.inl Y)) λ_=>bt (P:=I) (λe=> .inl (.inl (put_w C ht h h0 hm hs))) λ_=>bt (P:=I) (λe=> .inl (.inl (lend_w C hs))) λ_=>bt (P:=I) (λe=> .inl (.inl (settle_w C ht h hs))) λ_=>bt (P:=I) (λe=> .inl (.inl (late_w C ht h hs))) λ_=>bt (P:=I) (λe=> .inl (pull_w C ht h hm hs)) λ_=>?_;refine bt (P:=I) (λ_=> .inl (.inl (Kw.note C (s:=⟨⟨s.x.book,Cs_ s.x.C_,s.x.notes,s.x.seen,s.x.spent⟩,s.L_,s.place⟩) (hs.C_ (C.kw h.stk hs.k)) ht pC))) λ_=>bt (P:=I) (λ_=> .inl (.inl ⟨rfl,rfl,rfl,hs.k,C.na ht hc hs.n,rfl,λ_=>id⟩)) λ_=> .inr (.inr Y)
end
end
def ShB (s:E_) (d:Aa_) (b:Ac_):Prop:=b=s.x.book\/b=(Bu_ s.x.book d.Ak_).1\/b=(Cp_ s.x.book d.name).1\/b=(B4_ s.x.book d.bind).1\/b=(A7_ s.x.book d.bind).1
theorem shops_x (s:E_) (d:Aa_):∃ b,(Ay_ s d).1=⟨⟨b,s.x.C_,s.x.notes,s.x.seen,s.x.spent⟩,s.L_,s.place⟩/\ShB s d b:=by
 unfold Ay_ lt;let Q:E_×Int->Prop:=λr=>∃ b,r.1=⟨⟨b,s.x.C_,s.x.notes,s.x.seen,s.x.spent⟩,s.L_,s.place⟩/\ShB s d b;have hn:∀ {e},Q (s,e):=⟨_,rfl, .inl Y⟩;refine bt (P:=Q) (λ_=>?_) λ_=>?_;refine lp0E (P:=Q) (λ_=>True) ?_ λ_=>⟨_,rfl, .inr (.inl Y)⟩;refine bt (P:=LoP _ _) (λ_=>?_) λ_=>trivial;exact wO;refine bt (P:=Q) (λ_=>⟨_,rfl, .inr (.inr (.inl Y))⟩) λ_=>bt (P:=Q) (λ_=>⟨_,rfl, .inr (.inr (.inr (.inl Y)))⟩) λ_=>?_;refine lp0E (P:=Q) (λ_=>True) ?_ λ_=>⟨_,rfl, .inr (.inr (.inr (.inr Y)))⟩;refine lt1E (P:=LoP _ _) (λ_=>True) Z λv _=>?_;exact wO
theorem Z2_ (s:E_) (d:Aa_):∃ b k,(Bv_ s d).1=⟨⟨b,k,s.x.notes,s.x.seen,s.x.spent⟩,s.L_,s.place⟩/\(k=(A4_ s.x.C_ d.queue).1\/k=(Ax_ s.x.C_ d.name).1)/\(b=s.x.book\/b=Cm_ s.x.book d.name):=by
 unfold Bv_ lt;let Q:E_×Int->Prop:=λr=>∃ b k,r.1=⟨⟨b,k,s.x.notes,s.x.seen,s.x.spent⟩,s.L_,s.place⟩/\(k=(A4_ s.x.C_ d.queue).1\/k=(Ax_ s.x.C_ d.name).1)/\(b=s.x.book\/b=Cm_ s.x.book d.name);exact bt (P:=Q) (λ_=>⟨_,_,rfl, .inl Y, .inl Y⟩) λ_=>bt (P:=Q) (λ_=>⟨_,_,rfl, .inr Y, .inr Y⟩) λ_=>⟨_,_,rfl, .inr Y, .inl Y⟩
theorem cloBw:Clw (λ_=>True) (λ_=>True) RoB NoB where
 kp:=λhs _ h=>⟨cloB.kp hs h,trivial⟩
 kl:=cloB.kl
 kr:=λh=>⟨cloB.kr h,trivial⟩
 kb:=cloB.kb
 ks:=λ_ h=>cloB.ks h
 kw:=cloB.kw
 kt:=λ_=>trivial
 na:=λ_ hk h=>cloB.na hk h
 wd:=λh=>h
 wr:=λh=>h
 wb:=λ_=>trivial
 wp:=λ_=>trivial
theorem doB {s:E_} {d:Aa_} (hc:0<=d.code/\d.code<=255) (h:StOk s) (h0:0<=d.O_.hops) (hq:0<=d.Ak_.sort) (hw:∀ p∈d.bind.want,p.wf) (hs:StB s):StB (Ap_ s d).1:=by
 obtain⟨h1,h2,h3⟩:=hs;have key:∀ s0 t:E_,s0.x.book=s.x.book->Kw (λ_=>True) RoB NoB s0 t->StB t:=λs0 t e k=>⟨by rw[k.bo,e];exact h1,k.k,k.n⟩
 rcases do_w cloBw trivial hc h h0 trivial (⟨rfl,rfl,rfl,h2,h3,rfl,λ_=>id⟩:Kw (λ_=>True) RoB NoB s s) with e|(e|e)|e|e
 rw[e];exact⟨h1,h2,h3⟩;exact key _ _ Y e;exact key (seenW s d) _ Y e;obtain⟨b,k,e2,e3,e4⟩:=Z2_ s d;rw[e,e2];refine⟨?_,?_,h3⟩
 . show BkB b
   rcases e4 with rfl|rfl
   exact h1
   exact cloB.fg h1
 . show RoB k
   rcases e3 with rfl|rfl
   exact cloB.km h2
   exact cloB.kd h2
 . obtain⟨b,e2,e3⟩:=shops_x s d
   rw[e,e2]
   refine⟨?_,h2,h3⟩
   show BkB b
   rcases e3 with rfl|rfl|rfl|rfl|rfl
   exact h1
   exact cloB.ma hq h1
   exact cloB.dp h1
   exact cloB.ub h1
   exact cloB.bd hw h1
def Hb_ (a:D_) (b:D_):Bool:=
 (((decide (a.O_=b.O_))&&(a.Nm_==b.Nm_))&&(a.again==b.again))
def I1_ (a:X_) (b:X_):Bool:=
 (((Hb_ a.item b.item)&&(decide (a.count=b.count)))&&(decide (a.lost=b.lost)))
def Lv_ (r:X_):X_:=
 r
def Hf_ (name:Bs):List Bl_->Nat->Int
 |[],k=>(-1)
 | x::t,k=>(bif decide ((x.name)=name) then
 (k:Int)
 else Hf_ name t (k+1))
def I4_ (p:G_) (name:Bs):Int:=
 Hf_ name p.places 0
def J2_ (p:G_) (from_:Int) (to_:Int):Bool:=
 ((((((!decide (from_=to_))&&(decide (0<=from_)))&&(decide (from_<(p.places.length:Int))))&&(decide (0<=to_)))&&(decide (to_<(p.places.length:Int))))&&(L9_ ((gt p.places ((from_).toNat)).label) ((gt p.places ((to_).toNat)).label)))
def Fw_ (from_:Int) (to_:Int):List B1_->Nat->Int
 |[],k=>(-1)
 | x::t,k=>(bif ((decide ((x.frm)=from_))&&(decide ((x.to')=to_))) then
 (k:Int)
 else Fw_ from_ to_ t (k+1))
def Et_ (p:G_) (from_:Int) (to_:Int):Int:=
 Fw_ from_ to_ p.grants 0
def Ic_ (id:Int):List D_->Nat->Int
 |[],k=>(-1)
 | x::t,k=>(bif decide ((x.O_.id)=id) then
 (k:Int)
 else Ic_ id t (k+1))
def Lo_ (l:List D_) (id:Int):Int:=
 Ic_ id l 0
def Ha_:List D_->Mail×Bool
 |[]=>((⟨0,[],[],[],[],0,0⟩:Mail),false)
 | x::t=>(bif !(x.Nm_) then
 (x.O_,true)
 else Ha_ t)
def Mb_ (l:List D_):Mail×Bool:=
 Ha_ l
def E7_ (l:List D_) (x:D_):List D_->Int->(List D_)×Int
 | [],e_1=>(lt1 ((bif ((decide (e_1=0))&&(decide (64<=(l.length:Int)))) then
 12
 else e_1)) (λe_2=>
 (bif !decide (e_2=0) then
 (l,e_2)
 else ((l++[x]),0))))
 | x1::t,e_1=>(bif ((decide (e_1=0))&&(decide (x.O_.id<=(x1.O_.id)))) then
 E7_ l x t 13
 else E7_ l x t e_1)
def Pi_ (l:List D_) (x:D_):(List D_)×Int:=
 E7_ l x l (Eg_ x.O_)
def Hi_ (l:List D_) (m:Mail):(List D_)×Int:=
 lt (Pi_ l (⟨m,false,false⟩:D_)) λr=>
 (r.1,r.2)
def Dq_ (l:List D_) (r:Int):List D_->Nat->List D_->(List D_)×D_×Int
 |[],k,out=>(out,(gt l ((r).toNat)),0)
 | x::t,k,out=>(bif !decide ((k:Int)=r) then
 Dq_ l r t (k+1) (out++[x])
 else Dq_ l r t (k+1) out)
def G5_ (l:List D_) (id:Int):(List D_)×D_×Int:=
 lt (Lo_ l id) λr=>
 (bif decide (r<0) then
 (l,(⟨(⟨0,[],[],[],[],0,0⟩:Mail),false,false⟩:D_),10)
 else Dq_ l r l 0 [])
def Dr_ (k:Int) (x:D_):List D_->Nat->List D_->(List D_)
 |[],k1,out=>out
 | x1::t,k1,out=>(bif decide ((k1:Int)=k) then
 Dr_ k x t (k1+1) (out++[x])
 else Dr_ k x t (k1+1) (out++[x1]))
def G6_ (l:List D_) (k:Int) (x:D_):(List D_):=
 Dr_ k x l 0 []
def Gx_ (l:List D_):List D_->Nat->(List D_)×D_×Bool
 |[],k=>(l,(⟨(⟨0,[],[],[],[],0,0⟩:Mail),false,false⟩:D_),false)
 | x::t,k=>(bif !(x.Nm_) then
 lt (G6_ l (k:Int) (⟨x.O_,true,x.again⟩:D_)) λr=>
 (r,(⟨x.O_,true,x.again⟩:D_),true)
 else Gx_ l t (k+1))
def Kq_ (l:List D_):(List D_)×D_×Bool:=
 Gx_ l l 0
def Ln_ (l:List D_) (id:Int):(List D_)×Int:=
 lt (Lo_ l id) λr=>
 (bif decide (r<0) then
 (l,10)
 else (bif !((gt l ((r).toNat)).Nm_) then
 (l,13)
 else lt (G6_ l r (⟨(gt l ((r).toNat)).O_,false,true⟩:D_)) λr1=>
 (r1,0)))
def Id_ (tick:Int):List D_->Mail×Bool
 |[]=>((⟨0,[],[],[],[],0,0⟩:Mail),false)
 | x::t=>(bif (((!(x.Nm_))&&(decide (0<(x.O_.due))))&&(decide ((x.O_.due)<=tick))) then
 (x.O_,true)
 else Id_ tick t)
def M7_ (l:List D_) (tick:Int):Mail×Bool:=
 Id_ tick l
def E6_:List D_->List D_->(List D_)
 |[],out=>out
 |x::t,out=>E6_ t (out++[(⟨x.O_,false,((x.again)||(x.Nm_))⟩:D_)])
def Lp_ (l:List D_):(List D_):=
 E6_ l []
def Hj_ (b:List D_):List D_->Nat->Bool
 |[],k=>true
 | x::t,k=>(bif !(Hb_ x (gt b k)) then
 false
 else Hj_ b t (k+1))
def M8_ (a:List D_) (b:List D_):Bool:=
 (bif !decide ((a.length:Int)=(b.length:Int)) then
 false
 else Hj_ b a 0)
def Nr_ (n:Bx_) (x:C1_):Bx_×Int:=
 (bif decide (64<(x.text.length:Int)) then
 (n,5)
 else (bif decide (n.total=18446744073709551615) then
 (n,18)
 else (bif decide (32<((n.kept++[x]).length:Int)) then
 ((⟨(IntKind.wrap .u64 (n.total+1)),((n.kept++[x]).drop 1)⟩:Bx_),0)
 else ((⟨(IntKind.wrap .u64 (n.total+1)),(n.kept++[x])⟩:Bx_),0))))
def Hk_ (b:Bx_):List C1_->Nat->Bool
 |[],k=>true
 | x::t,k=>(bif !decide (x=(gt b.kept k)) then
 false
 else Hk_ b t (k+1))
def P3_ (a:Bx_) (b:Bx_):Bool:=
 (bif ((!decide (a.total=b.total))||(!decide ((a.kept.length:Int)=(b.kept.length:Int)))) then
 false
 else Hk_ b a.kept 0)
def Ir_ (x:Aj_) (m:Mail):Aj_×Int:=
 (lt1 ((bif ((decide ((Eg_ m)=0))&&(decide (x.total=18446744073709551615))) then
 18
 else (Eg_ m))) (λe_1=>
 (bif !decide (e_1=0) then
 (x,e_1)
 else (bif decide (16<((x.kept++[m]).length:Int)) then
 ((⟨(IntKind.wrap .u64 (x.total+1)),((x.kept++[m]).drop 1)⟩:Aj_),0)
 else ((⟨(IntKind.wrap .u64 (x.total+1)),(x.kept++[m])⟩:Aj_),0)))))
def Hl_ (b:Aj_):List Mail->Nat->Bool
 |[],k=>true
 | x::t,k=>(bif !(decide (x=(gt b.kept k))) then
 false
 else Hl_ b t (k+1))
def Na_ (a:Aj_) (b:Aj_):Bool:=
 (bif ((!decide (a.total=b.total))||(!decide ((a.kept.length:Int)=(b.kept.length:Int)))) then
 false
 else Hl_ b a.kept 0)
def Wx_ (base:Int) (bytes:Int):Q_:=
 (⟨base,(max bytes 0),[],(⟨(⟨0,[]⟩:Aj_),(⟨0,[]⟩:Aj_),(⟨0,[]⟩:Aj_),(⟨0,[]⟩:Aj_),(⟨0,[]⟩:Aj_),(⟨0,[]⟩:Aj_),(⟨0,[]⟩:Aj_),(⟨0,[]⟩:Aj_),(⟨0,[]⟩:Aj_),(⟨0,[]⟩:Aj_),(⟨0,[]⟩:Aj_),(⟨0,[]⟩:Aj_),(⟨0,[]⟩:Aj_),(⟨0,[]⟩:Aj_),(⟨0,[]⟩:Aj_),(⟨0,[]⟩:Aj_)⟩:A16_RiseR)⟩:Q_)
def N5_ (q:Ae_):Int:=
 (lt1 ((bif ((decide ((Cx_ q.name)=0))&&((decide (q.most<1))||(decide (64<q.most)))) then
 7
 else (Cx_ q.name))) (λe_1=>
 (bif ((decide (e_1=0))&&(!decide (q.dead=[]))) then
 (Cx_ q.dead)
 else e_1)))
def Hm_ (name:Bs):List El_->Nat->Int
 |[],k=>(-1)
 | x::t,k=>(bif decide ((x.q.name)=name) then
 (k:Int)
 else Hm_ name t (k+1))
def Ct_ (s:Q_) (name:Bs):Int:=
 Hm_ name s.rows 0
def Ne_ (s:Q_) (q:Ae_):Q_×Int:=
 lt (N5_ q) λr=>
 (bif !decide (r=0) then
 (s,r)
 else lt (Ct_ s q.name) λr1=>
 (bif ((decide (0<=r1))&&(decide ((gt s.rows ((r1).toNat)).q=q))) then
 (s,0)
 else (bif decide (0<=r1) then
 (s,9)
 else (bif decide (8<=(s.rows.length:Int)) then
 (s,12)
 else ((⟨s.next,s.most,(s.rows++[(⟨q,[]⟩:El_)]),s.rises⟩:Q_),0)))))
def F7_ (s:Q_) (name:Bs):List El_->List El_->Q_×Int
 |[],l=>((⟨s.next,s.most,l,s.rises⟩:Q_),0)
 | x::t,l=>(bif !decide ((x.q.name)=name) then
 F7_ s name t (l++[x])
 else F7_ s name t l)
def Nd_ (s:Q_) (name:Bs):Q_×Int:=
 lt (Ct_ s name) λr=>
 (bif decide (r<0) then
 (s,10)
 else F7_ s name s.rows [])
def D6_ (s:Q_) (k:Int) (l:List D_):List El_->Nat->List El_->Q_
 |[],k1,out=>(⟨s.next,s.most,out,s.rises⟩:Q_)
 | x::t,k1,out=>(bif decide ((k1:Int)=k) then
 D6_ s k l t (k1+1) (out++[(⟨x.q,l⟩:El_)])
 else D6_ s k l t (k1+1) (out++[x]))
def D2_ (s:Q_) (k:Int) (l:List D_):Q_:=
 D6_ s k l s.rows 0 []
def Mc_ (s:Q_) (name:Bs) (m:Mail):Q_×Int×Mail×Int:=
 lt (Ct_ s name) λr=>
 (lt1 ((bif decide (r<0) then
 10
 else 0)) (λe_1=>
 (lt1 ((bif decide (e_1=0) then
 (Eg_ m)
 else e_1)) (λe_2=>
 (lt1 ((bif ((decide (e_2=0))&&(decide (s.next = 0))) then
 18
 else e_2)) (λe_3=>
 (bif !decide (e_3=0) then
 (s,0,(⟨0,[],[],[],[],0,0⟩:Mail),e_3)
 else (lp2 ((bif decide (((gt s.rows ((r).toNat)).q.most)<=(((gt s.rows ((r).toNat)).l).length:Int)) then
 lt (Mb_ ((gt s.rows ((r).toNat)).l)) λr1=>
 (bif !r1.2 then
 .ret (s,0,(⟨0,[],[],[],[],0,0⟩:Mail),12)
 else lt (G5_ ((gt s.rows ((r).toNat)).l) r1.1.id) λr2=>
 .fin (r2.1,r1.1))
 else .fin ((gt s.rows ((r).toNat)).l,(⟨0,[],[],[],[],0,0⟩:Mail)))) (λl x=>
 lt (Hi_ l (⟨s.next,m.Ak_,m.key,m.head,m.body,m.due,m.hops⟩:Mail)) λr3=>
 lt (D2_ s r r3.1) λr4=>
 (lt1 ((bif decide (s.most<(J3_ (⟨(IntKind.wrap .u64 (s.next + 1)),r4.most,r4.rows,r4.rises⟩:Q_))) then
 12
 else r3.2)) (λe_4=>
 (bif !decide (e_4=0) then
 (s,0,(⟨0,[],[],[],[],0,0⟩:Mail),e_4)
 else ((⟨(IntKind.wrap .u64 (s.next + 1)),r4.most,r4.rows,r4.rises⟩:Q_),s.next,x,0))))) (λr=>r)))))))))
def Lq_ (s:Q_) (name:Bs):Q_×D_×Bool:=
 lt (Ct_ s name) λr=>
 (bif decide (r<0) then
 (s,(⟨(⟨0,[],[],[],[],0,0⟩:Mail),false,false⟩:D_),false)
 else lt (Kq_ ((gt s.rows ((r).toNat)).l)) λr1=>
 lt (D2_ s r r1.1) λr2=>
 (r2,r1.2.1,r1.2.2))
def Nc_ (s:Q_) (name:Bs) (id:Int):Q_×Int:=
 lt (Ct_ s name) λr=>
 (bif decide (r<0) then
 (s,10)
 else lt (Ln_ ((gt s.rows ((r).toNat)).l) id) λr1=>
 lt (D2_ s r r1.1) λr2=>
 (r2,r1.2))
def Em_ (s:Q_) (name:Bs) (id:Int):Q_×D_×Int:=
 lt (Ct_ s name) λr=>
 (bif decide (r<0) then
 (s,(⟨(⟨0,[],[],[],[],0,0⟩:Mail),false,false⟩:D_),10)
 else lt (G5_ ((gt s.rows ((r).toNat)).l) id) λr1=>
 lt (D2_ s r r1.1) λr2=>
 (r2,r1.2.1,r1.2.2))
def Hy_ (s:Q_) (place:Int) (m:Mail):Q_×Int:=
 (bif ((decide (place<0))||(decide (15<place))) then
 (s,7)
 else lt (Ir_ (A16.get s.rises ((place).toNat)) m) λr=>
 (bif !decide (r.2=0) then
 (s,r.2)
 else (bif decide (s.most<(J3_ (⟨s.next,s.most,s.rows,(A16.set s.rises (r.1) ((place).toNat))⟩:Q_))) then
 (s,12)
 else ((⟨s.next,s.most,s.rows,(A16.set s.rises (r.1) ((place).toNat))⟩:Q_),0))))
def Hn_ (tick:Int):List El_->Bs×Mail×Bool
 |[]=>([],(⟨0,[],[],[],[],0,0⟩:Mail),false)
 |x::t=>lt (M7_ (x.l) tick) λr=>
 (bif r.2 then
 (x.q.name,r.1,true)
 else Hn_ tick t)
def I6_ (s:Q_) (tick:Int):Bs×Mail×Bool:=
 Hn_ tick s.rows
def Hp_:List El_->Nat->Q_->Q_
 |[],k,x=>x
 |x1::t,k,x=>lt (Lp_ ((gt x.rows k).l)) λr=>
 lt (D2_ x (k:Int) r) λr1=>
 Hp_ t (k+1) r1
def Ol_ (s:Q_):Q_:=
 Hp_ s.rows 0 s
def Md_ (a:Q_) (b:Q_):Nat->Nat->Bool
 |0,_=>default
 | f2+1,v=>(bif decide ((v:Int)<16) then
 (bif !(Na_ (A16.get a.rises v) (A16.get b.rises v)) then
 false
 else Md_ a b f2 (v+1))
 else true)
def F8_ (a:Q_) (b:Q_):List El_->Nat->Bool
 |[],k=>Md_ a b (16-0+1) 0
 | x::t,k=>(bif ((!decide (x.q=(gt b.rows k).q))||(!(M8_ (x.l) ((gt b.rows k).l)))) then
 false
 else F8_ a b t (k+1))
def P4_ (a:Q_) (b:Q_):Bool:=
 (bif (((!decide (a.next = b.next))||(!decide (a.most=b.most)))||(!decide ((a.rows.length:Int)=(b.rows.length:Int)))) then
 false
 else F8_ a b a.rows 0)
theorem U4_ {α β:Type} [Inhabited α] (p:α->Bool) (z:β) (a:α->Nat->β) (F:List α->Nat->β) (h0:∀ k,F [] k=z) (h1:∀ x t k,F (x::t) k = bif p x then a x k else F t (k+1)):∀ (l:List α) (k:Nat),F l k = bif decide (idxF p k l<0) then z else a (gt l (idxF p k l-k).toNat) (idxF p k l).toNat
 |[],k=>by rw[h0];rfl
 |x::t,k=>by
   rw[h1,idxF]
   cases e:p x with
   |true=>
     have e1:decide ((k:Int)<0)=false:=decide_eq_false pB
     rw[cond_true,if_pos rfl,e1,cond_false]
     have e2:((k:Int)-k).toNat=0:=by omega
     rw[e2,Int.toNat_natCast];rfl
   |false=>
     rw[cond_false,if_neg pC,U4_ p z a F h0 h1 t (k+1)]
     have hb:=idxF_b p t (k+1)
     by_cases q:idxF p (k+1) t<0
     . exact tZ
     . rw[decide_eq_false q,cond_false,cond_false]
       have e3:(idxF p (k+1) t-k).toNat=(idxF p (k+1) t-((k+1:Nat):Int)).toNat+1:=by omega
       rw[e3];rfl
theorem Qi_ {α:Type} [Inhabited α] (p:α->Bool) (F:List α->Nat->Int) (h0:∀ k,F [] k = -1) (h1:∀ x t k,F (x::t) k = bif p x then (k:Int) else F t (k+1)):∀ (l:List α) (k:Nat),F l k=idxF p k l
 |[],k=>by rw[h0];rfl
 |x::t,k=>by
   rw[h1,idxF,Qi_ p F h0 h1 t (k+1)]
   cases p x<;>rfl
theorem idxF_0 {α:Type} (p:α->Bool) (l:List α):idxF p 0 l=idxP p l:=rfl
theorem first_one {α β:Type} [Inhabited α] (p:α->Bool) (z:β) (a:α->β) (F:List α->β) (h0:F []=z) (h1:∀ x t,F (x::t) = bif p x then a x else F t) (l:List α):F l = bif decide (idxP p l<0) then z else a (gt l (idxP p l).toNat):=by
 have :=U4_ p z (λx _=>a x) (λl _=>F l) (λ_=>h0) (λx t _=>h1 x t) l 0;rw[this,idxF_0];simp
theorem Yw_ (x:D_):B8_ x=x:=rfl
theorem r18find (l:List D_) (id:Int):Lo_ l id=A2_ ⟨l⟩ id:=Qi_ (λz=>Oe_ z id) (Ic_ id) (λ_=>rfl) (λ_ _ _=>rfl) l 0
theorem r18find_b (l:List D_) (id:Int):-1<=Lo_ l id/\Lo_ l id<l.length:=by
 rw[r18find];exact lof_b ⟨l⟩ id
theorem r05find_b (p:G_) (n:Bs):-1<=I4_ p n/\I4_ p n<p.places.length:=by
 have :I4_ p n=idxP (λx:Bl_=>decide (x.name=n)) p.places:=Qi_ _ (Hf_ n) (λ_=>rfl) (λ_ _ _=>rfl) p.places 0;rw[this];exact Io_ _ _
theorem r05grants_b (p:G_) (a b:Int):-1<=Et_ p a b/\Et_ p a b<p.grants.length:=by
 have :Et_ p a b=idxP (λx:B1_=>(decide (x.frm=a))&&(decide (x.to'=b))) p.grants:=Qi_ _ (Fw_ a b) (λ_=>rfl) (λ_ _ _=>rfl) p.grants 0;rw[this];exact Io_ _ _
theorem Rd_ (k:Int) (x:D_):∀ (t:List D_) (i:Nat) (out:List D_),(Dr_ k x t i out).length=out.length+t.length
 |[],i,out=>by rw[Dr_];simp
 |y::t,i,out=>by
   rw[Dr_]
   have h1:=Rd_ k x t (i+1) (out++[x])
   have h2:=Rd_ k x t (i+1) (out++[y])
   simp only[List.length_append,List.length_cons,List.length_nil] at h1 h2 ⊢
   cases decide ((i:Int)=k)
   . rw[cond_false,h2];omega
   . rw[cond_true,h1];omega
theorem Yo_ (l:List D_) (k:Int) (x:D_):(G6_ l k x).length=l.length:=by
 unfold G6_;rw[Rd_];simp
theorem r18lend_len (l:List D_):(Kq_ l).1.length=l.length:=by
 unfold Kq_;have :∀ (t:List D_) (i:Nat),(Gx_ l t i).1.length=l.length:=by
   intro t
   induction t with
   |nil=>intro i;rfl
   |cons y t ih=>
     intro i
     unfold Gx_ lt
     let Q:List D_×D_×Bool->Prop:=λr=>r.1.length=l.length
     exact bt (P:=Q) (λ_=>Yo_ l _ _) λ_=>ih _
 exact this l 0
theorem r18back_len (l:List D_) (id:Int):(Ln_ l id).1.length=l.length:=by
 unfold Ln_ lt;let Q:List D_×Int->Prop:=λr=>r.1.length=l.length;exact bt (P:=Q) (λ_=>rfl) λ_=>bt (P:=Q) (λ_=>rfl) λ_=>Yo_ l _ _
theorem Z9_ (l:List D_) (r:Int):∀ (t:List D_) (i:Nat) (out:List D_),(Dq_ l r t i out).1.length<=out.length+t.length
 |[],i,out=>by rw[Dq_];simp
 |y::t,i,out=>by
   rw[Dq_]
   let Q:List D_×D_×Int->Prop:=λz=>z.1.length<=out.length+(y::t).length
   refine bt (P:=Q) (λ_=>?_) λ_=>?_
   . have :=Z9_ l r t (i+1) (out++[y])
     simp only[List.length_append,List.length_cons,List.length_nil] at this
     show _<=out.length+(y::t).length
     exact sT
   . have :=Z9_ l r t (i+1) out
     show _<=out.length+(y::t).length
     exact sT
theorem Ye_ (l:List D_) (id:Int):(G5_ l id).1.length<=l.length:=by
 unfold G5_ lt;let Q:List D_×D_×Int->Prop:=λr=>r.1.length<=l.length;refine bt (P:=Q) (λ_=>Nat.le_refl _) λ_=>?_;have :=Z9_ l (Lo_ l id) l 0 [];exact rC
theorem Wt_ (l:List D_):(Lp_ l).length=l.length:=by
 unfold Lp_;have :∀ (t out:List D_),(E6_ t out).length=out.length+t.length:=by
   intro t
   induction t with
   |nil=>intro out;rw[E6_];simp
   |cons y t ih=>intro out;rw[E6_,ih];simp;omega
 rw[this];simp
theorem r18add_len {l:List D_} {m:Mail} (h:l.length<=64):(Hi_ l m).1.length<=64:=by
 unfold Hi_ Pi_ lt;have :∀ (t:List D_) (e:Int) (x:D_),(E7_ l x t e).1.length<=64:=by
   intro t
   induction t with
   |nil=>
     intro e x
     unfold E7_ lt1
     let Q:List D_×Int->Prop:=λr=>r.1.length<=64
     refine bt (P:=Q) (λ_=>h) λc=>?_
     show (l++[x]).length<=64
     rw[List.length_append,List.length_singleton]
     have hc:(bif ((decide (e=0))&&(decide (64<=(l.length:Int)))) then (12:Int) else e)=0:=by simpa using c
     by_cases q:64<=(l.length:Int)
     . exfalso
       rw[decide_eq_true q] at hc
       by_cases q2:e=0
       . rw[decide_eq_true q2] at hc;cases hc
       . rw[decide_eq_false q2] at hc;exact q2 hc
     . omega
   |cons y t ih=>
     intro e x
     unfold E7_
     let Q:List D_×Int->Prop:=λr=>r.1.length<=64
     exact bt (P:=Q) (λ_=>ih _ _) λ_=>ih _ _
 exact this _ _ _
theorem told_eq2 (l:Aq_) (k:Int):Cf_ l k = bif decide (k<0) then (⟨0,[],[],[],[],0,0⟩,false) else ((gt l.items k.toNat).O_,true):=rfl
theorem r18first (l:List D_):Mb_ l=Ar_ ⟨l⟩:=by
 have h:=first_one (λx:D_=>!x.Nm_) ((⟨0,[],[],[],[],0,0⟩:Mail),false) (λx=>(x.O_,true)) Ha_ Y (λ_ _=>rfl) l;unfold Mb_ Ar_ lt;dsimp only;rw[h,told_eq2];have e:Bq_ ⟨l⟩=idxP (λx:D_=>!x.Nm_) l:=by
   unfold Bq_
   congr 1
   funext x
   simp[G1_,Rz_]
 rw[e]
theorem r18late (l:List D_) (t:Int) (h:∀ x∈l,0<=x.O_.due):M7_ l t=Dh_ ⟨l⟩ t:=by
 have h2:=first_one (λx:D_=>(((!(x.Nm_))&&(decide (0<(x.O_.due))))&&(decide ((x.O_.due)<=t)))) ((⟨0,[],[],[],[],0,0⟩:Mail),false) (λx=>(x.O_,true)) (Id_ t) Y (λ_ _=>rfl) l;unfold M7_ Dh_ lt;dsimp only;rw[h2,told_eq2];have e:Ed_ ⟨l⟩ t=idxP (λx:D_=>(((!(x.Nm_))&&(decide (0<(x.O_.due))))&&(decide ((x.O_.due)<=t)))) l:=by
   unfold Ed_ idxP
   have :∀ (l:List D_) (k:Nat),(∀ x∈l,0<=x.O_.due)->idxF (λz_4:D_=>Fi_ z_4 t) k l=idxF (λx:D_=>(((!(x.Nm_))&&(decide (0<(x.O_.due))))&&(decide ((x.O_.due)<=t)))) k l:=by
     intro l
     induction l with
     |nil=>intro k _;rfl
     |cons x r ih=>
       intro k hx
       rw[idxF,idxF,ih (k+1) (λy hy=>hx y (by simp[hy]))]
       have h0:=hx x pF
       have e1:Fi_ x t=(((!(x.Nm_))&&(decide (0<(x.O_.due))))&&(decide ((x.O_.due)<=t))):=by
         unfold Fi_ Pw_
         have :(!decide (x.O_.due=0)) = decide (0<x.O_.due):=by
           by_cases q:x.O_.due=0
           . rw[decide_eq_true q,decide_eq_false pB];rfl
           . rw[decide_eq_false q,decide_eq_true pB];rfl
         rw[this,Bool.and_assoc]
       rw[e1]
   exact this l 0 h
 rw[e]
theorem turned0 (n:Nat) (x:D_):∀ (t:List D_) (k:Nat) (out:List D_),Dr_ (n:Int) x t k out=out++(if k<=n then t.set (n-k) x else t)
 |[],k,out=>by rw[Dr_];simp
 |y::t,k,out=>by
   rw[Dr_,turned0 n x t (k+1),turned0 n x t (k+1)]
   by_cases q:(k:Int)=n
   . rw[decide_eq_true q,cond_true,if_neg pB,if_pos pB]
     have :n-k=0:=by omega
     rw[this];simp
   . rw[decide_eq_false q,cond_false]
     by_cases q2:k<=n
     . exact sJ
     . exact sI
theorem turned_eq (l:List D_) (n:Nat) (x:D_):G6_ l (n:Int) x=l.set n x:=by
 unfold G6_;rw[turned0];simp
theorem r18lend (l:List D_):Kq_ l=((Ce_ ⟨l⟩).1.items,(Ce_ ⟨l⟩).2):=by
 have h:=U4_ (λx:D_=>!x.Nm_) ((l,((⟨⟨0,[],[],[],[],0,0⟩,false,false⟩:D_),false)):List D_×D_×Bool) (λx k=>(G6_ l (k:Int) ⟨x.O_,true,x.again⟩,(⟨x.O_,true,x.again⟩:D_),true)) (Gx_ l) (λ_=>rfl) (λ_ _ _=>rfl) l 0;unfold Kq_;rw[h,idxF_0];have e:Bq_ ⟨l⟩=idxP (λx:D_=>!x.Nm_) l:=by
   unfold Bq_
   congr 1
   funext x
   simp[G1_,Rz_]
 have hb:=Io_ (λx:D_=>!x.Nm_) l;unfold Ce_ lt;dsimp only;rw[e];by_cases q:idxP (λx:D_=>!x.Nm_) l<0;exact tZ;rw[decide_eq_false q];dsimp only[cond_false];obtain⟨n,hn⟩:∃ n:Nat,idxP (λx:D_=>!x.Nm_) l=n:=⟨_,(Int.toNat_of_nonneg pB).symm⟩;rw[hn] at hb ⊢;have e2:((n:Int)-(0:Nat)).toNat=n:=by omega
 rw[e2,Int.toNat_natCast,turned_eq,Yw_,Xv_ pB]
theorem r18back (l:List D_) (id:Int):Ln_ l id=((Cu_ ⟨l⟩ id).1.items,(Cu_ ⟨l⟩ id).2):=by
 unfold Ln_ Cu_ lt;dsimp only;rw[r18find];have hb:=lof_b ⟨l⟩ id;by_cases q:A2_ ⟨l⟩ id<0;exact tZ
 . rw[decide_eq_false q]
   obtain⟨n,hn⟩:∃ n:Nat,A2_ ⟨l⟩ id=n:=⟨_,(Int.toNat_of_nonneg pB).symm⟩
   rw[hn] at hb ⊢
   dsimp only[cond_false]
   rw[Int.toNat_natCast]
   cases (gt l n).Nm_ with
   |false=>rfl
   |true=>
     rw[turned_eq,Xv_ (by have :=hb.2;simp at this;omega)]
     simp
theorem remove0 (l:List D_) (n:Nat):∀ (t:List D_) (k:Nat) (out:List D_),Dq_ l (n:Int) t k out=(out++(if k<=n then t.take (n-k)++t.drop (n-k+1) else t),gt l n,0)
 |[],k,out=>by rw[Dq_];simp
 |y::t,k,out=>by
   rw[Dq_,remove0 l n t (k+1),remove0 l n t (k+1)]
   by_cases q:(k:Int)=n
   . rw[decide_eq_true q,Bool.not_true,cond_false,if_neg pB,if_pos pB]
     have :n-k=0:=by omega
     rw[this];simp
   . rw[decide_eq_false q,Bool.not_false,cond_true]
     by_cases q2:k<=n
     . exact sJ
     . exact sI
theorem r18remove (l:List D_) (id:Int):G5_ l id=((Af_ ⟨l⟩ id).1.items,(Af_ ⟨l⟩ id).2):=by
 unfold G5_ Af_ lt;dsimp only;rw[r18find];have hb:=lof_b ⟨l⟩ id;by_cases q:A2_ ⟨l⟩ id<0;exact tZ;rw[decide_eq_false q];obtain⟨n,hn⟩:∃ n:Nat,A2_ ⟨l⟩ id=n:=⟨_,(Int.toNat_of_nonneg pB).symm⟩;rw[hn] at hb ⊢;dsimp only[cond_false];have e1:((n:Int)+1).toNat=n+1:=by omega
 rw[remove0,Yw_,Int.toNat_natCast,e1];simp
theorem wake0 (out:List D_):∀ (l:List D_),E6_ l out=out++l.map λx=>(⟨x.O_,false,x.again||x.Nm_⟩:D_)
 |[]=>by rw[E6_];simp
 |x::t=>by rw[E6_,wake0];simp
theorem lwake0:∀ (t:List D_) (k:Nat) (x:Aq_),x.items.drop k=t->(Bn_ t k x).items=x.items.take k++t.map λx=>(⟨x.O_,false,x.again||x.Nm_⟩:D_)
 |[],k,x,h=>by
   rw[Bn_]
   have :x.items.length<=k:=List.drop_eq_nil_iff.1 h
   rw[List.take_of_length_le this];simp
 |y::t,k,x,h=>by
   have hk:k<x.items.length:=by
     rcases Nat.lt_or_ge k x.items.length with q|q
     . exact q
     . rw[List.drop_eq_nil_iff.2 q] at h;cases h
   have hd:=List.drop_eq_getElem_cons hk
   rw[hd] at h
   obtain⟨h1,h2⟩:=List.cons.inj h
   have hg:gt x.items k=y:=by simp[gt,hk,h1]
   rw[Bn_]
   cases e:y.Nm_ with
   |true=>
     dsimp only[cond_true]
     rw[Xv_ hk,hg,List.set_set]
     have :=lwake0 t (k+1) ⟨x.items.set k ⟨y.O_,false,true⟩⟩ (by
       show (x.items.set k _).drop (k+1)=t
       rw[List.drop_set_of_lt pB];exact h2)
     rw[this]
     show (x.items.set k _).take (k+1)++_=_
     have e3:(x.items.set k (⟨y.O_,false,true⟩:D_)).take (k+1)=x.items.take k++[⟨y.O_,false,true⟩]:=by
       rw[List.take_succ_eq_append_getElem (by simpa using hk),List.take_set_of_le (Nat.le_refl k)]
       simp
     rw[e3,List.map_cons,e]
     simp
   |false=>
     dsimp only[cond_false]
     rw[lwake0 t (k+1) x h2,List.take_succ_eq_append_getElem hk,h1,List.map_cons,e]
     simp only[List.append_assoc,List.cons_append,List.nil_append,Bool.or_false]
     congr 2
     cases y;simp at e;simp[e]
theorem r18wake (l:List D_):Lp_ l=(Di_ ⟨l⟩).items:=by
 unfold Lp_ Di_;rw[wake0,lwake0 l 0 ⟨l⟩ pF];simp
theorem put0 (l:List D_) (x:D_):∀ (t:List D_) (e:Int),E7_ l x t e=E7_ l x [] (bif decide (e=0)&&t.any (λy=>decide (x.O_.id<=y.O_.id)) then 13 else e)
 |[],e=>by simp
 |y::t,e=>by
   conv=>lhs;unfold E7_
   by_cases q:e=0
   . subst q
     by_cases q2:x.O_.id<=y.O_.id
     . rw[decide_eq_true q2,decide_eq_true rfl,Bool.and_true,cond_true,put0 l x t 13]
       simp[q2]
     . rw[decide_eq_false q2,Bool.and_false,cond_false,put0 l x t 0]
       simp[q2]
   . rw[decide_eq_false q,Bool.false_and,Bool.false_and,cond_false,put0 l x t e,decide_eq_false q]
     simp
theorem r18put {l:List D_} {x:D_} (h:Qh_ l):Pi_ l x=((C7_ ⟨l⟩ x).1.items,(C7_ ⟨l⟩ x).2):=by
 unfold Pi_;rw[put0];unfold E7_ lt1 C7_ lt Ec_;dsimp only;by_cases q:Eg_ x.O_=0
 . have hany:l.any (λy=>decide (x.O_.id<=y.O_.id))=((decide (0<(l.length:Int)))&&(decide (x.O_.id<=((gt l ((((l.length:Int)-1)).toNat)).O_.id)))):=by
     by_cases q2:0<l.length
     . have hl:l.length-1<l.length:=by omega
       have e1:((l.length:Int)-1).toNat=l.length-1:=by omega
       rw[e1,decide_eq_true (show (0:Int)<l.length by omega),Bool.true_and]
       by_cases q3:x.O_.id<=(gt l (l.length-1)).O_.id
       . rw[decide_eq_true q3,List.any_eq_true]
         exact⟨_,Go_ hl,by simpa using q3⟩
       . rw[decide_eq_false q3,List.any_eq_false]
         intro y hy
         obtain⟨i,hi⟩:=List.getElem?_of_mem hy
         have hil:i<l.length:=by
           obtain⟨a,_⟩:=List.getElem?_eq_some_iff.1 hi;exact a
         have hle:y.O_.id<=(gt l (l.length-1)).O_.id:=by
           by_cases q4:i=l.length-1
           . subst q4
             have :=getG (xs:=l) (k:=l.length-1) hl
             rw[hi] at this
             have :=Option.some.inj this
             rw[this];exact Int.le_refl _
           . have :=Sr_ h hi (getG hl) pB;omega
         simp only[decide_eq_true_eq];omega
     . have :l=[]:=by cases l with|nil=>rfl|cons a b=>simp at q2
       subst this;rfl
   rw[hany]
   rw[decide_eq_true q,q,Yw_]
   simp only[decide_true,Bool.true_and,Bool.not_true,cond_false]
   cases ((decide (0<(l.length:Int)))&&(decide (x.O_.id<=((gt l ((((l.length:Int)-1)).toNat)).O_.id)))) with
   |true=>simp
   |false=>
     simp only[cond_false,decide_true,Bool.true_and]
     cases decide (64<=(l.length:Int)) with
     |true=>simp
     |false=>simp
 rw[decide_eq_false q];simp[q]
theorem r18add {l:List D_} {m:Mail} (h:Qh_ l):Hi_ l m=((At_ ⟨l⟩ m).1.items,(At_ ⟨l⟩ m).2):=by
 unfold Hi_ At_ lt;dsimp only;rw[r18put h]
theorem r20put {x:Aj_} {m:Mail} (h:x.kept.length<=16):Ir_ x m=Bg_ x m:=by
 unfold Ir_ Bg_ lt lt1;dsimp only;by_cases q:Eg_ m=0;rw[q];simp only[decide_true,Bool.true_and,Bool.not_true,cond_false];by_cases q2:x.total=18446744073709551615;rw[decide_eq_true q2];simp;rw[decide_eq_false q2];simp only[cond_false,decide_true,Bool.not_true];have e1:([x.kept,[H_ m]].flatten)=x.kept++[m]:=by simp[H_]
 rw[e1];by_cases q3:(16:Int)<((x.kept++[m]).length:Int);rw[decide_eq_true q3,cond_true];have :(max 0 (((x.kept++[m]).length:Int)-16)).toNat=1:=by simp at q3 ⊢;omega
 rw[this];rw[decide_eq_false q3,cond_false];have :(max 0 (((x.kept++[m]).length:Int)-16)).toNat=0:=by simp at q3 ⊢;omega
 rw[this];simp;rw[decide_eq_false q];simp[q]
theorem r19add {n:Bx_} {x:C1_} (h:n.kept.length<=32):Nr_ n x=Br_ n x:=by
 unfold Nr_ Br_;have e1:([n.kept,[x]].flatten)=n.kept++[x]:=by simp
 rw[e1]
 cases decide (64<(x.text.length:Int)) with
 |true=>rfl
 |false=>
   cases decide (n.total=18446744073709551615) with
   |true=>rfl
   |false=>
     simp only[cond_false]
     by_cases q3:(32:Int)<((n.kept++[x]).length:Int)
     . rw[decide_eq_true q3,cond_true]
       have :(max 0 (((n.kept++[x]).length:Int)-32)).toNat=1:=by simp at q3 ⊢;omega
       rw[this]
     . rw[decide_eq_false q3,cond_false]
       have :(max 0 (((n.kept++[x]).length:Int)-32)).toNat=0:=by simp at q3 ⊢;omega
       rw[this];simp
theorem all_eq0:∀ (l out:List D_),C0_ l out=out++l
 |[],out=>by simp[C0_]
 |x::t,out=>by unfold C0_ lt;dsimp only;rw[all_eq0 t];simp[show B8_ x=x from rfl]
theorem all_eq (l:Aq_):Gl_ l=l.items:=by unfold Gl_;rw[all_eq0];rfl
theorem rall_eq0:∀ (l out:List Mail),Dy_ l out=out++l
 |[],out=>by simp[Dy_]
 |x::t,out=>by unfold Dy_ lt;dsimp only;rw[rall_eq0 t];simp[show H_ x=x from rfl]
theorem rall_eq (x:Aj_):Hr_ x=x.kept:=by unfold Hr_;rw[rall_eq0];rfl
theorem l18of0:∀ (l out:List D_),Ix_ l out=out++l
 |[],out=>by simp[Ix_]
 |x::t,out=>by unfold Ix_;rw[l18of0 t];simp
theorem l18of (l:Aq_):Ty_ l=l.items:=by unfold Ty_ lt;dsimp only;rw[l18of0,all_eq];rfl
theorem l20of (x:Aj_):Vr_ x=x:=by unfold Vr_ lt;dsimp only;rw[rall_eq];rfl
theorem l19of0:∀ (l:List C1_) (t:Int) (out:List C1_),Iy_ l t out=⟨t,out++l⟩
 |[],t,out=>by simp[Iy_]
 |x::r,t,out=>by unfold Iy_;rw[l19of0 r];simp
theorem l19of (n:Bx_):Rs_ n=n:=by unfold Rs_ lt;dsimp only;rw[l19of0];rfl
theorem l14of1:∀ (l:List R_) (a:List Z_) (b:List R_),Iw_ l a b=⟨a,b++l⟩
 |[],a,b=>by simp[Iw_]
 |x::r,a,b=>by unfold Iw_;rw[l14of1 r];simp
theorem l14of0 (q:Ac_):∀ (l:List Z_) (a:List Z_) (b:List R_),Iv_ q l a b=⟨a++l,b++q.binds⟩
 |[],a,b=>by unfold Iv_ lt;dsimp only;rw[l14of1,Yr_];simp
 |x::r,a,b=>by unfold Iv_;rw[l14of0 q r];simp
theorem l14of (b:Ac_):Qj_ b=b:=by unfold Qj_ lt;dsimp only;rw[l14of0];rfl
theorem Ya_:∀ (l:List Eu_) (out:List Ae_),Bz_ l out=out++l.map (·.q)
 |[],out=>by simp[Bz_]
 |x::t,out=>by unfold Bz_;rw[Ya_ t];simp
theorem queues_eq (s:I_):Ds_ s=s.rows.map (·.q):=by unfold Ds_;rw[Ya_];rfl
def rrow (s:I_) (q:Ae_):El_:=⟨q,(Dd_ s q.name).items⟩
theorem l21of1 (s:I_):∀ (f v:Nat) (x:Q_),16-v<f->v<=16->(∀ i,i<v->x.rises.get i=s.rises.get i) ->
   (Jt_ s f v x).next = x.next /\ (Jt_ s f v x).most=x.most/\(Jt_ s f v x).rows=x.rows/\∀ i,i<16->(Jt_ s f v x).rises.get i=s.rises.get i
 |0,_,_,h,_,_=>by omega
 |f+1,v,x,hf,hv,hx=>by
   unfold Jt_ lt
   let Q:Q_->Prop:=λr=>r.next = x.next /\ r.most=x.most/\r.rows=x.rows/\∀ i,i<16->r.rises.get i=s.rises.get i
   refine bt (P:=Q) (λe=>?_) λe=>⟨rfl,rfl,rfl,λi hi=>hx i (by have :=of_decide_eq_false e;omega)⟩
   have hv':v<16:=by have :=of_decide_eq_true e;omega
   have hr:Vr_ (Ej_ s (v:Int))=s.rises.get v:=by
     rw[l20of]
     unfold Ej_
     rw[decide_eq_false (show ¬((v:Int)<0) by omega),decide_eq_false (show ¬((16:Int)<=v) by omega)]
     simp
   have :=l21of1 s f (v+1) ⟨x.next,x.most,x.rows,A16.set x.rises (Vr_ (Ej_ s (v:Int))) v⟩ pB pB λi hi=>by
     show A16.get (A16.set x.rises _ v) i=_
     rw[A16.get_set _ _ _ _ hv' pB]
     split
     . rename_i q;rw[q,hr]
     . exact hx i pB
   exact this
theorem l21of0 (s:I_):∀ (l:List Ae_) (out:List El_),(F2_ s l out).next = s.next /\ (F2_ s l out).rows=out++l.map (rrow s)/\∀ i,i<16->(F2_ s l out).rises.get i=s.rises.get i
 |[],out=>by
   unfold F2_
   obtain⟨h1,h2,h3,h4⟩:=l21of1 s (16-0+1) 0 (⟨(Fo_ s),((Ai_ s)+(B0_ s)),out,(⟨(⟨0,[]⟩:Aj_),(⟨0,[]⟩:Aj_),(⟨0,[]⟩:Aj_),(⟨0,[]⟩:Aj_),(⟨0,[]⟩:Aj_),(⟨0,[]⟩:Aj_),(⟨0,[]⟩:Aj_),(⟨0,[]⟩:Aj_),(⟨0,[]⟩:Aj_),(⟨0,[]⟩:Aj_),(⟨0,[]⟩:Aj_),(⟨0,[]⟩:Aj_),(⟨0,[]⟩:Aj_),(⟨0,[]⟩:Aj_),(⟨0,[]⟩:Aj_),(⟨0,[]⟩:Aj_)⟩:A16_RiseR)⟩:Q_) pB pB (λi hi=>by omega)
   exact⟨h1,by rw[h3];simp,h4⟩
 |x::t,out=>by
   unfold F2_ lt
   dsimp only
   obtain⟨h1,h2,h3⟩:=l21of0 s t (out++[(⟨x,Ty_ (Dd_ s x.name)⟩:El_)])
   refine⟨h1,?_,h3⟩
   rw[h2,l18of]
   simp[rrow]
theorem l21of (s:I_):(Jg_ s).next = s.next /\ (Jg_ s).rows=s.rows.map (λr=>rrow s r.q)/\∀ i,i<16->(Jg_ s).rises.get i=s.rises.get i:=by
 unfold Jg_ lt;dsimp only;obtain⟨h1,h2,h3⟩:=l21of0 s (Ds_ s) [];refine⟨h1,?_,h3⟩;rw[h2,queues_eq];simp[Function.comp_def]
theorem l23of0 (x:Cb_):∀ (f v:Nat) (y:F_),8-v<f->v<=8->(∀ i,i<v->y.spent.get i=x.spent.get i) ->
   (Hv_ x f v y).p=y.p/\(Hv_ x f v y).at_=y.at_/\(Hv_ x f v y).book=y.book/\(Hv_ x f v y).C_=y.C_/\(Hv_ x f v y).notes=y.notes/\(Hv_ x f v y).seen=y.seen/\∀ i,i<8->(Hv_ x f v y).spent.get i=x.spent.get i
 |0,_,_,h,_,_=>by omega
 |f+1,v,y,hf,hv,hy=>by
   unfold Hv_
   let Q:F_->Prop:=λr=>r.p=y.p/\r.at_=y.at_/\r.book=y.book/\r.C_=y.C_/\r.notes=y.notes/\r.seen=y.seen/\∀ i,i<8->r.spent.get i=x.spent.get i
   refine bt (P:=Q) (λe=>?_) λe=>⟨rfl,rfl,rfl,rfl,rfl,rfl,λi hi=>hy i (by have :=of_decide_eq_false e;omega)⟩
   have hv':v<8:=by have :=of_decide_eq_true e;omega
   exact l23of0 x f (v+1) ⟨y.p,y.at_,y.book,y.C_,y.notes,y.seen,A8.set y.spent (A8.get x.spent v) v⟩ pB pB λi hi=>by
     show A8.get (A8.set y.spent _ v) i=_
     rw[A8.get_set _ _ _ _ hv' pB]
     split
     . rename_i q;rw[q]
     . exact hy i pB
theorem l23of (x:Cb_) (p:G_) (a:Int):(Jh_ x p a).p=p/\(Jh_ x p a).at_=a/\(Jh_ x p a).book=x.book/\(Jh_ x p a).C_=Jg_ x.C_/\(Jh_ x p a).notes=x.notes/\(Jh_ x p a).seen=x.seen/\∀ i,i<8->(Jh_ x p a).spent.get i=x.spent.get i:=by
 unfold Jh_ lt;dsimp only;rw[l14of,l19of];exact l23of0 x _ 0 (⟨p,a,x.book,Jg_ x.C_,x.notes,x.seen,(⟨(⟨0,0⟩:Ba_),(⟨0,0⟩:Ba_),(⟨0,0⟩:Ba_),(⟨0,0⟩:Ba_),(⟨0,0⟩:Ba_),(⟨0,0⟩:Ba_),(⟨0,0⟩:Ba_),(⟨0,0⟩:Ba_)⟩:A8_SpentR)⟩:F_) pB pB (λi hi=>by omega)
theorem Tz_:∀ (l:List Bl_),Gj_ l=true->∀ y∈l,y.name.length<=40
 |[],_,y,h=>by cases h
 |x::t,h,y,hy=>by
   unfold Gj_ at h
   cases e:decide (40<(x.name.length:Int)) with
   |true=>rw[e] at h;cases h
   |false=>
     rw[e] at h
     rcases List.mem_cons.1 hy with q|q
     . rw[q];have :=of_decide_eq_false e;omega
     . exact Tz_ t h y q
theorem may_names {p:G_} (h:Nl_ p=true):∀ y∈p.places,y.name.length<=300:=by
 unfold Nl_ at h;rw[Bool.and_eq_true] at h;have h1:=h.1;unfold L2_ at h1
 cases e:(decide (20<(p.places.length:Int)) || decide (40<(p.slots.length:Int)) || decide (10<(p.grants.length:Int))) with
 |true=>rw[e] at h1;cases h1
 |false=>
   rw[e] at h1
   intro y hy
   have :=Tz_ _ h1 y hy
   omega
theorem l05_may2 {p:G_} (h:Nl_ p=true):PoOk p/\0<p.places.length/\p.places.length<=16/\0<p.slots.length/\p.slots.length<=32/\p.grants.length<=8/\∀ y∈p.places,y.name.length<=300:=by
 obtain⟨a,b,c,d,e,f⟩:=l05_may h;exact⟨a,b,c,d,e,f,may_names h⟩
def Wm (m:Mail):Prop:=∀ p∈m.head,p.wf
def LW (l:List D_):Prop:=∀ x∈l,Wm x.O_
def KW (k:I_):Prop:=(∀ r∈k.rows,LW r.l.items)/\∀ i,i<16->∀ m∈(k.rises.get i).kept,Wm m
theorem msize_eq {m:Mail} (h:Wm m):I5_ m=By_ m:=by
 unfold I5_;have e2:By_ m=((Ez_ m).length:Int):=by simp only[By_]
 rw[e2];by_cases e:Eg_ m=0;rw[decide_eq_true e,Qr_ e λp hp=>(h p hp).1.1];rfl;rw[decide_eq_false e];unfold Ez_;rw[if_neg e];rfl
theorem lsz_eq0:∀ (l:List D_) (n:Int),LW l->E5_ l n=Bw_ l n
 |[],_,_=>rfl
 |x::t,n,h=>by
   unfold E5_ Bw_ lt
   rw[msize_eq (h x pF)]
   exact lsz_eq0 t _ λy hy=>h y (by simp[hy])
theorem usz_eq0:∀ (l:List Mail) (n:Int),(∀ m∈l,Wm m)->E8_ l n=Cl_ l n
 |[],_,_=>rfl
 |x::t,n,h=>by
   unfold E8_ Cl_ lt
   rw[msize_eq (h x pF)]
   exact usz_eq0 t _ λy hy=>h y (by simp[hy])
theorem find_self:∀ {l:List Eu_} {r:Eu_},(l.map (·.q.name)).Nodup->r∈l->l.find? (λz=>Ig_ z r.q.name)=some r
 |[],r,_,h=>by cases h
 |y::l,r,hn,h=>by
   rw[List.map_cons,List.nodup_cons] at hn
   rcases List.mem_cons.1 h with e|e
   . rw[e,List.find?_cons];simp[Ig_]
   . rw[List.find?_cons]
     have :Ig_ y r.q.name=false:=by
       unfold Ig_
       rw[decide_eq_false]
       intro q
       exact hn.1 (q ▸ List.mem_map_of_mem (f:=λr:Eu_=>r.q.name) e)
     rw[this]
     exact find_self hn.2 e
theorem line_self {s:I_} (h:StkOk s) {r:Eu_} (hr:r∈s.rows):Dd_ s r.q.name=r.l:=by
 have hf:=find_self h.1.2.2 hr;unfold Dd_ lt;by_cases e:J_ s r.q.name<0
 . have :=Ms_ (p:=λz=>Ig_ z r.q.name) e
   rw[this] at hf;cases hf
 . dsimp only
   rw[decide_eq_false e,cond_false]
   have hb:=at_b s r.q.name
   have hg:=getG (xs:=s.rows) (k:=(J_ s r.q.name).toNat) pB
   have :=(Ul_ (p:=λz=>Ig_ z r.q.name) e hg).2
   rw[this] at hf
   injection hf with hf
   exact congrArg Eu_.l hf
def NtF (n:Bx_):Prop:=(0<=n.total/\n.total<=18446744073709551615)/\(n.kept.length:Int)=min n.total 32/\∀ x∈n.kept,(0<=x.tick/\x.tick<=18446744073709551615)/\(0<=x.kind/\x.kind<=255)/\x.text.length<=64
def MlF (m:Mail):Prop:=m.wf/\(∀ p∈m.head,p.wf)/\Eg_ m=0
def RiF (x:Aj_):Prop:=(0<=x.total/\x.total<=18446744073709551615)/\(x.kept.length:Int)=min x.total 16/\∀ m∈x.kept,MlF m
theorem ntf_nil:NtF ⟨0,[]⟩:=⟨by simp,by decide,λ_ h=>by cases h⟩
theorem nadd_f {n:Bx_} {x:C1_} (ht:U64 x.tick) (hk:0<=x.kind/\x.kind<=255) (h:NtF n):NtF (Br_ n x).1:=by
 obtain⟨⟨h1,h2⟩,h3,h4⟩:=h;unfold Br_;let Q:Bx_×Int->Prop:=λr=>NtF r.1;refine bt (P:=Q) (λ_=>⟨⟨h1,h2⟩,h3,h4⟩) λe1=>bt (P:=Q) (λ_=>⟨⟨h1,h2⟩,h3,h4⟩) λe2=>?_;simp only[decide_eq_false_iff_not] at e1 e2;have hw:IntKind.wrap .u64 (n.total+1)=n.total+1:=Oq_ pB pB;have hl:([n.kept,[x]].flatten).length=n.kept.length+1:=by simp
 refine⟨⟨?_,?_⟩,?_,λy hy=>?_⟩;show 0<=IntKind.wrap .u64 (n.total+1);omega;show IntKind.wrap .u64 (n.total+1)<=18446744073709551615;omega;show (((([n.kept,[x]].flatten).drop ((max 0 ((([n.kept,[x]].flatten).length:Int)-32))).toNat)).length:Int)=min (IntKind.wrap .u64 (n.total+1)) 32;rw[List.length_drop,hl,hw];omega
 . have hy:y∈([n.kept,[x]].flatten).drop ((max 0 ((([n.kept,[x]].flatten).length:Int)-32))).toNat:=hy
   have hy:=List.mem_of_mem_drop hy
   simp only[List.flatten_cons,List.flatten_nil,List.append_nil,List.mem_append,List.mem_singleton] at hy
   rcases hy with q|q
   exact h4 y q
   subst q
   exact⟨ht,hk,by omega⟩
theorem rif_nil:RiF ⟨0,[]⟩:=⟨by simp,by decide,λ_ h=>by cases h⟩
theorem rput_f {x:Aj_} {m:Mail} (hm:Eg_ m=0->MlF m) (h:RiF x):RiF (Bg_ x m).1:=by
 obtain⟨⟨h1,h2⟩,h3,h4⟩:=h;unfold Bg_ lt;let Q:Aj_×Int->Prop:=λr=>RiF r.1;refine bt (P:=Q) (λ_=>⟨⟨h1,h2⟩,h3,h4⟩) λe1=>bt (P:=Q) (λ_=>⟨⟨h1,h2⟩,h3,h4⟩) λe2=>?_;simp only[Bool.not_eq_false',decide_eq_true_eq] at e1;simp only[decide_eq_false_iff_not] at e2;have hw:IntKind.wrap .u64 (x.total+1)=x.total+1:=Oq_ pB pB;have hc:H_ m=m:=rfl;have hl:([x.kept,[H_ m]].flatten).length=x.kept.length+1:=by simp
 refine⟨⟨?_,?_⟩,?_,λy hy=>?_⟩;show 0<=IntKind.wrap .u64 (x.total+1);omega;show IntKind.wrap .u64 (x.total+1)<=18446744073709551615;omega;show (((([x.kept,[H_ m]].flatten).drop ((max 0 ((([x.kept,[H_ m]].flatten).length:Int)-16))).toNat)).length:Int)=min (IntKind.wrap .u64 (x.total+1)) 16;rw[List.length_drop,hl,hw];omega
 . have hy:y∈([x.kept,[H_ m]].flatten).drop ((max 0 ((([x.kept,[H_ m]].flatten).length:Int)-16))).toNat:=hy
   have hy:=List.mem_of_mem_drop hy
   simp only[List.flatten_cons,List.flatten_nil,List.append_nil,List.mem_append,List.mem_singleton] at hy
   rcases hy with q|q
   exact h4 y q
   rw[hc] at q;subst q
   exact hm e1
def ItF (next :Int) (x:D_):Prop:=MlF x.O_/\(next = 0\/x.O_.id < next)
theorem a16_ext {α:Type} {a b:A16 α} (h:∀ i,i<16->A16.get a i=A16.get b i):a=b:=by
 have h0:=h 0 pC;have h1:=h 1 pC;have h2:=h 2 pC;have h3:=h 3 pC;have h4:=h 4 pC;have h5:=h 5 pC;have h6:=h 6 pC;have h7:=h 7 pC;have h8:=h 8 pC;have h9:=h 9 pC;have h10:=h 10 pC;have h11:=h 11 pC;have h12:=h 12 pC;have h13:=h 13 pC;have h14:=h 14 pC;have h15:=h 15 pC;obtain⟨a0,a1,a2,a3,a4,a5,a6,a7,a8,a9,a10,a11,a12,a13,a14,a15⟩:=a;obtain⟨b0,b1,b2,b3,b4,b5,b6,b7,b8,b9,b10,b11,b12,b13,b14,b15⟩:=b;have h0:a0=b0:=h0;have h1:a1=b1:=h1;have h2:a2=b2:=h2;have h3:a3=b3:=h3;have h4:a4=b4:=h4;have h5:a5=b5:=h5;have h6:a6=b6:=h6;have h7:a7=b7:=h7;have h8:a8=b8:=h8;have h9:a9=b9:=h9;have h10:a10=b10:=h10;have h11:a11=b11:=h11;have h12:a12=b12:=h12;have h13:a13=b13:=h13;have h14:a14=b14:=h14;have h15:a15=b15:=h15;subst h0 h1 h2 h3 h4 h5 h6 h7 h8 h9 h10 h11 h12 h13 h14 h15;rfl
def Wf (m:Mail):Prop:=(U64 m.id/\U64 m.due/\0<=m.hops/\m.hops<=255)/\∀ p∈m.head,p.wf
theorem wf_of {m:Mail} (h:MlF m):Wf m:=⟨⟨h.1.1,h.1.2.1,h.1.2.2.1.1,h.1.2.2.1.2⟩,h.2.1⟩
theorem mlf_of {m:Mail} (h:Wf m) (e:Eg_ m=0):MlF m:=by
 obtain⟨k1,k2,k3,k4,k5⟩:=Ii_ e;have k6:=(Oa_ k3).1;exact⟨⟨h.1.1,h.1.2.1,⟨h.1.2.2.1,h.1.2.2.2⟩,by omega,by omega,by omega,by omega⟩,h.2,e⟩
theorem u64_0:U64 0:=by constructor<;>decide
def LG (next most:Int) (l:List D_):Prop:=(l.length:Int)<=most/\∀ x∈l,ItF next x
def RG (next :Int) (r:Eu_):Prop:=U64 r.q.most/\U64 r.q.life/\LG next r.q.most r.l.items
def KG (k:I_):Prop:=U64 k.next /\ (∀ r∈k.rows,RG k.next r)/\∀ i,i<16->RiF (A16.get k.rises i)
theorem wf_0:Wf ⟨0,[],[],[],[],0,0⟩:=⟨⟨u64_0,u64_0,by simp,by simp⟩,λ_ h=>by cases h⟩
theorem lg_gt {n m:Int} {l:List D_} (h:LG n m l) {k:Nat} (hk:k<l.length):ItF n (gt l k):=h.2 _ (Go_ hk)
theorem wf_gt {n m:Int} {l:List D_} (h:LG n m l) (k:Nat):Wf (gt l k).O_:=by
 by_cases q:k<l.length;exact wf_of (lg_gt h q).1;have :gt l k=default:=by unfold gt;rw[List.getD_eq_getElem?_getD,List.getElem?_eq_none pB];rfl
 rw[this];exact wf_0
theorem lg_set {n m:Int} {l:List D_} (h:LG n m l) (k:Nat) (a b:Bool):LG n m (l.set k ⟨(gt l k).O_,a,b⟩):=by
 refine⟨by rw[List.length_set];exact h.1,λx hx=>?_⟩;by_cases q:k<l.length
 . rcases List.mem_or_eq_of_mem_set hx with e|e
   exact h.2 x e
   rw[e];exact lg_gt h q
 rw[List.set_eq_of_length_le pB] at hx;exact h.2 x hx
theorem lg_rem {n m:Int} {l:Aq_} (h:LG n m l.items) (id:Int):LG n m (Af_ l id).1.items/\Wf (Af_ l id).2.1.O_/\(0<=A2_ l id->(Af_ l id).1.items.length+1=l.items.length):=by
 have hb:-1<=A2_ l id/\A2_ l id<l.items.length:=Io_ _ _;unfold Af_ lt;let Q:Aq_×D_×Int->Prop:=λr=>LG n m r.1.items/\Wf r.2.1.O_/\(0<=A2_ l id->r.1.items.length+1=l.items.length);refine bt (P:=Q) (λe=>⟨h,wf_0,λq=>?_⟩) λe=>?_;simp only[decide_eq_true_eq] at e;omega;simp only[decide_eq_false_iff_not] at e;have hl:([l.items.take (A2_ l id).toNat,l.items.drop (A2_ l id+1).toNat].flatten).length+1=l.items.length:=by
   simp only[List.flatten_cons,List.flatten_nil,List.append_nil,List.length_append,List.length_take,List.length_drop]
   omega
 exact⟨⟨by have :=h.1;show ((([l.items.take (A2_ l id).toNat,l.items.drop (A2_ l id+1).toNat].flatten).length:Nat):Int)<=m;omega,λx hx=>h.2 x (X6_ hx)⟩,wf_gt h _,λ_=>hl⟩
theorem wf_told {n m:Int} {l:Aq_} (h:LG n m l.items) (k:Int):Wf (Cf_ l k).1:=by
 unfold Cf_ lt;let Q:Mail×Bool->Prop:=λr=>Wf r.1;exact bt (P:=Q) (λ_=>wf_0) λ_=>wf_gt h _
theorem lg_lend {n m:Int} {l:Aq_} (h:LG n m l.items):LG n m (Ce_ l).1.items:=by
 unfold Ce_ lt;let Q:Aq_×D_×Bool->Prop:=λr=>LG n m r.1.items;exact bt (P:=Q) (λ_=>h) λ_=>lg_set h _ _ _
theorem lg_back {n m:Int} {l:Aq_} (h:LG n m l.items) (id:Int):LG n m (Cu_ l id).1.items:=by
 unfold Cu_ lt;let Q:Aq_×Int->Prop:=λr=>LG n m r.1.items;exact bt (P:=Q) (λ_=>h) λ_=>bt (P:=Q) (λ_=>h) λ_=>lg_set (lg_set h _ _ _) _ _ _
theorem Zp_ {n m:Int}:∀ (t:List D_) (k:Nat) (x:Aq_),LG n m x.items->LG n m (Bn_ t k x).items
 |[],_,_,h=>h
 |y::t,k,x,h=>by
   unfold Bn_
   let Q:Aq_->Prop:=λr=>LG n m r.items
   exact bt (P:=Q) (λ_=>Zp_ t _ _ (lg_set (lg_set h _ _ _) _ _ _)) λ_=>Zp_ t _ _ h
theorem first_of {l:Aq_} (h:(Ar_ l).2=true):0<=A2_ l (Ar_ l).1.id:=by
 unfold Ar_ lt Cf_ lt at h ⊢;have hb:-1<=Bq_ l/\Bq_ l<l.items.length:=Io_ _ _
 cases e:decide (Bq_ l<0) with
 |true=>rw[e] at h;cases h
 |false=>
   rw[decide_eq_false_iff_not] at e
   simp only[cond_false]
   by_cases q:0<=A2_ l (H_ (gt l.items (Bq_ l).toNat).O_).id
   . exact q
   . have h0:A2_ l (H_ (gt l.items (Bq_ l).toNat).O_).id<0:=by omega
     have h1:=Ms_ (p:=λz_4:D_=>(Oe_ z_4 (H_ (gt l.items (Bq_ l).toNat).O_).id)) (l:=l.items) h0
     have h2:=List.find?_eq_none.1 h1 _ (Go_ (xs:=l.items) (k:=(Bq_ l).toNat) pB)
     exact (h2 (by simp[Oe_,H_])).elim
theorem lg_add {n m:Int} {l:Aq_} {x:Mail} (h:LG n m l.items) (hl:(l.items.length:Int)<m) (hx:ItF n ⟨x,false,false⟩):LG n m (At_ l x).1.items:=by
 unfold At_ C7_ lt;let Q:Aq_×Int->Prop:=λr=>LG n m r.1.items;refine bt (P:=Q) (λ_=>h) λ_=>?_;refine⟨?_,λy hy=>?_⟩;show ((([l.items,[B8_ ⟨x,false,false⟩]].flatten).length:Nat):Int)<=m;simp only[List.flatten_cons,List.flatten_nil,List.append_nil,List.length_append,List.length_cons,List.length_nil];omega
 . rcases Nn_ hy with q|q
   exact h.2 y q
   rw[q];exact hx
theorem Tx_ {k:I_} (h:KG k) {i:Nat} (hi:i<k.rows.length):RG k.next (gt k.rows i):=h.2.1 _ (Go_ hi)
theorem Ve_ {k:I_} (h:KG k) {i:Int} (hi:0<=i/\i<k.rows.length) {l:Aq_} (hl:LG k.next (gt k.rows i.toNat).q.most l.items):KG (W_ k i l):=by
 refine⟨h.1,λr hr=>?_,h.2.2⟩
 rcases List.mem_or_eq_of_mem_set hr with e|e
 exact h.2.1 r e;rw[e];have :=Tx_ h (i:=i.toNat) pB;exact⟨this.1,this.2.1,hl⟩
theorem itf_up {n:Int} {x:D_} (hu:U64 n) (hn:n≠0) (h:ItF n x):ItF (IntKind.wrap .u64 (n+1)) x:=by
 refine⟨h.1,?_⟩;have h2:x.O_.id<n:=by rcases h.2 with q|q;exact (hn q).elim;exact q
 have h4:=hu.2;by_cases q:n+1<=18446744073709551615;right;rw[Oq_ (by have :=hu.1;omega) q];omega;exact wK
theorem mailC_id (m:Mail) (a:Int):Eg_ ⟨a,m.Ak_,m.key,m.head,m.body,m.due,m.hops⟩=Eg_ m:=rfl
theorem kg_next {k:I_} (hn:k.next ≠ 0) (h:KG k) (hu:IntKind.wrap .u64 (k.next + 1)=IntKind.wrap .u64 (k.next + 1)):KG ⟨IntKind.wrap .u64 (k.next + 1),k.bytes,k.rows,k.rises⟩:=by
 refine⟨H7_ _,λr hr=>?_,h.2.2⟩;obtain⟨h1,h2,h3,h4⟩:=h.2.1 r hr;exact⟨h1,h2,h3,λx hx=>itf_up h.1 hn (h4 x hx)⟩
theorem kg_put {k:I_} (h:KG k) (hn:k.next ≠ 0) {i:Int} (hi:0<=i/\i<k.rows.length) {l:Aq_} (hl:LG (IntKind.wrap .u64 (k.next + 1)) (gt k.rows i.toNat).q.most l.items):KG ⟨IntKind.wrap .u64 (k.next + 1),(W_ k i l).bytes,(W_ k i l).rows,(W_ k i l).rises⟩:=
 Ve_ (k:=⟨IntKind.wrap .u64 (k.next + 1),k.bytes,k.rows,k.rises⟩) (kg_next hn h Y) hi hl
theorem kg_wake0:∀ (t:List Eu_) (k:Nat) (x:I_),(∀ (j:Nat) (r:Eu_),t[j]? = some r->k+j<x.rows.length/\(gt x.rows (k+j)).q=r.q/\LG x.next r.q.most r.l.items)->KG x->KG (Bf_ t k x)
 |[],_,_,_,h=>h
 |y::t,k,x,ht,h=>by
   obtain⟨h1,h2,h3⟩:=ht 0 y Y
   have hk:(((k:Nat):Int)).toNat=k:=by omega
   have hw:KG (W_ x (k:Int) (Di_ y.l)):=Ve_ h ⟨by omega,by omega⟩ (by rw[hk,show gt x.rows k=gt x.rows (k+0) from rfl,h2];exact Zp_ _ _ _ h3)
   refine kg_wake0 t (k+1) _ (λj r hr=>?_) hw
   obtain⟨g1,g2,g3⟩:=ht (j+1) r hr
   have hlen:(W_ x (k:Int) (Di_ y.l)).rows.length=x.rows.length:=Vg_ _ _ _
   refine⟨by rw[hlen];omega,?_,g3⟩
   rw[<- g2]
   show (gt (x.rows.set (((k:Nat):Int)).toNat ⟨(gt x.rows (((k:Nat):Int)).toNat).q,Di_ y.l⟩) (k+1+j)).q=_
   rw[hk]
   have e:k+1+j=k+(j+1):=by omega
   rw[e]
   unfold gt
   rw[List.getD_eq_getElem?_getD,List.getElem?_set_ne pB,<- List.getD_eq_getElem?_getD]
theorem next_up {n:Int} (hu:U64 n):IntKind.wrap .u64 (n+1)=0\/n<IntKind.wrap .u64 (n+1):=by
 have h4:=hu.2;by_cases q:n+1<=18446744073709551615;right;rw[Oq_ (by have :=hu.1;omega) q];omega;exact wK
theorem due_r (d t l:Int) (h:U64 d):U64 (Hz_ d t l):=by
 unfold Hz_;have hw:=H7_ (t+l);refine bt (P:=U64) (λ_=>h) λ_=>bt (P:=U64) (λ_=>hw) λ_=>?_;obtain⟨h1,h2⟩:=h;constructor<;>omega
theorem kg_late0 (t:Int):∀ (l:List Eu_) (n:Int),(∀ r∈l,RG n r)->Wf (Az_ t l).2.1
 |[],_,_=>wf_0
 |y::l,n,h=>by
   unfold Az_ lt
   let Q:Bs×Mail×Bool->Prop:=λr=>Wf r.2.1
   refine bt (P:=Q) (λ_=>?_) λ_=>kg_late0 t l n λr hr=>h r (by simp[hr])
   unfold Dh_ lt
   exact wf_told (h y pF).2.2 _
theorem cloG:Clw U64 Wf KG NtF where
 kp:=λ{k n m} hk hm h=>by
   have ha:=at_b k n
   unfold As_ lt
   let Q:I_×Int×Mail×Int->Prop:=λr=>KG r.1/\Wf r.2.2.1
   refine bt (P:=Q) (λ_=>⟨h,wf_0⟩) λe1=>bt (P:=Q) (λ_=>⟨h,wf_0⟩) λe2=>bt (P:=Q) (λ_=>⟨h,wf_0⟩) λe3=>?_
   simp only[decide_eq_false_iff_not,Bool.not_eq_false',decide_eq_true_eq] at e1 e2 e3
   have hi:0<=J_ k n/\J_ k n<k.rows.length:=by omega
   obtain⟨r1,r2,r3⟩:=Tx_ h (i:=(J_ k n).toNat) pB
   have hln:LnOk (gt k.rows (J_ k n).toNat).l:=hk.1.2.1 _ (Go_ pB)
   have h64:=hln.1
   have hw:IntKind.wrap .u64 (Jv_ (gt k.rows (J_ k n).toNat).l)=((gt k.rows (J_ k n).toNat).l.items.length:Int):=Oq_ (show (0:Int)<=((gt k.rows (J_ k n).toNat).l.items.length:Int) by omega) (show ((gt k.rows (J_ k n).toNat).l.items.length:Int)<=_ by omega)
   obtain⟨row,hrow⟩:∃ row,gt k.rows (J_ k n).toNat=row:=⟨_,rfl⟩
   rw[hrow] at r1 r2 r3 hln h64 hw ⊢
   rw[hw]
   refine lp2E (P:=Q) (λq=>LG k.next row.q.most q.1.items/\(q.1.items.length:Int)<row.q.most/\Wf q.2) ?_ λx x1 hx=>?_
   . refine bt (P:=LoP _ _) (λc=>bt (P:=LoP _ _) (λ_=>⟨h,wf_0⟩) λc2=>?_) λc=>⟨r3,?_,wf_0⟩
     . simp only[Bool.not_eq_false'] at c2
       have hrm:=lg_rem r3 (Ar_ row.l).1.id
       have h3:=hrm.2.2 (first_of c2)
       refine⟨hrm.1,?_,?_⟩
       . have :=r3.1
         show ((Af_ row.l (Ar_ row.l).1.id).1.items.length:Int)<row.q.most
         omega
       . show Wf (Ar_ row.l).1
         unfold Ar_ lt
         exact wf_told r3 _
     . simp only[decide_eq_false_iff_not] at c
       show (row.l.items.length:Int)<row.q.most
       omega
   . refine bt (P:=Q) (λ_=>⟨h,wf_0⟩) λ_=>bt (P:=Q) (λ_=>⟨h,wf_0⟩) λ_=>⟨?_,hx.2.2⟩
     have hm1:MlF ⟨k.next,m.Ak_,m.key,m.head,m.body,m.due,m.hops⟩:=mlf_of ⟨⟨h.1,hm.1.2.1,hm.1.2.2.1,hm.1.2.2.2⟩,hm.2⟩ (by rw[mailC_id];exact e2)
     refine kg_put h e3 hi ?_
     rw[hrow]
     exact lg_add ⟨hx.1.1,λy hy=>itf_up h.1 e3 (hx.1.2 y hy)⟩ hx.2.1 ⟨hm1,next_up h.1⟩
 kl:=λ{k n} h=>by
   have ha:=at_b k n
   unfold Bc_ lt
   let Q:I_×D_×Bool->Prop:=λr=>KG r.1
   refine bt (P:=Q) (λ_=>h) λe=>?_
   simp only[decide_eq_false_iff_not] at e
   exact Ve_ h pB (lg_lend (Tx_ h pB).2.2)
 kr:=λ{k n i} h=>by
   have ha:=at_b k n
   unfold U_ lt
   let Q:I_×D_×Int->Prop:=λr=>KG r.1/\Wf r.2.1.O_
   refine bt (P:=Q) (λ_=>⟨h,wf_0⟩) λe=>?_
   simp only[decide_eq_false_iff_not] at e
   have hr:=lg_rem (Tx_ h (i:=(J_ k n).toNat) pB).2.2 i
   exact⟨Ve_ h pB hr.1,hr.2.1⟩
 kb:=λ{k n i} h=>by
   have ha:=at_b k n
   unfold Bb_ lt
   let Q:I_×Int->Prop:=λr=>KG r.1
   refine bt (P:=Q) (λ_=>h) λe=>?_
   simp only[decide_eq_false_iff_not] at e
   exact Ve_ h pB (lg_back (Tx_ h pB).2.2 _)
 ks:=λ{k p m} hm h=>by
   unfold Au_ lt
   let Q:I_×Int->Prop:=λr=>KG r.1
   refine bt (P:=Q) (λ_=>h) λe=>bt (P:=Q) (λ_=>h) λ_=>bt (P:=Q) (λ_=>h) λ_=>⟨h.1,h.2.1,λi hi=>?_⟩
   simp only[Bool.or_eq_false_iff,decide_eq_false_iff_not] at e
   show RiF (A16.get (A16.set k.rises (Bg_ (A16.get k.rises p.toNat) m).1 p.toNat) i)
   rw[A16.get_set _ _ _ _ pB hi]
   split
   . exact rput_f (mlf_of hm) (h.2.2 _ pB)
   . exact h.2.2 i hi
 kw:=λ{k} _ h=>kg_wake0 _ _ _ (λj r hr=>by
   have hl:=(List.getElem?_eq_some_iff.1 hr).1
   have hg:gt k.rows j=r:=by unfold gt;rw[List.getD_eq_getElem?_getD,hr];rfl
   rw[Nat.zero_add]
   refine⟨hl,by rw[hg],?_⟩
   have :=Tx_ h hl
   rw[hg] at this
   exact this.2.2) h
 kt:=λ{k t} h=>kg_late0 t _ _ h.2.1
 na:=λht hk h=>nadd_f ht hk h
 wd:=λh=>⟨⟨u64_0,due_r _ _ _ h.1.2.1,h.1.2.2⟩,h.2⟩
 wr:=λh=>⟨⟨u64_0,h.1.2⟩,h.2⟩
 wb:=λ{m s} h=>⟨⟨h.1.1,u64_0,wr_u8 _⟩,h.2⟩
 wp:=λ{m} h=>⟨⟨h.1.1,h.1.2.1,wr_u8 _⟩,h.2⟩
theorem doG {s:E_} {d:Aa_} (ht:U64 d.tick) (hc:0<=d.code/\d.code<=255) (h:StOk s) (h0:0<=d.O_.hops) (hm:Wf d.O_) (hqm:U64 d.queue.most) (hql:U64 d.queue.life) (hs:KG s.x.C_) (hn:NtF s.x.notes):KG (Ap_ s d).1.x.C_/\NtF (Ap_ s d).1.x.notes:=by
 rcases do_w cloG ht hc h h0 hm (⟨rfl,rfl,rfl,hs,hn,rfl,λ_=>id⟩:Kw U64 KG NtF s s) with e|(e|e)|e|e
 rw[e];exact⟨hs,hn⟩;exact⟨e.k,e.n⟩;exact⟨e.k,e.n⟩
 . obtain⟨b,k,e2,e3,_⟩:=Z2_ s d
   rw[e,e2]
   refine⟨?_,hn⟩
   show KG k
   rcases e3 with rfl|rfl
   . unfold A4_ lt
     let R:I_×Int->Prop:=λr=>KG r.1
     refine bt (P:=R) (λ_=>hs) λ_=>bt (P:=R) (λ_=>hs) λ_=>bt (P:=R) (λ_=>hs) λ_=>bt (P:=R) (λ_=>hs) λ_=>⟨hs.1,λr hr=>?_,hs.2.2⟩
     rcases Nn_ hr with q|q
     exact hs.2.1 r q
     rw[q];exact⟨hqm,hql,hqm.1,λ_ h=>by cases h⟩
   unfold Ax_ lt
   let R:I_×Int->Prop:=λr=>KG r.1
   exact bt (P:=R) (λ_=>hs) λ_=>⟨hs.1,λr hr=>hs.2.1 r (X6_ hr),hs.2.2⟩
 obtain⟨b,e2,_⟩:=shops_x s d;rw[e,e2];exact⟨hs,hn⟩
theorem newG {p:G_} {k:Int} (hb:U64 (Cd_ p k).x.C_.next):KG (Cd_ p k).x.C_/\NtF (Cd_ p k).x.notes:=by
 refine⟨⟨hb,(λ_ h=>by cases h),λi hi=>?_⟩,ntf_nil⟩
 have :∀ i,i<16->A16.get (Cd_ p k).x.C_.rises i=⟨0,[]⟩:=bw16 Y Y Y Y Y Y Y Y Y Y Y Y Y Y Y Y;rw[this i hi];exact rif_nil
def fRow (r:Eu_):El_:=⟨r.q,r.l.items⟩
def fK (k:I_):Q_:=⟨k.next,k.bytes,k.rows.map fRow,k.rises⟩
theorem gt_map {α β:Type} [Inhabited α] [Inhabited β] (f:α->β) {l:List α} {n:Nat} (h:n<l.length):gt (l.map f) n=f (gt l n):=by simp[gt,h]
theorem fK_of {s:I_} (h:StkOk s):Jg_ s=fK s:=by
 obtain⟨h1,h2,h3⟩:=l21of s;have h4:(Jg_ s).most=s.bytes:=by
   unfold Jg_ lt
   dsimp only
   have :∀ (l:List Ae_) (out:List El_),(F2_ s l out).most=s.bytes:=by
     intro l
     induction l with
     |nil=>
       intro out
       unfold F2_
       have :=(l21of1 s (16-0+1) 0 (⟨(Fo_ s),((Ai_ s)+(B0_ s)),out,(⟨(⟨0,[]⟩:Aj_),(⟨0,[]⟩:Aj_),(⟨0,[]⟩:Aj_),(⟨0,[]⟩:Aj_),(⟨0,[]⟩:Aj_),(⟨0,[]⟩:Aj_),(⟨0,[]⟩:Aj_),(⟨0,[]⟩:Aj_),(⟨0,[]⟩:Aj_),(⟨0,[]⟩:Aj_),(⟨0,[]⟩:Aj_),(⟨0,[]⟩:Aj_),(⟨0,[]⟩:Aj_),(⟨0,[]⟩:Aj_),(⟨0,[]⟩:Aj_),(⟨0,[]⟩:Aj_)⟩:A16_RiseR)⟩:Q_) pB pB (λi hi=>by omega)).2.1
       refine this.trans ?_
       show Ai_ s+B0_ s=s.bytes
       unfold B0_
       omega
     |cons x t ih=>intro out;unfold F2_ lt;exact ih _
   exact this _ _
 have h5:(Jg_ s).rows=s.rows.map fRow:=by
   rw[h2]
   refine List.map_congr_left λr hr=>?_
   unfold rrow fRow
   rw[line_self h hr]
 have h6:(Jg_ s).rises=s.rises:=a16_ext h3;generalize Jg_ s=z at h1 h4 h5 h6
 cases z
 simp only at h1 h4 h5 h6;subst h1 h4 h5 h6;rfl
theorem kw_of {k:I_} (h:KG k):KW k:=⟨λr hr x hx=>((h.2.1 r hr).2.2.2 x hx).1.2.1,λi hi m hm=>((h.2.2 i hi).2.2 m hm).2.1⟩
theorem r21check (q:Ae_):N5_ q=Dl_ q:=by
 unfold N5_ Dl_ lt1;by_cases e:Cx_ q.name=0
 . rw[e]
   simp only[decide_true,Bool.true_and,Bool.not_true,cond_false]
   cases ((decide (q.most<1))||(decide (64<q.most))) with
   |true=>simp
   |false=>
     simp only[cond_false,decide_true,Bool.true_and]
 rw[decide_eq_false e];simp[e]
theorem Ns_ (k:I_) (n:Bs):Ct_ (fK k) n=J_ k n:=
 Qi_ (λz=>Ig_ z n) (λl j=>Hm_ n (l.map fRow) j) (λ_=>rfl) (λ_ _ _=>rfl) k.rows 0
theorem f_len (k:I_):((fK k).rows.length:Int)=(k.rows.length:Int):=by simp[fK]
theorem r21make (k:I_) (q:Ae_):Ne_ (fK k) q=(fK (A4_ k q).1,(A4_ k q).2):=by
 unfold Ne_ A4_ lt;dsimp only;rw[r21check,Ns_,f_len];have hb:=at_b k q.name;by_cases e:Dl_ q=0;rw[decide_eq_true e];simp only[Bool.not_true,cond_false];by_cases e1:0<=J_ k q.name
 . have hg:(gt (fK k).rows (J_ k q.name).toNat).q=(gt k.rows (J_ k q.name).toNat).q:=by
     show (gt (k.rows.map fRow) _).q=_
     rw[gt_map fRow pB];rfl
   rw[decide_eq_true e1,hg]
   cases decide ((gt k.rows (J_ k q.name).toNat).q=q)<;>rfl
 . rw[decide_eq_false e1]
   simp only[Bool.false_and,cond_false]
   cases decide (8<=(k.rows.length:Int)) with
   |true=>rfl
   |false=>simp[fK,fRow]
 rw[decide_eq_false e];rfl
theorem drop0 (s:Q_) (n:Bs):∀ (t out:List El_),F7_ s n t out=(⟨s.next,s.most,out++t.filter (λx=>!decide (x.q.name=n)),s.rises⟩,0)
 |[],out=>by rw[F7_];simp
 |x::t,out=>by
   rw[F7_,drop0 s n t,drop0 s n t]
   cases e:decide (x.q.name=n)<;>simp[e]
theorem filter_cut {l:List Eu_} {n:Bs} {i:Nat} (hn:(l.map (·.q.name)).Nodup) (hi:i<l.length) (he:(gt l i).q.name=n):l.filter (λx=>!decide (x.q.name=n))=l.take i++l.drop (i+1):=by
 have hl:l=l.take i++(gt l i::l.drop (i+1)):=by rw[<- Cz_ hi,List.take_append_drop]
 rw[hl,List.map_append,List.map_cons,List.nodup_append] at hn;obtain⟨_,h2,h3⟩:=hn;rw[List.nodup_cons] at h2;have ha:(l.take i).filter (λx=>!decide (x.q.name=n))=l.take i:=by
   rw[List.filter_eq_self]
   intro x hx
   have :=h3 x.q.name (List.mem_map_of_mem (f:=λr:Eu_=>r.q.name) hx) (gt l i).q.name pF
   exact sD
 have hb:(l.drop (i+1)).filter (λx=>!decide (x.q.name=n))=l.drop (i+1):=by
   rw[List.filter_eq_self]
   intro x hx
   have :x.q.name≠(gt l i).q.name:=λe=>h2.1 (e ▸ List.mem_map_of_mem (f:=λr:Eu_=>r.q.name) hx)
   exact sD
 exact zD
theorem r21drop {k:I_} (h:StkOk k) (n:Bs):Nd_ (fK k) n=(fK (Ax_ k n).1,(Ax_ k n).2):=by
 unfold Nd_ Ax_ lt;dsimp only;rw[Ns_];have hb:=at_b k n;by_cases e:J_ k n<0;exact tX;rw[decide_eq_false e];simp only[cond_false];rw[drop0];have hc:=filter_cut (n:=n) (i:=(J_ k n).toNat) h.1.2.2 pB (at_n pB);have e1:(J_ k n+1).toNat=(J_ k n).toNat+1:=by omega
 rw[e1];simp only[fK,List.nil_append,List.flatten_cons,List.flatten_nil,List.append_nil,List.filter_map];rw[show ((λx:El_=>!decide (x.q.name=n)) ∘ fRow)=(λx:Eu_=>!decide (x.q.name=n)) from rfl,hc]
theorem with0 (s:Q_) (n:Nat) (l:List D_):∀ (t:List El_) (k:Nat) (out:List El_),D6_ s (n:Int) l t k out=⟨s.next,s.most,out++(if k<=n then t.set (n-k) ⟨(gt t (n-k)).q,l⟩ else t),s.rises⟩
 |[],k,out=>by rw[D6_];simp
 |x::t,k,out=>by
   rw[D6_,with0 s n l t (k+1),with0 s n l t (k+1)]
   by_cases q:(k:Int)=n
   . rw[decide_eq_true q,cond_true,if_neg pB,if_pos pB]
     have :n-k=0:=by omega
     rw[this];simp[gt]
   . rw[decide_eq_false q,cond_false]
     by_cases q2:k<=n
     . rw[if_pos pB,if_pos q2]
       have :n-k=n-(k+1)+1:=by omega
       rw[this];simp[gt]
     . exact sI
theorem Wz_ {k:I_} {n:Nat} {l:Aq_} (h:n<k.rows.length):D2_ (fK k) (n:Int) l.items=fK (W_ k (n:Int) l):=by
 unfold D2_;rw[with0];unfold W_ fK;simp only[Nat.zero_le,if_true,Nat.sub_zero,List.nil_append,Int.toNat_natCast];rw[gt_map fRow h,List.map_set];rfl
theorem gt_f {k:I_} {n:Nat} (h:n<k.rows.length):gt (fK k).rows n=fRow (gt k.rows n):=gt_map fRow h
theorem at_c (k:I_) (n:Bs):J_ k n<0\/∃ i:Nat,J_ k n=i/\i<k.rows.length:=by
 have hb:=at_b k n;by_cases e:J_ k n<0;exact .inl e;exact .inr ⟨(J_ k n).toNat,by omega,by omega⟩
theorem r21lend (k:I_) (n:Bs):Lq_ (fK k) n=(fK (Bc_ k n).1,(Bc_ k n).2):=by
 unfold Lq_ Bc_ lt;dsimp only;rw[Ns_]
 rcases at_c k n with e|⟨i,e,hi⟩
 exact tX;rw[e,decide_eq_false pB];simp only[cond_false,Int.toNat_natCast];rw[gt_f hi,show (fRow (gt k.rows i)).l=(gt k.rows i).l.items from rfl,r18lend,Wz_ hi]
theorem r21back (k:I_) (n:Bs) (id:Int):Nc_ (fK k) n id=(fK (Bb_ k n id).1,(Bb_ k n id).2):=by
 unfold Nc_ Bb_ lt;dsimp only;rw[Ns_]
 rcases at_c k n with e|⟨i,e,hi⟩
 exact tX;rw[e,decide_eq_false pB];simp only[cond_false,Int.toNat_natCast];rw[gt_f hi,show (fRow (gt k.rows i)).l=(gt k.rows i).l.items from rfl,r18back,Wz_ hi]
theorem Sn_ (k:I_) (n:Bs) (id:Int):Em_ (fK k) n id=(fK (U_ k n id).1,(U_ k n id).2):=by
 unfold Em_ U_ lt;dsimp only;rw[Ns_]
 rcases at_c k n with e|⟨i,e,hi⟩
 exact tX;rw[e,decide_eq_false pB];simp only[cond_false,Int.toNat_natCast];rw[gt_f hi,show (fRow (gt k.rows i)).l=(gt k.rows i).l.items from rfl,r18remove,Wz_ hi]
theorem r21late0 (t:Int):∀ l:List Eu_,(∀ r∈l,∀ x∈r.l.items,0<=x.O_.due)->Hn_ t (l.map fRow)=Az_ t l
 |[],_=>rfl
 |r::l,h=>by
   rw[List.map_cons]
   unfold Hn_ Az_ lt
   have :M7_ (fRow r).l t=Dh_ r.l t:=r18late _ _ (h r pF)
   rw[this,r21late0 t l λq hq=>h q pZ]
   rfl
theorem r21late {k:I_} (h:KG k) (t:Int):I6_ (fK k) t=Ah_ k t:=
 r21late0 t k.rows λr hr x hx=>(wf_of ((h.2.1 r hr).2.2.2 x hx).1).1.2.1.1
def toK (s:Q_):I_:=⟨s.next,s.most,s.rows.map λr=>⟨r.q,⟨r.l⟩⟩,s.rises⟩
def toS (q:F_):E_:=⟨⟨q.book,toK q.C_,q.notes,q.seen,q.spent⟩,q.p,q.at_⟩
def fS (s:E_):F_:=⟨s.L_,s.place,s.x.book,fK s.x.C_,s.x.notes,s.x.seen,s.x.spent⟩
theorem Xl_ (k:I_):toK (fK k)=k:=by
 unfold toK fK;dsimp only;rw[List.map_map];have :((λr:El_=>(⟨r.q,⟨r.l⟩⟩:Eu_)) ∘ fRow)=id:=rfl;rw[this,List.map_id]
theorem fK_to (s:Q_):fK (toK s)=s:=by
 unfold toK fK;dsimp only;rw[List.map_map];have :(fRow ∘ (λr:El_=>(⟨r.q,⟨r.l⟩⟩:Eu_)))=id:=rfl;rw[this,List.map_id]
theorem toS_f (s:E_):toS (fS s)=s:=by
 unfold toS fS;dsimp only;rw[Xl_]
theorem fS_to (q:F_):fS (toS q)=q:=by
 unfold toS fS;dsimp only;rw[fK_to]
def Dj_ (k:List Bs) (may:List Bool) (y:Bs):Nat->List Bool->Int->(List Bool)
 |0,_,_=>default
 | f2+1,next_,j=>(bif decide (j<=(k.length:Int)) then
 (bif decide (y=[35]) then
 (bif (gt may ((j).toNat)) then
 Dj_ k may y f2 (next_.set ((j).toNat) true) (j+1)
 else (bif decide (0<j) then
 Dj_ k may y f2 (next_.set ((j).toNat) (gt next_ (((j-1)).toNat))) (j+1)
 else Dj_ k may y f2 (next_.set ((j).toNat) false) (j+1)))
 else (bif decide (0<j) then
 Dj_ k may y f2 (next_.set ((j).toNat) ((gt may (((j-1)).toNat))&&((decide (y=[42]))||(decide (y=(gt k (((j-1)).toNat))))))) (j+1)
 else Dj_ k may y f2 next_ (j+1)))
 else next_)
def Eh_ (k:List Bs):List Bs->List Bool->Bool
 |[],may=>(gt may k.length)
 | x::t,may=>(lt1 (Dj_ k may x (k.length+1-((0:Int)).toNat+1) (List.replicate (k.length+1) false) 0) (λmay1=>
 Eh_ k t may1))
def Kh_ (p:List Bs) (k:List Bs):Bool:=
 Eh_ k p ((List.replicate (k.length+1) false).set 0 true)
def Im_ (p:Pair):List Pair->Bool
 |[]=>false
 | x::t=>(bif decide (x=p) then
 true
 else Im_ p t)
def Tm_ (h:List Pair) (p:Pair):Bool:=
 Im_ p h
def F5_ (r:Rule) (h:List Pair):List Pair->Int->Bool
 | [],n=>(bif r.all then
 (decide (n=(r.want.length:Int)))
 else (decide (0<n)))
 | x::t,n=>(bif (Tm_ h x) then
 F5_ r h t (n+1)
 else F5_ r h t n)
def Ok_ (r:Rule) (key:Bs) (h:List Pair):Bool:=
 (bif decide (r.sort=0) then
 (decide (r.key=key))
 else (bif decide (r.sort=1) then
 true
 else (bif decide (r.sort=2) then
 (Kh_ (Ck_ r.key) (Ck_ key))
 else F5_ r h r.want 0)))
def K1_ (r:Rule):Int:=
 (bif decide (3<r.sort) then
 8
 else (bif !decide ((keyE (D9_ (decide (0<r.sort))) r.key)=0) then
 (keyE (D9_ (decide (0<r.sort))) r.key)
 else (Du_ r.want)))
def Hg_ (name:Bs):List Z_->Nat->Int
 |[],k=>(-1)
 | x::t,k=>(bif decide ((x.name)=name) then
 (k:Int)
 else Hg_ name t (k+1))
def Fa_ (b:Ac_) (name:Bs):Int:=
 Hg_ name b.Ad_ 0
def M6_ (x:R_) (sort:Int):Rule:=
 (⟨sort,x.key,x.want,x.all⟩:Rule)
def Jn_ (l:List Bs) (s:Bs):Nat->Nat->(List Bs)
 |0,_=>default
 | f2+1,v=>(bif decide ((v:Int)<(l.length:Int)) then
 (bif decide ((gt l v)=s) then
 l
 else Jn_ l s f2 (v+1))
 else (l++[s]))
def Nq_ (l:List Bs) (s:Bs):(List Bs):=
 Jn_ l s (l.length-0+1) 0
def Fg_ (b:Ac_) (Ak_:Bs) (key:Bs) (h:List Pair) (r:Int):List R_->List Bs->List Bs->(List Bs)×(List Bs)×Int
 |[],queues,places=>(queues,places,0)
 | x::t,queues,places=>(bif ((decide ((x.Ak_)=Ak_))&&(Ok_ (M6_ x ((gt b.Ad_ ((r).toNat)).sort)) key h)) then
 (bif x.up then
 lt (Nq_ places (x.to')) λr1=>
 Fg_ b Ak_ key h r t queues r1
 else lt (Nq_ queues (x.to')) λr2=>
 Fg_ b Ak_ key h r t r2 places)
 else Fg_ b Ak_ key h r t queues places)
def G4_ (b:Ac_) (Ak_:Bs) (key:Bs) (h:List Pair):(List Bs)×(List Bs)×Int:=
 lt (Fa_ b Ak_) λr=>
 (bif decide (r<0) then
 ([],[],10)
 else (bif decide (((gt b.Ad_ ((r).toNat)).sort)=4) then
 ([],[(gt b.Ad_ ((r).toNat)).to'],0)
 else Fg_ b Ak_ key h r b.binds [] []))
def Ep_ (b:Ac_) (queue:Bs):List R_->List R_->Ac_
 |[],l=>(⟨b.Ad_,l⟩:Ac_)
 | x::t,l=>(bif ((x.up)||(!decide ((x.to')=queue))) then
 Ep_ b queue t (l++[x])
 else Ep_ b queue t l)
def Ki_ (b:Ac_) (queue:Bs):Ac_:=
 Ep_ b queue b.binds []
def M4_ (b:Ac_) (x:Z_):Ac_×Int:=
 (lt1 ((bif ((decide ((Cx_ x.name)=0))&&(decide (4<x.sort))) then
 8
 else (Cx_ x.name))) (λe_1=>
 (lt1 ((bif ((decide (e_1=0))&&(decide (x.sort=4))) then
 (Cx_ x.to')
 else e_1)) (λe_2=>
 (lt1 ((bif (((decide (e_2=0))&&(decide (x.sort<4)))&&(!decide (x.to'=[]))) then
 4
 else e_2)) (λe_3=>
 (bif !decide (e_3=0) then
 (b,e_3)
 else lt (Fa_ b x.name) λr=>
 (bif ((decide (0<=r))&&(decide ((gt b.Ad_ ((r).toNat))=x))) then
 (b,0)
 else (bif decide (0<=r) then
 (b,9)
 else (bif decide (8<=(b.Ad_.length:Int)) then
 (b,12)
 else ((⟨(b.Ad_++[x]),b.binds⟩:Ac_),0)))))))))))
def Fl_ (name:Bs):List R_->List Z_->List R_->Ac_×Int
 |[],shops1,binds1=>((⟨shops1,binds1⟩:Ac_),0)
 | x::t,shops1,binds1=>(bif !decide ((x.Ak_)=name) then
 Fl_ name t shops1 (binds1++[x])
 else Fl_ name t shops1 binds1)
def F6_ (b:Ac_) (name:Bs):List Z_->List Z_->List R_->Ac_×Int
 |[],Ad_,binds=>Fl_ name b.binds Ad_ binds
 | x1::t1,Ad_,binds=>(bif !decide ((x1.name)=name) then
 F6_ b name t1 (Ad_++[x1]) binds
 else F6_ b name t1 Ad_ binds)
def M3_ (b:Ac_) (name:Bs):Ac_×Int:=
 lt (Fa_ b name) λr=>
 (bif decide (r<0) then
 (b,10)
 else F6_ b name b.Ad_ [] [])
def Dx_ (b:Ac_) (x:R_):List R_->Ac_×Int
 | []=>(bif decide (32<=(b.binds.length:Int)) then
 (b,12)
 else ((⟨b.Ad_,(b.binds++[x])⟩:Ac_),0))
 | x1::t=>(bif decide (x=x1) then
 (b,0)
 else Dx_ b x t)
def G9_ (b:Ac_) (x:R_):Ac_×Int:=
 lt (Fa_ b x.Ak_) λr=>
 (bif decide (r<0) then
 (b,10)
 else (bif decide (((gt b.Ad_ ((r).toNat)).sort)=4) then
 (b,8)
 else (lt1 ((bif decide ((Cx_ x.to')=0) then
 lt (M6_ x ((gt b.Ad_ ((r).toNat)).sort)) λr1=>
 (K1_ r1)
 else (Cx_ x.to'))) (λe_1=>
 (bif !decide (e_1=0) then
 (b,e_1)
 else Dx_ b x b.binds)))))
def Ei_ (b:Ac_) (x:R_):List R_->List R_->Int->Ac_×Int
 | [],l,e_1=>(bif decide (e_1=0) then
 ((⟨b.Ad_,l⟩:Ac_),e_1)
 else (b,e_1))
 | x1::t,l,e_1=>(bif decide (x=x1) then
 Ei_ b x t l 0
 else Ei_ b x t (l++[x1]) e_1)
def Jm_ (b:Ac_) (x:R_):Ac_×Int:=
 Ei_ b x b.binds [] 10
def Hh_ (b:Ac_):List R_->Nat->Bool
 |[],k1=>true
 | x::t,k1=>(bif !(decide (x=(gt b.binds k1))) then
 false
 else Hh_ b t (k1+1))
def Gw_ (a:Ac_) (b:Ac_):List Z_->Nat->Bool
 |[],k=>Hh_ b a.binds 0
 | x1::t1,k=>(bif !decide (x1=(gt b.Ad_ k)) then
 false
 else Gw_ a b t1 (k+1))
def P2_ (a:Ac_) (b:Ac_):Bool:=
 (bif ((!decide ((a.Ad_.length:Int)=(b.Ad_.length:Int)))||(!decide ((a.binds.length:Int)=(b.binds.length:Int)))) then
 false
 else Gw_ a b a.Ad_ 0)
def Pj_ (p:G_) (at_:Int):F_:=
 lt (Wx_ ((gt p.places ((at_).toNat)).base) ((gt p.places ((at_).toNat)).bytes)) λr=>
 (⟨p,at_,(⟨[],[]⟩:Ac_),r,(⟨0,[]⟩:Bx_),(⟨0,0,0,0,0,0,0,0,0,0,0,0,0,0,0,0⟩:A16_u64),(⟨(⟨0,0⟩:Ba_),(⟨0,0⟩:Ba_),(⟨0,0⟩:Ba_),(⟨0,0⟩:Ba_),(⟨0,0⟩:Ba_),(⟨0,0⟩:Ba_),(⟨0,0⟩:Ba_),(⟨0,0⟩:Ba_)⟩:A8_SpentR)⟩:F_)
def Mg_ (own:Int) (tick:Int) (life:Int):Int:=
 (bif ((decide (life=0))||(decide ((IntKind.wrap .u64 (tick+life))<tick))) then
 own
 else (bif ((decide (0<own))&&(decide (own<(IntKind.wrap .u64 (tick+life))))) then
 own
 else (IntKind.wrap .u64 (tick+life))))
def Fb_ (s:F_) (tick:Int) (kind:Int) (text:Bs):F_:=
 lt (Nr_ s.notes (⟨tick,kind,text⟩:C1_)) λr=>
 (⟨s.p,s.at_,s.book,s.C_,r.1,s.seen,s.spent⟩:F_)
def K3_ (s:F_) (to_:Int) (tick:Int):F_×Bool:=
 lt (Et_ s.p s.at_ to_) λr=>
 (bif decide (r<0) then
 (s,false)
 else lt (N3_ s.p tick) λr1=>
 (lt1 ((bif decide (((A8.get s.spent ((r).toNat)).round)=r1) then
 ((A8.get s.spent ((r).toNat)).count)
 else 0)) (λn=>
 (bif decide (((gt s.p.grants ((r).toNat)).budget)<=n) then
 (s,false)
 else lt (Fb_ (⟨s.p,s.at_,s.book,s.C_,s.notes,s.seen,(A8.set s.spent (⟨r1,(n+1)⟩:Ba_) ((r).toNat))⟩:F_) tick 2 ((gt s.p.places ((to_).toNat)).name)) λr2=>
 (r2,true)))))
def Co_ (m:Mail) (tick:Int):List Bs->List Dv_->Int->F_->F_×(List Dv_)×Int×Int
 |[],gone,n,x=>(x,gone,n,0)
 |x1::t,gone,n,x=>lt (Ct_ x.C_ x1) λr=>
 (bif decide (r<0) then
 Co_ m tick t gone n x
 else lt (Mc_ x.C_ x1 (⟨m.id,m.Ak_,m.key,m.head,m.body,(Mg_ m.due tick ((gt x.C_.rows ((r).toNat)).q.life)),m.hops⟩:Mail)) λr1=>
 (bif !decide (r1.2.2.2=0) then
 (x,[],0,r1.2.2.2)
 else (bif !decide (r1.2.2.1.Ak_=[]) then
 Co_ m tick t (gone++[(⟨x1,r1.2.2.1⟩:Dv_)]) (n+1) (⟨x.p,x.at_,x.book,r1.1,x.notes,x.seen,x.spent⟩:F_)
 else Co_ m tick t gone (n+1) (⟨x.p,x.at_,x.book,r1.1,x.notes,x.seen,x.spent⟩:F_))))
def Gs_ (s:F_) (queues:List Bs) (m:Mail) (tick:Int):F_×(List Dv_)×Int×Int:=
 Co_ m tick queues [] 0 s
def Gz_ (s:F_) (m:Mail) (tick:Int) (r:(List Bs)×(List Bs)×Int) (r1:F_×(List Dv_)×Int×Int):List Bs->Int->F_->F_×(List Dv_)×Int×Int
 |[],n,x=>(x,r1.2.1,n,0)
 |x2::t,n,x=>lt (I4_ s.p x2) λr2=>
 (lp1 ((bif decide (((gt s.book.Ad_ (((Fa_ s.book m.Ak_)).toNat)).sort)=4) then
 lt (K3_ x r2 tick) λr3=>
 (bif !r3.2 then
 .ret (s,[],0,19)
 else .fin r3.1)
 else .fin x)) (λx1=>
 lt (Hy_ x1.C_ r2 (⟨0,m.Ak_,m.key,m.head,m.body,m.due,m.hops⟩:Mail)) λr4=>
 (bif !decide (r4.2=0) then
 (s,[],0,r4.2)
 else Gz_ s m tick r r1 t (n+1) (⟨x1.p,x1.at_,x1.book,r4.1,x1.notes,x1.seen,x1.spent⟩:F_))) (λr=>r))
def J4_ (s:F_) (m:Mail) (tick:Int):F_×(List Dv_)×Int×Int:=
 lt (G4_ s.book m.Ak_ m.key m.head) λr=>
 (bif !decide (r.2.2=0) then
 (s,[],0,r.2.2)
 else lt (Gs_ s r.1 (⟨0,m.Ak_,m.key,m.head,m.body,m.due,m.hops⟩:Mail) tick) λr1=>
 (bif !decide (r1.2.2.2=0) then
 (s,[],0,r1.2.2.2)
 else Gz_ s m tick r r1 r.2.1 r1.2.2.1 r1.1))
def Hq_ (tick:Int):Nat->List Dv_->Int->Int->F_->F_×Int
 |0,_,_,_,_=>default
 | f2+1,gone1,lost,i,x=>(bif decide (i<(gone1.length:Int)) then
 (bif ((decide ((Ct_ x.C_ ((gt gone1 ((i).toNat)).queue))<0))||(decide (((gt x.C_.rows (((Ct_ x.C_ ((gt gone1 ((i).toNat)).queue))).toNat)).q.dead)=[]))) then
 Hq_ tick f2 gone1 lost (i+1) x
 else (lt4 ((bif decide (((gt gone1 ((i).toNat)).O_.hops)<4) then
 lt (J4_ x (⟨(gt gone1 ((i).toNat)).O_.id,(gt x.C_.rows (((Ct_ x.C_ ((gt gone1 ((i).toNat)).queue))).toNat)).q.dead,(gt gone1 ((i).toNat)).O_.key,(gt gone1 ((i).toNat)).O_.head,(gt gone1 ((i).toNat)).O_.body,0,(IntKind.wrap .u8 (((gt gone1 ((i).toNat)).O_.hops)+1))⟩:Mail) tick) λr=>
 (r.2.2.2,r.2.1,(⟨(gt gone1 ((i).toNat)).O_.id,(gt x.C_.rows (((Ct_ x.C_ ((gt gone1 ((i).toNat)).queue))).toNat)).q.dead,(gt gone1 ((i).toNat)).O_.key,(gt gone1 ((i).toNat)).O_.head,(gt gone1 ((i).toNat)).O_.body,0,(IntKind.wrap .u8 (((gt gone1 ((i).toNat)).O_.hops)+1))⟩:Mail),r.1)
 else (7,[],(⟨(gt gone1 ((i).toNat)).O_.id,(gt x.C_.rows (((Ct_ x.C_ ((gt gone1 ((i).toNat)).queue))).toNat)).q.dead,(gt gone1 ((i).toNat)).O_.key,(gt gone1 ((i).toNat)).O_.head,(gt gone1 ((i).toNat)).O_.body,0,(gt gone1 ((i).toNat)).O_.hops⟩:Mail),x))) (λe_1 more x1 x2=>
 (bif !decide (e_1=0) then
 lt (Fb_ x tick 1 ((gt gone1 ((i).toNat)).queue)) λr1=>
 Hq_ tick f2 gone1 (lost+1) (i+1) r1
 else Hq_ tick f2 (gone1++more) lost (i+1) x2))))
 else (x,lost))
def Lr_ (s:F_) (gone:List Dv_) (tick:Int):F_×Int:=
 Hq_ tick (wtk (toK s.C_)+wto (gone.drop ((0:Int)).toNat)+1) gone 0 0 s
def Ld_ (s:F_) (m:Mail) (tick:Int):F_×X_×Int:=
 lt (J4_ s m tick) λr=>
 (bif !decide (r.2.2.2=0) then
 (s,(⟨(⟨(⟨0,[],[],[],[],0,0⟩:Mail),false,false⟩:D_),0,0⟩:X_),r.2.2.2)
 else lt (Lr_ r.1 r.2.1 tick) λr1=>
 (r1.1,(⟨(⟨(⟨0,[],[],[],[],0,0⟩:Mail),false,false⟩:D_),r.2.2.1,r1.2⟩:X_),0))
def Jo_ (s:F_) (d:Aa_):F_×X_×Int:=
 lt (Nc_ s.C_ d.name d.id) λr=>
 (bif !decide (r.2=0) then
 (s,(⟨(⟨(⟨0,[],[],[],[],0,0⟩:Mail),false,false⟩:D_),0,0⟩:X_),r.2)
 else (bif decide (d.how=2) then
 ((⟨s.p,s.at_,s.book,r.1,s.notes,s.seen,s.spent⟩:F_),(⟨(⟨(⟨0,[],[],[],[],0,0⟩:Mail),false,false⟩:D_),0,0⟩:X_),0)
 else lt (Em_ s.C_ d.name d.id) λr1=>
 (bif decide (d.how=1) then
 lt (Lr_ (⟨s.p,s.at_,s.book,r1.1,s.notes,s.seen,s.spent⟩:F_) [(⟨d.name,r1.2.1.O_⟩:Dv_)] d.tick) λr2=>
 (r2.1,(⟨(⟨(⟨0,[],[],[],[],0,0⟩:Mail),false,false⟩:D_),0,r2.2⟩:X_),0)
 else ((⟨s.p,s.at_,s.book,r1.1,s.notes,s.seen,s.spent⟩:F_),(⟨(⟨(⟨0,[],[],[],[],0,0⟩:Mail),false,false⟩:D_),0,0⟩:X_),0))))
def Kk_ (tick:Int):Nat->List Dv_->Bs->Bool->F_->Mail->F_×X_
 |0,_,_,_,_,_=>default
 | f2+1,gone,name,ok,x,x1=>(bif ok then
 lt (Em_ x.C_ name x1.id) λr1=>
 lt (I6_ r1.1 tick) λr2=>
 Kk_ tick f2 (gone++[(⟨name,x1⟩:Dv_)]) r2.1 r2.2.2 (⟨x.p,x.at_,x.book,r1.1,x.notes,x.seen,x.spent⟩:F_) r2.2.1
 else lt (Lr_ x gone tick) λr3=>
 (r3.1,(⟨(⟨(⟨0,[],[],[],[],0,0⟩:Mail),false,false⟩:D_),(gone.length:Int),r3.2⟩:X_)))
def Om_ (s:F_) (tick:Int):F_×X_:=
 lt (I6_ s.C_ tick) λr=>
 Kk_ tick (nik (toK s.C_)+1) [] r.1 r.2.2 s r.2.1
def Nf_ (s:F_) (d:Aa_):F_×X_×Int:=
 (bif decide ((s.p.places.length:Int)<=d.frm) then
 (s,(⟨(⟨(⟨0,[],[],[],[],0,0⟩:Mail),false,false⟩:D_),0,0⟩:X_),10)
 else (bif ((!(J2_ s.p d.frm s.at_))&&(decide ((Et_ s.p d.frm s.at_)<0))) then
 (s,(⟨(⟨(⟨0,[],[],[],[],0,0⟩:Mail),false,false⟩:D_),0,0⟩:X_),11)
 else (bif decide (d.number<=(A16.get s.seen ((d.frm).toNat))) then
 (s,(⟨(⟨(⟨0,[],[],[],[],0,0⟩:Mail),false,false⟩:D_),0,0⟩:X_),13)
 else (lt1 ((bif !(J2_ s.p d.frm s.at_) then
 lt (Fb_ (⟨s.p,s.at_,s.book,s.C_,s.notes,(A16.set s.seen d.number ((d.frm).toNat)),s.spent⟩:F_) d.tick 2 ((gt s.p.places ((d.frm).toNat)).name)) λr=>
 r
 else (⟨s.p,s.at_,s.book,s.C_,s.notes,(A16.set s.seen d.number ((d.frm).toNat)),s.spent⟩:F_))) (λx=>
 (lp1 ((bif decide (d.O_.hops<4) then
 lt (Ld_ x (⟨d.O_.id,d.O_.Ak_,d.O_.key,d.O_.head,d.O_.body,d.O_.due,(IntKind.wrap .u8 (d.O_.hops+1))⟩:Mail) d.tick) λr1=>
 (bif decide (r1.2.2=0) then
 .ret (r1.1,r1.2.1,0)
 else .fin (⟨d.O_.id,d.O_.Ak_,d.O_.key,d.O_.head,d.O_.body,d.O_.due,(IntKind.wrap .u8 (d.O_.hops+1))⟩:Mail))
 else .fin d.O_)) (λx1=>
 lt (Fb_ x d.tick 1 x1.Ak_) λr2=>
 (r2,(⟨(⟨(⟨0,[],[],[],[],0,0⟩:Mail),false,false⟩:D_),0,1⟩:X_),0)) (λr=>r)))))))
def K2_ (s:F_) (d:Aa_):F_×Int:=
 (bif decide (d.kind=0) then
 lt (I4_ s.p d.Ak_.to') λr=>
 (bif ((decide (d.Ak_.sort=4))&&(decide (r<0))) then
 (s,10)
 else (bif ((decide (d.Ak_.sort=4))&&(decide ((Et_ s.p s.at_ r)<0))) then
 (s,11)
 else lt (M4_ s.book d.Ak_) λr1=>
 ((⟨s.p,s.at_,r1.1,s.C_,s.notes,s.seen,s.spent⟩:F_),r1.2)))
 else (bif decide (d.kind=1) then
 lt (M3_ s.book d.name) λr2=>
 ((⟨s.p,s.at_,r2.1,s.C_,s.notes,s.seen,s.spent⟩:F_),r2.2)
 else (bif decide (d.kind=4) then
 lt (I4_ s.p d.bind.to') λr3=>
 (bif ((d.bind.up&&(decide (r3<0)))||((!d.bind.up)&&(decide ((Ct_ s.C_ d.bind.to')<0)))) then
 (s,10)
 else (bif (d.bind.up&&(!(J2_ s.p s.at_ r3))) then
 (s,11)
 else lt (G9_ s.book d.bind) λr4=>
 ((⟨s.p,s.at_,r4.1,s.C_,s.notes,s.seen,s.spent⟩:F_),r4.2)))
 else lt (Jm_ s.book d.bind) λr5=>
 ((⟨s.p,s.at_,r5.1,s.C_,s.notes,s.seen,s.spent⟩:F_),r5.2))))
def Lf_ (s:F_) (d:Aa_):F_×X_×Int:=
 (bif !decide ((De_ d)=0) then
 (s,(⟨(⟨(⟨0,[],[],[],[],0,0⟩:Mail),false,false⟩:D_),0,0⟩:X_),De_ d)
 else (lp2 ((bif decide (d.kind=2) then
 lt (Ne_ s.C_ d.queue) λr=>
 .fin (r.2,(⟨s.p,s.at_,s.book,r.1,s.notes,s.seen,s.spent⟩:F_))
 else (bif decide (d.kind=3) then
 lt (Nd_ s.C_ d.name) λr1=>
 (bif decide (r1.2=0) then
 lt (Ki_ s.book d.name) λr2=>
 .fin (r1.2,(⟨s.p,s.at_,r2,r1.1,s.notes,s.seen,s.spent⟩:F_))
 else .fin (r1.2,(⟨s.p,s.at_,s.book,r1.1,s.notes,s.seen,s.spent⟩:F_)))
 else (bif decide (d.kind=6) then
 lt (Ld_ s d.O_ d.tick) λr3=>
 .ret (r3.1,r3.2.1,r3.2.2)
 else (bif decide (d.kind=7) then
 lt (Ct_ s.C_ d.name) λr4=>
 (bif decide (r4<0) then
 .ret (s,(⟨(⟨(⟨0,[],[],[],[],0,0⟩:Mail),false,false⟩:D_),0,0⟩:X_),10)
 else lt (Lq_ s.C_ d.name) λr5=>
 (bif !r5.2.2 then
 .ret (s,(⟨(⟨(⟨0,[],[],[],[],0,0⟩:Mail),false,false⟩:D_),0,0⟩:X_),15)
 else .ret ((⟨s.p,s.at_,s.book,r5.1,s.notes,s.seen,s.spent⟩:F_),(⟨r5.2.1,0,0⟩:X_),0)))
 else (bif decide (d.kind=8) then
 lt (Jo_ s d) λr6=>
 .ret (r6.1,r6.2.1,r6.2.2)
 else (bif decide (d.kind=9) then
 lt (Om_ s d.tick) λr7=>
 .ret (r7.1,r7.2,0)
 else (bif decide (d.kind=10) then
 lt (Nf_ s d) λr8=>
 .ret (r8.1,r8.2.1,r8.2.2)
 else (bif decide (d.kind=11) then
 lt (Ol_ s.C_) λr9=>
 lt (Fb_ (⟨s.p,s.at_,s.book,r9,s.notes,s.seen,s.spent⟩:F_) d.tick 3 []) λr10=>
 .fin (De_ d,r10)
 else (bif decide (d.kind=12) then
 lt (Nr_ s.notes (⟨d.tick,d.code,d.text⟩:C1_)) λr11=>
 .fin (r11.2,(⟨s.p,s.at_,s.book,s.C_,r11.1,s.seen,s.spent⟩:F_))
 else lt (K2_ s d) λr12=>
 .fin (r12.2,r12.1))))))))))) (λe_1 x=>
 (bif !decide (e_1=0) then
 (s,(⟨(⟨(⟨0,[],[],[],[],0,0⟩:Mail),false,false⟩:D_),0,0⟩:X_),e_1)
 else (x,(⟨(⟨(⟨0,[],[],[],[],0,0⟩:Mail),false,false⟩:D_),0,0⟩:X_),0))) (λr=>r)))
def Kr_ (a:F_) (b:F_):Bool:=
 (((((P2_ a.book b.book)&&(P4_ a.C_ b.C_))&&(P3_ a.notes b.notes))&&(decide (a.seen=b.seen)))&&(decide (a.spent=b.spent)))
def iz:List D_->Int
 |[]=>0
 |x::l=>By_ x.O_+iz l
def rz:List Eu_->Int
 |[]=>0
 |x::l=>iz x.l.items+rz l
def uz (a:A16_RiseR):Nat->Int
 |0=>0
 |n+1=>B7_ (A16.get a (15-n))+uz a n
theorem lsize_eq0:∀ (t:List D_) (n:Int),Bw_ t n=n+iz t
 |[],n=>by simp[Bw_,iz]
 |x::t,n=>by
   unfold Bw_ lt
   dsimp only
   rw[lsize_eq0 t]
   simp only[iz];omega
theorem lsize_eq (l:Aq_):Eb_ l=iz l.items:=by
 unfold Eb_;rw[lsize_eq0];omega
theorem ksize_eq1 (s:I_):∀ (f:Nat) (n:Int) (k:Nat),k<=16->k<f->Ch_ s f n (16-k)=n+uz s.rises k
 |0,n,k,_,h=>by omega
 |f+1,n,0,_,_=>by
   unfold Ch_
   simp[uz]
 |f+1,n,k+1,h1,h2=>by
   unfold Ch_ lt
   rw[decide_eq_true (show ((16-(k+1):Nat):Int)<16 by omega),cond_true]
   have :=ksize_eq1 s f (n+B7_ (A16.get s.rises (16-(k+1)))) k pB pB
   dsimp only
   rw[show 16-(k+1)+1=16-k by omega,this]
   simp only[uz]
   rw[show 16-(k+1)=15-k by omega]
   omega
theorem ksize_eq0 (s:I_):∀ (t:List Eu_) (n:Int),Be_ s t n=n+rz t+uz s.rises 16
 |[],n=>by
   unfold Be_
   have :=ksize_eq1 s (16-0+1) n 16 pB pB
   rw[this];simp[rz]
 |x::t,n=>by
   unfold Be_ lt
   dsimp only
   rw[ksize_eq0 s t,lsize_eq]
   simp only[rz];omega
theorem Pu_ (s:I_):Ai_ s=rz s.rows+uz s.rises 16:=by
 unfold Ai_;rw[ksize_eq0];omega
theorem uz_far (a:A16_RiseR) (v:Aj_) (m:Nat) (hm:m<16):∀ k,k<=16->k<16-m->uz (A16.set a v m) k=uz a k
 |0,_,_=>rfl
 |k+1,h1,h2=>by
   simp only[uz]
   rw[uz_far a v m hm k pB pB,A16.get_set _ _ _ _ hm pB,if_neg pB]
theorem uz_set (a:A16_RiseR) (v:Aj_) (m:Nat) (hm:m<16):∀ k,k<=16->16-m<=k->uz (A16.set a v m) k=uz a k-B7_ (A16.get a m)+B7_ v
 |0,_,h=>by omega
 |k+1,h1,h2=>by
   simp only[uz]
   rw[A16.get_set _ _ _ _ hm pB]
   by_cases q:15-k=m
   . subst q
     rw[if_pos rfl,uz_far a v (15-k) hm k pB pB];omega
   . rw[if_neg q,uz_set a v m hm k pB pB];omega
theorem Xy_:∀ a b:List D_,iz (a++b)=iz a+iz b
 |[],b=>by simp[iz]
 |x::a,b=>by simp only[List.cons_append,iz,Xy_ a b];omega
theorem rz_app:∀ a b:List Eu_,rz (a++b)=rz a+rz b
 |[],b=>by simp[rz]
 |x::a,b=>by simp only[List.cons_append,rz,rz_app a b];omega
theorem iz_nn:∀ l:List D_,0<=iz l
 |[]=>Int.le_refl _
 |x::l=>by
   have :=iz_nn l
   have :=(W5_ x.O_).1
   simp only[iz];omega
theorem rz_set:∀ (l:List Eu_) (k:Nat) (x:Eu_),k<l.length->rz (l.set k x)=rz l-iz (gt l k).l.items+iz x.l.items
 |[],k,x,h=>by cases h
 |y::l,0,x,h=>by
   have e:gt (y::l) 0=y:=rfl
   simp only[List.set_cons_zero,rz,e];omega
 |y::l,k+1,x,h=>by
   have :=rz_set l k x pT
   have e:gt (y::l) (k+1)=gt l k:=by simp[gt]
   simp only[List.set_cons_succ,rz,e];omega
theorem rz_cut (l:List Eu_) (k:Nat):rz (l.take k++l.drop (k+1))<=rz l:=by
 conv=>rhs;rw[<- List.take_append_drop k l]
 rw[rz_app,rz_app]
 cases e:l.drop k with
 |nil=>
   have :l.drop (k+1)=[]:=by
     rw[List.drop_eq_nil_iff] at e ⊢;omega
   rw[this];omega
 |cons x t=>
   have :l.drop (k+1)=t:=by
     exact xS
   rw[this]
   have :=iz_nn x.l.items
   simp only[rz];omega
theorem iz_set:∀ (l:List D_) (k:Nat) (x:D_),x.O_=(gt l k).O_->iz (l.set k x)=iz l
 |[],k,x,_=>rfl
 |y::l,0,x,h=>by
   have e:gt (y::l) 0=y:=rfl
   rw[e] at h
   simp only[List.set_cons_zero,iz,h]
 |y::l,k+1,x,h=>by
   have e:gt (y::l) (k+1)=gt l k:=by simp[gt]
   rw[e] at h
   simp only[List.set_cons_succ,iz,iz_set l k x h]
theorem iz_cut (l:List D_) (k:Nat):iz (l.take k++l.drop (k+1))<=iz l:=by
 conv=>rhs;rw[<- List.take_append_drop k l]
 rw[Xy_,Xy_]
 cases e:l.drop k with
 |nil=>
   have :l.drop (k+1)=[]:=by
     rw[List.drop_eq_nil_iff] at e ⊢;omega
   rw[this];omega
 |cons x t=>
   have :l.drop (k+1)=t:=by
     exact xS
   rw[this]
   have :=(W5_ x.O_).1
   simp only[iz];omega
theorem llend_iz (l:Aq_):iz (Ce_ l).1.items=iz l.items:=by
 unfold Ce_ lt;let Q:Aq_×D_×Bool->Prop:=λr=>iz r.1.items=iz l.items;exact bt (P:=Q) (λ_=>rfl) λ_=>iz_set _ _ _ Y
theorem lrem_iz (l:Aq_) (id:Int):iz (Af_ l id).1.items<=iz l.items:=by
 unfold Af_ lt;let Q:Aq_×D_×Int->Prop:=λr=>iz r.1.items<=iz l.items;refine bt (P:=Q) (λ_=>Int.le_refl _) λe=>?_;simp only[decide_eq_false_iff_not] at e;have :(A2_ l id+1).toNat=(A2_ l id).toNat+1:=by omega
 show iz ([(l.items.take (A2_ l id).toNat),(l.items.drop (A2_ l id+1).toNat)].flatten)<=_;rw[this];simp only[List.flatten_cons,List.flatten_nil,List.append_nil];exact iz_cut _ _
def KOk (b:Int) (k:I_):Prop:=k.bytes=b/\rz k.rows+uz k.rises 16<=b
theorem rz_set_le (l:List Eu_) (k:Nat) (x:Eu_) (h:iz x.l.items<=iz (gt l k).l.items):rz (l.set k x)<=rz l:=by
 by_cases q:k<l.length;rw[rz_set l k x q];omega;rw[List.set_eq_of_length_le pB];exact Int.le_refl _
theorem Zn_ {b:Int} {s:I_} {k:Int} {l:Aq_} (h:KOk b s) (hl:iz l.items<=iz (gt s.rows k.toNat).l.items):KOk b (W_ s k l):=by
 refine⟨h.1,?_⟩;have :=h.2;have :=rz_set_le s.rows k.toNat ⟨(gt s.rows k.toNat).q,l⟩ hl;show rz (s.rows.set _ _)+uz s.rises 16<=b;omega
theorem kmake_k {b:Int} {s:I_} {q:Ae_} (h:KOk b s):KOk b (A4_ s q).1:=by
 unfold A4_ lt;let Q:I_×Int->Prop:=λr=>KOk b r.1;refine bt (P:=Q) (λ_=>h) λ_=>bt (P:=Q) (λ_=>h) λ_=>bt (P:=Q) (λ_=>h) λ_=>bt (P:=Q) (λ_=>h) λ_=>⟨h.1,?_⟩;show rz ([s.rows,[⟨q,⟨[]⟩⟩]].flatten)+_<=b;simp only[List.flatten_cons,List.flatten_nil,List.append_nil,rz_app,rz,iz];have :=h.2;show _+uz s.rises 16<=b;omega
theorem kdrop_k {b:Int} {s:I_} {n:Bs} (h:KOk b s):KOk b (Ax_ s n).1:=by
 unfold Ax_ lt;let Q:I_×Int->Prop:=λr=>KOk b r.1;refine bt (P:=Q) (λ_=>h) λe=>⟨h.1,?_⟩;simp only[decide_eq_false_iff_not] at e;have e1:(J_ s n+1).toNat=(J_ s n).toNat+1:=by omega
 show rz ([(s.rows.take (J_ s n).toNat),(s.rows.drop (J_ s n+1).toNat)].flatten)+uz s.rises 16<=b;rw[e1];simp only[List.flatten_cons,List.flatten_nil,List.append_nil];have :=rz_cut s.rows (J_ s n).toNat;have :=h.2;omega
theorem klend_k {b:Int} {s:I_} {n:Bs} (h:KOk b s):KOk b (Bc_ s n).1:=by
 unfold Bc_ lt;let Q:I_×D_×Bool->Prop:=λr=>KOk b r.1;exact bt (P:=Q) (λ_=>h) λ_=>Zn_ h (Int.le_of_eq (llend_iz _))
theorem krem_k {b:Int} {s:I_} {n:Bs} {id:Int} (h:KOk b s):KOk b (U_ s n id).1:=by
 unfold U_ lt;let Q:I_×D_×Int->Prop:=λr=>KOk b r.1;exact bt (P:=Q) (λ_=>h) λ_=>Zn_ h (lrem_iz _ _)
theorem iz_set2 (l:List D_) (k:Nat) (a b c d:Bool):iz ((l.set k ⟨(gt l k).O_,a,b⟩).set k ⟨(gt (l.set k ⟨(gt l k).O_,a,b⟩) k).O_,c,d⟩)=iz l:=
 (iz_set (l.set k ⟨(gt l k).O_,a,b⟩) k ⟨(gt (l.set k ⟨(gt l k).O_,a,b⟩) k).O_,c,d⟩ Y).trans (iz_set l k ⟨(gt l k).O_,a,b⟩ Y)
theorem lback_iz (l:Aq_) (id:Int):iz (Cu_ l id).1.items=iz l.items:=by
 unfold Cu_ lt;let Q:Aq_×Int->Prop:=λr=>iz r.1.items=iz l.items;refine bt (P:=Q) (λ_=>rfl) λ_=>bt (P:=Q) (λ_=>rfl) λ_=>?_;exact iz_set2 _ _ _ _ _ _
theorem V9_:∀ (t:List D_) (k:Nat) (x:Aq_),iz (Bn_ t k x).items=iz x.items
 |[],k,x=>rfl
 |y::t,k,x=>by
   unfold Bn_
   let Q:Aq_->Prop:=λr=>iz r.items=iz x.items
   exact bt (P:=Q) (λ_=>(V9_ t _ _).trans (iz_set2 _ _ _ _ _ _)) λ_=>V9_ t _ _
theorem lwake_iz (l:Aq_):iz (Di_ l).items=iz l.items:=V9_ _ _ _
theorem kback_k {b:Int} {s:I_} {n:Bs} {id:Int} (h:KOk b s):KOk b (Bb_ s n id).1:=by
 unfold Bb_ lt;let Q:I_×Int->Prop:=λr=>KOk b r.1;exact bt (P:=Q) (λ_=>h) λ_=>Zn_ h (Int.le_of_eq (lback_iz _ _))
theorem kraise_k {b:Int} {s:I_} {p:Int} {m:Mail} (h:KOk b s):KOk b (Au_ s p m).1:=by
 unfold Au_ lt;let Q:I_×Int->Prop:=λr=>KOk b r.1;refine bt (P:=Q) (λ_=>h) λe1=>?_;simp only[Bool.or_eq_false_iff,decide_eq_false_iff_not] at e1;refine bt (P:=Q) (λ_=>h) λ_=>bt (P:=Q) (λ_=>h) λe=>⟨h.1,?_⟩;simp only[decide_eq_false_iff_not] at e;rw[Pu_] at e;have h1:=h.1;show rz s.rows+uz (A16.set s.rises _ p.toNat) 16<=b;rw[uz_set _ _ _ pB 16 pB pB];omega
theorem kwake_k0 {b:Int}:∀ (t:List Eu_) (k:Nat) (x:I_),KOk b x->(∀ i,i<t.length->gt x.rows (k+i)=gt t i)->KOk b (Bf_ t k x)
 |[],k,x,h,_=>h
 |y::t,k,x,h,hr=>by
   unfold Bf_ lt
   have h0:gt x.rows k=y:=hr 0 pF
   refine kwake_k0 t (k+1) _ (Zn_ h (by rw[lwake_iz];rw[Int.toNat_natCast,h0];exact Int.le_refl _)) λi hi=>?_
   show gt (x.rows.set ((k:Int)).toNat _) (k+1+i)=_
   rw[Int.toNat_natCast]
   have :gt (x.rows.set k ⟨(gt x.rows k).q,Di_ y.l⟩) (k+1+i)=gt x.rows (k+1+i):=by
     simp only[gt,List.getD_eq_getElem?_getD]
     rw[List.getElem?_set_ne pB]
   rw[this,show k+1+i=k+(i+1) by omega,hr (i+1) pO]
   simp[gt]
theorem kwake_k {b:Int} {s:I_} (h:KOk b s):KOk b (Cs_ s):=kwake_k0 s.rows 0 s h λi _=>by rw[Nat.zero_add]
theorem lrem_eq {l:Aq_} (h:LnOk l) {k:Nat} (hk:k<l.items.length):iz (Af_ l (gt l.items k).O_.id).1.items+By_ (gt l.items k).O_=iz l.items:=by
 unfold Af_ lt;dsimp only;rw[Zv_ h hk];have e:decide ((k:Int)<0)=false:=by simp
 rw[e,cond_false];show iz ([(l.items.take ((k:Int)).toNat),(l.items.drop ((k:Int)+1).toNat)].flatten)+_=_;rw[show ((k:Int)+1).toNat=k+1 by omega,Int.toNat_natCast];simp only[List.flatten_cons,List.flatten_nil,List.append_nil]
 conv=>rhs;rw[<- List.take_append_drop k l.items]
 rw[Xy_,Xy_];have e2:l.items.drop k=gt l.items k::l.items.drop (k+1):=by
   rw[List.drop_eq_getElem_cons hk]
   simp[gt,hk]
 rw[e2];simp only[iz];omega
theorem ladd_iz {l:Aq_} {m:Mail} (e:(At_ l m).2=0):iz (At_ l m).1.items=iz l.items+By_ m:=by
 revert e
 unfold At_ C7_ lt;dsimp only;let Q:Aq_×Int->Prop:=λr=>r.2=0->iz r.1.items=iz l.items+By_ m;refine bt (P:=Q) (λe h=>?_) λ_ _=>?_;simp only[Bool.not_eq_true',decide_eq_false_iff_not] at e;exact (e h).elim;show iz ([l.items,[B8_ ⟨m,false,false⟩]].flatten)=_;simp only[List.flatten_cons,List.flatten_nil,List.append_nil,Xy_,iz];rw[show (B8_ ⟨m,false,false⟩).O_=m from rfl];omega
theorem zsize:By_ ⟨0,[],[],[],[],0,0⟩=0:=by decide +kernel
theorem kput_k {b:Int} {s:I_} {n:Bs} {m:Mail} (hs:StkOk s) (h:KOk b s):KOk b (As_ s n m).1:=by
 unfold As_ lt;let Q:I_×Int×Mail×Int->Prop:=λr=>KOk b r.1;refine bt (P:=Q) (λ_=>h) λe=>?_;refine bt (P:=Q) (λ_=>h) λ_=>?_;refine bt (P:=Q) (λ_=>h) λ_=>?_;simp only[decide_eq_false_iff_not] at e;have hb:=at_b s n;obtain⟨k,hk⟩:∃ k:Nat,J_ s n=k:=⟨_,(Int.toNat_of_nonneg pB).symm⟩;rw[hk] at hb ⊢;simp only[Int.toNat_natCast];have hl:LnOk (gt s.rows k).l:=RwsOk.at hs.1 (getG pB);refine lp2E (P:=Q) (λq=>iz q.1.items+By_ q.2=iz (gt s.rows k).l.items) ?_ λx x1 hx=>?_;refine bt (P:=LoP _ _) (λ_=>?_) λ_=>by show iz (gt s.rows k).l.items+By_ ⟨0,[],[],[],[],0,0⟩=_;rw[zsize];omega
 refine bt (P:=LoP _ _) (λ_=>h) λe2=>?_;obtain⟨j,hj,he⟩:=Vx_ (l:=(gt s.rows k).l) (by simpa using e2);show iz _+By_ _=_;rw[he];exact lrem_eq hl hj;refine bt (P:=Q) (λ_=>h) λe3=>bt (P:=Q) (λ_=>h) λe4=>⟨h.1,?_⟩;simp only[decide_eq_false_iff_not] at e3;have e4':(At_ x ⟨s.next,m.Ak_,m.key,m.head,m.body,m.due,m.hops⟩).2=0:=by simpa using e4
 have h4:=ladd_iz e4';unfold B0_ at e3;rw[Pu_] at e3;have h1:=h.1;have hx':iz x.items+By_ x1=iz (gt s.rows k).l.items:=hx;show rz (s.rows.set ((k:Int)).toNat _)+uz s.rises 16<=b;rw[Int.toNat_natCast,rz_set _ _ _ pB];dsimp only;omega
theorem fsz1 {k:I_} (hw:KW k):∀ (f:Nat) (n:Int) (v:Nat),Kj_ (fK k) f n v=Ch_ k f n v
 |0,_,_=>rfl
 |f+1,n,v=>by
   unfold Kj_ Ch_ lt
   by_cases hv:v<16
   . have e:decide ((v:Int)<16)=true:=decide_eq_true pB
     rw[e,cond_true,cond_true]
     have :Nb_ (A16.get (fK k).rises v)=B7_ (A16.get k.rises v):=usz_eq0 _ _ (hw.2 v hv)
     rw[this]
     exact fsz1 hw f _ _
   . have e:decide ((v:Int)<16)=false:=decide_eq_false pB
     rw[e,cond_false,cond_false]
theorem fsz0 {k:I_} (hw:KW k):∀ (l:List Eu_) (n:Int),(∀ r∈l,LW r.l.items)->Ho_ (fK k) (l.map fRow) n=Be_ k l n
 |[],n,_=>fsz1 hw _ _ _
 |r::l,n,hl=>by
   rw[List.map_cons]
   unfold Ho_ Be_ lt
   have :M9_ (fRow r).l=Eb_ r.l:=lsz_eq0 _ _ (hl r pF)
   rw[this]
   exact fsz0 hw l _ λq hq=>hl q pZ
theorem fsz {k:I_} (hw:KW k):J3_ (fK k)=Ai_ k:=fsz0 hw k.rows 0 λr hr=>hw.1 r hr
theorem wake0':∀ (t:List Eu_) (i:Nat) (x:I_),x.rows.drop i=t->Hp_ (t.map fRow) i (fK x)=fK (Bf_ t i x)
 |[],_,_,_=>rfl
 |y::t,i,x,h=>by
   have hk:i<x.rows.length:=by
     rcases Nat.lt_or_ge i x.rows.length with q|q
     . exact q
     . rw[List.drop_eq_nil_iff.2 q] at h;cases h
   have hd:=List.drop_eq_getElem_cons hk
   rw[hd] at h
   obtain⟨h1,h2⟩:=List.cons.inj h
   have hg:gt x.rows i=y:=by simp[gt,hk,h1]
   rw[List.map_cons]
   unfold Hp_ Bf_ lt
   dsimp only
   rw[gt_f hk,hg,show (fRow y).l=y.l.items from rfl,r18wake,Wz_ hk]
   refine wake0' t (i+1) _ ?_
   show (x.rows.set ((i:Int)).toNat _).drop (i+1)=t
   rw[Int.toNat_natCast,List.drop_set_of_lt pB]
   exact h2
theorem r21wake (k:I_):Ol_ (fK k)=fK (Cs_ k):=wake0' k.rows 0 k pF
theorem rput_mem {x:Aj_} {m y:Mail} (h:y∈(Bg_ x m).1.kept):y∈x.kept\/y=m:=by
 revert h
 unfold Bg_;let R:Aj_×Int->Prop:=λr=>y∈r.1.kept->y∈x.kept\/y=m;refine bt (P:=R) (λ_ h=> .inl h) λ_=>bt (P:=R) (λ_ h=> .inl h) λ_=>λh=>?_
 rcases Nn_ (List.mem_of_mem_drop h) with q|q
 exact .inl q;exact .inr q
theorem kw_set {k:I_} (h:KW k) {x:Aj_} (hx:∀ m∈x.kept,Wm m) (i:Nat) (hi:i<16):KW ⟨k.next,k.bytes,k.rows,A16.set k.rises x i⟩:=by
 refine⟨h.1,λj hj m hm=>?_⟩;have hm:m∈(A16.get (A16.set k.rises x i) j).kept:=hm;rw[A16.get_set _ _ _ _ hi hj] at hm;by_cases q:j=i;rw[if_pos q] at hm;exact hx m hm;rw[if_neg q] at hm;exact h.2 j hj m hm
theorem r21raise {k:I_} {p:Int} {m:Mail} (h:StkOk k) (hw:KW k) (hm:Wm m):Hy_ (fK k) p m=(fK (Au_ k p m).1,(Au_ k p m).2):=by
 unfold Hy_ Au_ lt;dsimp only;have e0:decide (15<p) = decide (16<=p):=by
   by_cases q:16<=p
   . exact tY
   . exact tW
 rw[e0]
 cases e:((decide (p<0))||(decide (16<=p))) with
 |true=>rfl
 |false=>
   simp only[Bool.or_eq_false_iff,decide_eq_false_iff_not] at e
   simp only[cond_false]
   have hi:p.toNat<16:=by omega
   have hr:Ir_ (A16.get (fK k).rises p.toNat) m=Bg_ (A16.get k.rises p.toNat) m:=r20put (h.2.1 _ hi).1
   rw[hr]
   generalize hx:Bg_ (A16.get k.rises p.toNat) m=x
   by_cases q:x.2=0
   . rw[decide_eq_true q]
     simp only[Bool.not_true,cond_false]
     have hkw:KW ⟨k.next,k.bytes,k.rows,A16.set k.rises x.1 p.toNat⟩:=kw_set hw (λy hy=>by
       rw[<- hx] at hy
       rcases rput_mem hy with q|q
       . exact hw.2 _ hi y q
       . rw[q];exact hm) _ hi
     have hs:J3_ (⟨(fK k).next,(fK k).most,(fK k).rows,A16.set (fK k).rises x.1 p.toNat⟩:Q_)=Ai_ ⟨k.next,k.bytes,k.rows,A16.set k.rises x.1 p.toNat⟩:=fsz hkw
     have hz:Ai_ ⟨k.next,k.bytes,k.rows,A16.set k.rises x.1 p.toNat⟩=Ai_ k-B7_ (A16.get k.rises p.toNat)+B7_ x.1:=by
       rw[Pu_,Pu_]
       dsimp only
       rw[uz_set _ _ _ hi 16 pB pB]
       omega
     rw[hs,hz]
     show (bif decide (k.bytes<_) then _ else _)=_
     cases decide (k.bytes<Ai_ k-B7_ (A16.get k.rises p.toNat)+B7_ x.1)<;>rfl
   . rw[decide_eq_false q];rfl
theorem zsz:By_ ⟨0,[],[],[],[],0,0⟩=0:=zsize
theorem add_0 {l:Aq_} {m:Mail} (h1:Eg_ m=0) (h2:∀ x∈l.items,x.O_.id<m.id) (h3:l.items.length<64):(At_ l m).2=0:=by
 have hc:Ec_ l m=0:=by
   unfold Ec_
   rw[h1,decide_eq_true rfl]
   have e:((decide (0<(l.items.length:Int)))&&(decide (m.id<=((gt l.items ((((l.items.length:Int)-1)).toNat)).O_.id))))=false:=by
     by_cases q:0<l.items.length
     . have :=h2 _ (Go_ (xs:=l.items) (k:=((l.items.length:Int)-1).toNat) pB)
       rw[decide_eq_false (show ¬m.id<=(gt l.items ((l.items.length:Int)-1).toNat).O_.id by omega),Bool.and_false]
     . rw[decide_eq_false (show ¬(0:Int)<l.items.length by omega),Bool.false_and]
   rw[e,decide_eq_false (show ¬(64:Int)<=l.items.length by omega)]
   rfl
 unfold At_ C7_ lt;dsimp only;rw[hc];rfl
theorem add_items {l:Aq_} {m:Mail} {x:D_} (h:x∈(At_ l m).1.items):x∈l.items\/x.O_=m:=by
 revert h
 unfold At_ C7_ lt;dsimp only;let R:Aq_×Int->Prop:=λr=>x∈r.1.items->x∈l.items\/x.O_=m;refine bt (P:=R) (λ_ h=> .inl h) λ_=>λh=>?_
 rcases Nn_ h with q|q
 exact .inl q;exact .inr (by rw[q];rfl)
theorem rem_items {l:Aq_} {id:Int} {x:D_} (h:x∈(Af_ l id).1.items):x∈l.items:=by
 revert h
 unfold Af_ lt;dsimp only;let R:Aq_×D_×Int->Prop:=λr=>x∈r.1.items->x∈l.items;exact bt (P:=R) (λ_ h=>h) λ_=>λh=>X6_ h
theorem r21put {k:I_} {n:Bs} {m:Mail} (h:StkOk k) (hq:RoB k) (hg:KG k) (hm:Wf m):Mc_ (fK k) n m=(fK (As_ k n m).1,(As_ k n m).2):=by
 have hw:=kw_of hg;unfold Mc_ As_ lt lt1;dsimp only;rw[Ns_]
 rcases at_c k n with e|⟨i,e,hi⟩
 exact tX;rw[e,decide_eq_false (show ¬(i:Int)<0 by omega)];simp only[cond_false,decide_true,cond_true,Int.toNat_natCast];by_cases e2:Eg_ m=0;rw[decide_eq_true e2];simp only[Bool.true_and,Bool.not_true,cond_false];by_cases e3:k.next = 0;simp only[show decide ((fK k).next = 0)=true from decide_eq_true e3,decide_eq_true e3];rfl;simp only[show decide ((fK k).next = 0)=false from decide_eq_false e3,decide_eq_false e3,cond_false,e2,decide_true,Bool.not_true];simp only[gt_f hi];obtain⟨row,hrow⟩:∃ row,gt k.rows i=row:=⟨_,rfl⟩;have hmem:row∈k.rows:=hrow ▸ Go_ hi;have hln:LnOk row.l:=h.1.2.1 row hmem;have hrg:=hg.2.1 row hmem;have hqc:=hq row hmem;have hqm:=(qcheck_f hqc).2.2;have h64:=hln.1;simp only[hrow];have hw2:IntKind.wrap .u64 (Jv_ row.l)=(row.l.items.length:Int):=Oq_ (show (0:Int)<=(row.l.items.length:Int) by omega) (show (row.l.items.length:Int)<=_ by omega);simp only[hw2,show (fRow row).q=row.q from rfl,show (fRow row).l=row.l.items from rfl,r18first];have key:∀ (l:Aq_) (x:Mail),LnOk l->(∀ y∈l.items,y∈row.l.items)->l.items.length<64->iz l.items+By_ x=iz row.l.items ->
     (bif !decide ((bif decide ((fK k).most<J3_ (⟨IntKind.wrap .u64 ((fK k).next + 1),(D2_ (fK k) (i:Int) (Hi_ l.items (⟨(fK k).next,m.Ak_,m.key,m.head,m.body,m.due,m.hops⟩:Mail)).1).most,(D2_ (fK k) (i:Int) (Hi_ l.items (⟨(fK k).next,m.Ak_,m.key,m.head,m.body,m.due,m.hops⟩:Mail)).1).rows,(D2_ (fK k) (i:Int) (Hi_ l.items (⟨(fK k).next,m.Ak_,m.key,m.head,m.body,m.due,m.hops⟩:Mail)).1).rises⟩:Q_)) then 12 else (Hi_ l.items (⟨(fK k).next,m.Ak_,m.key,m.head,m.body,m.due,m.hops⟩:Mail)).2)=0) then
       (fK k,(0:Int),(⟨0,[],[],[],[],0,0⟩:Mail),(bif decide ((fK k).most<J3_ (⟨IntKind.wrap .u64 ((fK k).next + 1),(D2_ (fK k) (i:Int) (Hi_ l.items (⟨(fK k).next,m.Ak_,m.key,m.head,m.body,m.due,m.hops⟩:Mail)).1).most,(D2_ (fK k) (i:Int) (Hi_ l.items (⟨(fK k).next,m.Ak_,m.key,m.head,m.body,m.due,m.hops⟩:Mail)).1).rows,(D2_ (fK k) (i:Int) (Hi_ l.items (⟨(fK k).next,m.Ak_,m.key,m.head,m.body,m.due,m.hops⟩:Mail)).1).rises⟩:Q_)) then 12 else (Hi_ l.items (⟨(fK k).next,m.Ak_,m.key,m.head,m.body,m.due,m.hops⟩:Mail)).2))
     else ((⟨IntKind.wrap .u64 ((fK k).next + 1),(D2_ (fK k) (i:Int) (Hi_ l.items (⟨(fK k).next,m.Ak_,m.key,m.head,m.body,m.due,m.hops⟩:Mail)).1).most,(D2_ (fK k) (i:Int) (Hi_ l.items (⟨(fK k).next,m.Ak_,m.key,m.head,m.body,m.due,m.hops⟩:Mail)).1).rows,(D2_ (fK k) (i:Int) (Hi_ l.items (⟨(fK k).next,m.Ak_,m.key,m.head,m.body,m.due,m.hops⟩:Mail)).1).rises⟩:Q_),(fK k).next,x,0)) =
     (λr:I_×Int×Mail×Int=>(fK r.1,r.2)) (bif decide (B0_ k+By_ x<By_ (⟨k.next,m.Ak_,m.key,m.head,m.body,m.due,m.hops⟩:Mail)) then
       (k,0,(⟨0,[],[],[],[],0,0⟩:Mail),12)
     else bif !decide ((At_ l (⟨k.next,m.Ak_,m.key,m.head,m.body,m.due,m.hops⟩:Mail)).2=0) then
       (k,0,(⟨0,[],[],[],[],0,0⟩:Mail),(At_ l (⟨k.next,m.Ak_,m.key,m.head,m.body,m.due,m.hops⟩:Mail)).2)
     else (⟨IntKind.wrap .u64 ((W_ k (i:Int) (At_ l (⟨k.next,m.Ak_,m.key,m.head,m.body,m.due,m.hops⟩:Mail)).1).next + 1),(W_ k (i:Int) (At_ l (⟨k.next,m.Ak_,m.key,m.head,m.body,m.due,m.hops⟩:Mail)).1).bytes,(W_ k (i:Int) (At_ l (⟨k.next,m.Ak_,m.key,m.head,m.body,m.due,m.hops⟩:Mail)).1).rows,(W_ k (i:Int) (At_ l (⟨k.next,m.Ak_,m.key,m.head,m.body,m.due,m.hops⟩:Mail)).1).rises⟩,k.next,x,0)):=by
   intro l x hl hsub h64' hiz
   have en:(fK k).next = k.next :=rfl
   rw[en]
   generalize hm':(⟨k.next,m.Ak_,m.key,m.head,m.body,m.due,m.hops⟩:Mail)=m'
   have hid:m'.id=k.next :=by rw[<- hm']
   have ha:=add_0 (l:=l) (m:=m') (by rw [<- hm',mailC_id];exact e2) (λy hy=>by
     have :=(hrg.2.2.2 y (hsub y hy)).2
     rw[hid];omega) h64'
   have hadd:=r18add (l:=l.items) (m:=m') hl.2.2
   rw[hadd,Wz_ hi]
   have e5:(At_ ⟨l.items⟩ m')=At_ l m':=rfl
   rw[e5]
   generalize hL:At_ l m'=r3 at ha ⊢
   have hkw:KW ⟨IntKind.wrap .u64 (k.next + 1),k.bytes,(W_ k (i:Int) r3.1).rows,k.rises⟩:=by
     refine⟨λr hr=>?_,hw.2⟩
     rcases List.mem_or_eq_of_mem_set (show r∈k.rows.set ((i:Int)).toNat _ from hr) with q|q
     . exact hw.1 r q
     . rw[q]
       intro y hy
       have hy:y∈r3.1.items:=hy
       rw[<- hL] at hy
       rcases add_items hy with q2|q2
       . exact hw.1 row hmem y (hsub y q2)
       . rw[q2,<- hm'];exact hm.2
   have hs:J3_ (⟨IntKind.wrap .u64 (k.next + 1),(fK (W_ k (i:Int) r3.1)).most,(fK (W_ k (i:Int) r3.1)).rows,(fK (W_ k (i:Int) r3.1)).rises⟩:Q_)=Ai_ ⟨IntKind.wrap .u64 (k.next + 1),k.bytes,(W_ k (i:Int) r3.1).rows,k.rises⟩:=fsz hkw
   have hz:Ai_ ⟨IntKind.wrap .u64 (k.next + 1),k.bytes,(W_ k (i:Int) r3.1).rows,k.rises⟩=Ai_ k-By_ x+By_ m':=by
     rw[Pu_,Pu_]
     show rz (k.rows.set ((i:Int)).toNat _)+_=_
     rw[Int.toNat_natCast,rz_set _ _ _ hi,hrow]
     have :iz r3.1.items=iz l.items+By_ m':=by rw[<- hL];exact ladd_iz (by rw[hL];exact ha)
     dsimp only
     omega
   rw[hs,hz,ha]
   have hd:decide ((fK k).most<Ai_ k-By_ x+By_ m') = decide (B0_ k+By_ x<By_ m'):=by
     show decide (k.bytes<_)=_
     unfold B0_
     by_cases q:k.bytes-Ai_ k+By_ x<By_ m'
     . exact tY
     . exact tW
   rw[hd]
   cases decide (B0_ k+By_ x<By_ m')<;>rfl
 by_cases c:row.q.most<=(row.l.items.length:Int);rw[decide_eq_true c];simp only[cond_true];by_cases c2:(Ar_ row.l).2=true;rw[show Ar_ ⟨row.l.items⟩=Ar_ row.l from rfl,c2];simp only[Bool.not_true,cond_false];rw[r18remove];obtain⟨j,hj,he⟩:=Vx_ c2;have hrem:=Py_ (id:=(Ar_ row.l).1.id) hln;have hz:=lrem_eq hln hj;rw[<- he] at hz;refine key (Af_ row.l (Ar_ row.l).1.id).1 (Ar_ row.l).1 hrem.1 (λy hy=>rem_items hy) ?_ hz;have h3:=(lg_rem hrg.2.2 (Ar_ row.l).1.id).2.2 (first_of c2);omega;rw[show Ar_ ⟨row.l.items⟩=Ar_ row.l from rfl];have :(Ar_ row.l).2=false:=by simpa using c2
 rw[this];rfl;rw[decide_eq_false c];simp only[cond_false];refine key row.l ⟨0,[],[],[],[],0,0⟩ hln (λy hy=>hy) ?_ (by rw[zsz];omega);omega;rw[decide_eq_false e2];have e3:(decide (Eg_ m=0) && decide ((fK k).next = 0))=false:=by rw[decide_eq_false e2];rfl
 simp only[Bool.false_and,cond_false,Bool.not_false,cond_true];rw[decide_eq_false e2];rfl
def StepM (k:List Bs) (may:List Bool) (y:Bs) (j:Nat) (next N:List Bool):Prop:=
 N.length=k.length+1/\(∀ i,i<j->gt N i=gt next i)/\∀ i,j<=i->i<=k.length->gt N i =
   if y=[35] then (gt may i||(decide (0<i)&&gt N (i-1))) else if 0<i then (gt may (i-1)&&(decide (y=[42]) || decide (y=gt k (i-1)))) else gt next i
theorem U6_ {α:Type} [Inhabited α] (xs:List α) (k i:Nat) (y:α) (h:k<xs.length):gt (xs.set k y) i = if i=k then y else gt xs i:=by
 by_cases e:i=k;subst e;rw[if_pos rfl];simp[gt,h];rw[if_neg e];simp only[gt,List.getD_eq_getElem?_getD];rw[List.getElem?_set_ne (λq=>e q.symm)]
theorem m1 (k:List Bs) (may:List Bool) (y:Bs):∀ (f j:Nat) (next :List Bool),next.length=k.length+1->k.length+1<f+j->j<=k.length+1->StepM k may y j next (Dj_ k may y f next (j:Int))
 |0,j,next,_,h,h2=>by omega
 |f+1,j,next,hl,hf,hj=>by
   unfold Dj_
   by_cases q:j<=k.length
   . have e:decide ((j:Int)<=(k.length:Int))=true:=decide_eq_true pB
     rw[e,cond_true]
     have en:((j:Int)).toNat=j:=by omega
     have ej:(j:Int)+1=((j+1:Nat):Int):=by omega
     have em:((j:Int)-1).toNat=j-1:=by omega
     rw[en,ej,em]
     have key:∀ (v:Bool),v=(if y=[35] then (gt may j||(decide (0<j)&&gt next (j-1))) else if 0<j then (gt may (j-1)&&(decide (y=[42]) || decide (y=gt k (j-1)))) else gt next j)->StepM k may y j next (Dj_ k may y f (next.set j v) ((j+1:Nat):Int)):=by
       intro v hv
       obtain⟨h1,h2,h3⟩:=m1 k may y f (j+1) (next.set j v) (by rw[List.length_set];exact hl) pB pB
       generalize Dj_ k may y f (next.set j v) ((j+1:Nat):Int)=N at h1 h2 h3 ⊢
       refine⟨h1,λi hi=>?_,λi hi hk=>?_⟩
       . rw[h2 i pB,U6_ _ _ _ _ pB,if_neg pB]
       . by_cases q2:i=j
         . subst q2
           rw[h2 i pB,U6_ _ _ _ _ pB,if_pos rfl,hv]
           by_cases q3:y=[35]
           . rw[if_pos q3,if_pos q3]
             by_cases q4:0<i
             . rw[h2 (i-1) pB,U6_ _ _ _ _ pB,if_neg pB]
             . rw[decide_eq_false q4];simp
           . rw[if_neg q3,if_neg q3]
         . rw[h3 i pB hk]
           by_cases q3:y=[35]
           . rw[if_pos q3,if_pos q3]
           . rw[if_neg q3,if_neg q3]
             by_cases q4:0<i
             . rw[if_pos q4,if_pos q4]
             . omega
     have same:next.set j (gt next j) = next :=by
       apply List.ext_getElem?
       intro i
       by_cases q2:i=j
       . subst q2
         rw[List.getElem?_set_self pB]
         rw[getG (xs:=next) (k:=i) pB]
       . rw[List.getElem?_set_ne (λe=>q2 e.symm)]
     by_cases q2:y=[35]
     . rw[decide_eq_true q2,cond_true]
       cases q3:gt may j with
       |true=>rw[cond_true];exact key true (by rw[if_pos q2,q3];rfl)
       |false=>
         rw[cond_false]
         by_cases q4:0<j
         . rw[decide_eq_true (show (0:Int)<(j:Int) by omega),cond_true]
           exact key _ (by rw[if_pos q2,q3,decide_eq_true q4];rfl)
         . rw[decide_eq_false (show ¬(0:Int)<(j:Int) by omega),cond_false]
           exact key _ (by rw[if_pos q2,q3,decide_eq_false q4];rfl)
     . rw[decide_eq_false q2,cond_false]
       by_cases q4:0<j
       . rw[decide_eq_true (show (0:Int)<(j:Int) by omega),cond_true]
         exact key _ (by rw[if_neg q2,if_pos q4])
       . rw[decide_eq_false (show ¬(0:Int)<(j:Int) by omega),cond_false]
         have :=key (gt next j) (by rw[if_neg q2,if_neg q4])
         rw[same] at this
         exact this
   . have e:decide ((j:Int)<=(k.length:Int))=false:=decide_eq_false pB
     rw[e,cond_false]
     exact⟨hl,λ_ _=>rfl,λi h1 h2=>by omega⟩
def AnyM (p k:List Bs) (may:List Bool):Prop:=∃ j,j<=k.length/\gt may j=true/\mt p (k.drop j)=true
theorem Uk_ {may N:List Bool} {n:Nat} (h:∀ i,i<=n->gt N i=(gt may i||(decide (0<i)&&gt N (i-1)))):∀ i,i<=n->(gt N i=true↔∃ j,j<=i/\gt may j=true)
 |0,hi=>by
   rw[h 0 hi]
   constructor
   . intro q;exact⟨0,Nat.le_refl 0,by simpa using q⟩
   . rintro⟨j,hj,q⟩
     have :j=0:=by omega
     subst this;simp[q]
 |i+1,hi=>by
   rw[h (i+1) hi]
   have ih:=Uk_ h i pB
   simp only[Bool.or_eq_true,Bool.and_eq_true,decide_eq_true_eq,Nat.add_sub_cancel]
   constructor
   . rintro (q|⟨_,q⟩)
     . exact⟨i+1,Nat.le_refl _,q⟩
     . obtain⟨j,hj,q2⟩:=ih.1 q
       exact⟨j,by omega,q2⟩
   . rintro⟨j,hj,q⟩
     by_cases e:j=i+1
     . exact .inl (e ▸ q)
     . exact .inr ⟨by omega,ih.2 ⟨j,by omega,q⟩⟩
theorem m0 (k:List Bs):∀ (p:List Bs) (may:List Bool),may.length=k.length+1->(Eh_ k p may=true↔AnyM p k may)
 |[],may,hl=>by
   unfold Eh_
   constructor
   . intro h;exact⟨k.length,Nat.le_refl _,h,by rw[List.drop_length];rfl⟩
   . rintro⟨j,hj,h1,h2⟩
     have :(k.drop j).isEmpty=true:=h2
     rw[List.isEmpty_iff,List.drop_eq_nil_iff] at this
     have :j=k.length:=by omega
     rw[<- this];exact h1
 |w::p,may,hl=>by
   unfold Eh_ lt1
   obtain⟨h1,_,h3⟩:=m1 k may w (k.length+1-((0:Int)).toNat+1) 0 (List.replicate (k.length+1) false) pF pB pB
   have e0:((0:Nat):Int)=0:=rfl
   rw[e0] at h1 h3
   generalize Dj_ k may w (k.length+1-((0:Int)).toNat+1) (List.replicate (k.length+1) false) 0=N at h1 h3 ⊢
   rw[m0 k p N h1]
   by_cases q:w=[35]
   . subst q
     have h4:∀ i,i<=k.length->gt N i=(gt may i||(decide (0<i)&&gt N (i-1))):=λi hi=>by
       have :=h3 i pB hi
       rwa [if_pos Y] at this
     constructor
     . rintro⟨j,hj,g1,g2⟩
       obtain⟨i,hi,g3⟩:=(Uk_ h4 j hj).1 g1
       refine⟨i,by omega,g3,Ti_.2 ⟨j-i,?_⟩⟩
       rw[List.drop_drop,show i+(j-i)=j by omega];exact g2
     . rintro⟨i,hi,g1,g2⟩
       obtain⟨f,g3⟩:=Ti_.1 g2
       rw[List.drop_drop] at g3
       by_cases q2:i+f<=k.length
       . exact⟨i+f,q2,(Uk_ h4 _ q2).2 ⟨i,by omega,g1⟩,g3⟩
       . refine⟨k.length,Nat.le_refl _,(Uk_ h4 _ (Nat.le_refl _)).2 ⟨i,hi,g1⟩,?_⟩
         rw[List.drop_of_length_le pB] at g3
         rw[List.drop_length];exact g3
   . have h4:∀ i,i<=k.length->gt N i = if 0<i then (gt may (i-1)&&(decide (w=[42]) || decide (w=gt k (i-1)))) else false:=λi hi=>by
       have :=h3 i pB hi
       rw[if_neg q] at this
       rw[this]
       by_cases q2:0<i
       . rw[if_pos q2,if_pos q2]
       . rw[if_neg q2,if_neg q2]
         have :i=0:=by omega
         subst this
         simp[gt]
     constructor
     . rintro⟨j,hj,g1,g2⟩
       rw[h4 j hj] at g1
       by_cases q2:0<j
       . rw[if_pos q2] at g1
         simp only[Bool.and_eq_true,Bool.or_eq_true,decide_eq_true_eq] at g1
         refine⟨j-1,by omega,g1.1,(Wd_ q).2 ⟨gt k (j-1),k.drop j,?_,g1.2,g2⟩⟩
         have :=Cz_ (xs:=k) (k:=j-1) pB
         rw[this,show j-1+1=j by omega]
       . rw[if_neg q2] at g1;cases g1
     . rintro⟨i,hi,g1,g2⟩
       obtain⟨x,r,g3,g4,g5⟩:=(Wd_ q).1 g2
       have hl2:i<k.length:=by
         rcases Nat.lt_or_ge i k.length with h|h
         . exact h
         . rw[List.drop_of_length_le h] at g3;cases g3
       rw[Cz_ hl2] at g3
       obtain⟨rfl,rfl⟩:=List.cons.inj g3
       refine⟨i+1,by omega,?_,g5⟩
       rw[h4 (i+1) pB,if_pos pB,Nat.add_sub_cancel,g1]
       simpa using g4
theorem r04matches (p k:List Bs):Kh_ p k=mt p k:=by
 unfold Kh_;have h:=m0 k p ((List.replicate (k.length+1) false).set 0 true) pF;have h2:AnyM p k ((List.replicate (k.length+1) false).set 0 true)↔mt p k=true:=by
   constructor
   . rintro⟨j,hj,g1,g2⟩
     rw[U6_ _ _ _ _ pF] at g1
     by_cases q:j=0
     . subst q;exact g2
     . rw[if_neg q] at g1
       have :gt (List.replicate (k.length+1) false) j=false:=by
         simp only[gt,List.getD_eq_getElem?_getD,List.getElem?_replicate]
         split<;>rfl
       rw[this] at g1;cases g1
   . intro g
     exact⟨0,by omega,by rw[U6_ _ _ _ _ pF,if_pos rfl],g⟩
 rw[h2] at h
 cases e1:Eh_ k p ((List.replicate (k.length+1) false).set 0 true) with
 |true=>exact (h.1 e1).symm
 |false=>
   cases e2:mt p k with
   |true=>rw[h.2 e2] at e1;cases e1
   |false=>rfl
theorem a8_ext {α:Type} {a b:A8 α} (h:∀ i,i<8->A8.get a i=A8.get b i):a=b:=by
 have h0:=h 0 pC;have h1:=h 1 pC;have h2:=h 2 pC;have h3:=h 3 pC;have h4:=h 4 pC;have h5:=h 5 pC;have h6:=h 6 pC;have h7:=h 7 pC;obtain⟨a0,a1,a2,a3,a4,a5,a6,a7⟩:=a;obtain⟨b0,b1,b2,b3,b4,b5,b6,b7⟩:=b;have h0:a0=b0:=h0;have h1:a1=b1:=h1;have h2:a2=b2:=h2;have h3:a3=b3:=h3;have h4:a4=b4:=h4;have h5:a5=b5:=h5;have h6:a6=b6:=h6;have h7:a7=b7:=h7;subst h0 h1 h2 h3 h4 h5 h6 h7;rfl
theorem there_none {b:Ac_} {x:R_} (h:x∉b.binds):Am_ b x<0:=by
 unfold Am_;by_cases q:0<=idxP (λz_4:R_=>decide (x=z_4)) b.binds;have h1:=Qo_ (p:=λz_4:R_=>decide (x=z_4)) q;have h2:=Io_ (λz_4:R_=>decide (x=z_4)) b.binds;rw[decide_eq_true_eq] at h1;exact (h (h1 ▸ Go_ pB)).elim;omega
def QS (q0:List Ae_) (k:I_):Prop:=k.rows.map (·.q)=q0
theorem Wm_ {q0:List Ae_} {k:I_} (h:QS q0 k) (i:Int) (l:Aq_):QS q0 (W_ k i l):=by
 unfold QS W_;dsimp only;by_cases q:i.toNat<k.rows.length;exact (My_ (λr:Eu_=>r.q) k.rows i.toNat (gt k.rows i.toNat) ⟨(gt k.rows i.toNat).q,l⟩ (getG q) Y).trans h;rw[List.set_eq_of_length_le pB];exact h
theorem qs_wake0 {q0:List Ae_}:∀ (t:List Eu_) (k:Nat) (x:I_),QS q0 x->QS q0 (Bf_ t k x)
 |[],_,_,h=>h
 |_::t,k,_,h=>qs_wake0 t (k+1) _ (Wm_ h _ _)
theorem cloQ (q0:List Ae_):Clw U64 (λ_=>True) (QS q0) (λ_=>True) where
 kp:=λ{k n m} _ _ h=>by
   unfold As_ lt
   let Q:I_×Int×Mail×Int->Prop:=λr=>QS q0 r.1/\True
   refine bt (P:=Q) (λ_=>⟨h,trivial⟩) λ_=>bt (P:=Q) (λ_=>⟨h,trivial⟩) λ_=>bt (P:=Q) (λ_=>⟨h,trivial⟩) λ_=>?_
   refine lp2E (P:=Q) (λ_=>True) ?_ λx x1 _=>?_
   . exact bt (P:=LoP _ _) (λ_=>bt (P:=LoP _ _) (λ_=>⟨h,trivial⟩) λ_=>trivial) λ_=>trivial
   . exact bt (P:=Q) (λ_=>⟨h,trivial⟩) λ_=>bt (P:=Q) (λ_=>⟨h,trivial⟩) λ_=>⟨Wm_ h _ _,trivial⟩
 kl:=λ{k n} h=>by
   unfold Bc_ lt
   let Q:I_×D_×Bool->Prop:=λr=>QS q0 r.1
   exact bt (P:=Q) (λ_=>h) λ_=>Wm_ h _ _
 kr:=λ{k n i} h=>by
   unfold U_ lt
   let Q:I_×D_×Int->Prop:=λr=>QS q0 r.1/\True
   exact bt (P:=Q) (λ_=>⟨h,trivial⟩) λ_=>⟨Wm_ h _ _,trivial⟩
 kb:=λ{k n i} h=>by
   unfold Bb_ lt
   let Q:I_×Int->Prop:=λr=>QS q0 r.1
   exact bt (P:=Q) (λ_=>h) λ_=>Wm_ h _ _
 ks:=λ{k p m} _ h=>by
   unfold Au_ lt
   let Q:I_×Int->Prop:=λr=>QS q0 r.1
   exact zG
 kw:=λ{k} _ h=>qs_wake0 _ _ _ h
 kt:=λ{k t} _=>trivial
 na:=λ_ _ _=>trivial
 wd:=λh=>h
 wr:=λh=>h
 wb:=λ_=>trivial
 wp:=λ_=>trivial
theorem forget_eq (b:Ac_) (n:Bs):Cm_ b n=⟨b.Ad_,b.binds.filter λy=>Gh_ y n⟩:=by
 unfold Cm_;rw[lt,Vd_]
def BdG (p:G_) (a:Int) (qs:List Ae_) (l:List Z_) (y:R_):Prop:=
 (∃ s,D0_ l y.Ak_=some s/\s.sort≠4/\Qc_ (Hc_ y s.sort)=0)/\Cx_ y.to'=0 /\
 (y.up=true->0<=K_ p y.to'/\Bj_ p a (K_ p y.to')=true)/\(y.up=false->∃ q∈qs,q.name=y.to')
def BkG (p:G_) (a:Int) (qs:List Ae_) (b:Ac_):Prop:=
 (b.Ad_.map (·.name)).Nodup/\b.binds.Nodup/\(∀ s∈b.Ad_,On_ s=0/\(s.sort=4->0<=K_ p s.to'/\0<=T_ p a (K_ p s.to')))/\∀ y∈b.binds,BdG p a qs b.Ad_ y
theorem bkg_nil (p:G_) (a:Int) (qs:List Ae_):BkG p a qs ⟨[],[]⟩:=⟨List.nodup_nil,List.nodup_nil,(λ_ h=>by cases h),λ_ h=>by cases h⟩
theorem bkg_forget {p:G_} {a:Int} {qs qs':List Ae_} {b:Ac_} {n:Bs} (h:BkG p a qs b) (hq:∀ q∈qs,q.name≠n->q∈qs'):BkG p a qs' (Cm_ b n):=by
 rw[forget_eq];obtain⟨h1,h2,h3,h4⟩:=h;refine⟨h1,h2.filter _,h3,λy hy=>?_⟩;obtain⟨hy1,hy2⟩:=List.mem_filter.1 hy;obtain⟨g1,g2,g3,g4⟩:=h4 y hy1;refine⟨g1,g2,g3,λhu=>?_⟩;obtain⟨q,hq1,hq2⟩:=g4 hu;refine⟨q,hq q hq1 (λe=>?_),hq2⟩;rw[Gh_,hu,Bool.false_or,Bool.not_eq_true',decide_eq_false_iff_not] at hy2;exact hy2 (hq2.symm.trans e)
theorem bkg_more {p:G_} {a:Int} {qs qs':List Ae_} {b:Ac_} (h:BkG p a qs b) (hq:∀ q∈qs,q∈qs'):BkG p a qs' b:=
 ⟨h.1,h.2.1,h.2.2.1,λy hy=>by
   obtain⟨g1,g2,g3,g4⟩:=h.2.2.2 y hy
   refine⟨g1,g2,g3,λhu=>?_⟩
   obtain⟨q,hq1,hq2⟩:=g4 hu
   exact⟨q,hq q hq1,hq2⟩⟩
theorem has_eq (p:Pair):∀ h:List Pair,Im_ p h = decide (p∈h)
 |[]=>rfl
 |x::t=>by
   unfold Im_
   rw[has_eq p t]
   by_cases e:x=p
   . subst e;simp
   . rw[decide_eq_false e,cond_false]
     have :¬p=x:=λq=>e q.symm
     simp[this]
theorem keys_go:∀ (h ah:List Pair),Jf_ ah h=0->(h.map (·.key)).Nodup/\∀ p∈h,∀ a∈ah,a.key≠p.key
 |[],_,_=>⟨List.nodup_nil,λ_ h=>by cases h⟩
 |p::t,ah,e=>by
   rw[Jf_] at e
   by_cases q:Fj_ p ah≠0
   . rw[if_pos q] at e;exact (q e).elim
   . rw[if_neg q] at e
     obtain⟨h1,h2⟩:=keys_go t (ah++[p]) e
     have hp:∀ a∈ah,a.key≠p.key:=by
       intro a ha he
       apply q
       have hs:(J8_ ah p.key).isSome=true:=by
         unfold J8_
         rw[List.find?_isSome]
         exact⟨a,ha,by simpa using he⟩
       unfold Fj_
       rw[hs]
       repeat' split
       all_goals first|assumption|omega|(rename_i h;simp at h)
     refine⟨?_,λr hr a ha=>?_⟩
     . rw[List.map_cons,List.nodup_cons]
       refine⟨λhm=>?_,h1⟩
       obtain⟨r,hr,he⟩:=List.mem_map.1 hm
       exact h2 r hr p pF he.symm
     . rcases List.mem_cons.1 hr with e|e
       . rw[e];exact hp a ha
       . exact h2 r e a (by simp[ha])
theorem hasP_eq {h:List Pair} (e:Du_ h=0) (p:Pair):Tm_ h p=hasP h p:=by
 unfold Tm_;rw[has_eq];have hn:(h.map (·.key)).Nodup:=by
   unfold Du_ at e
   split at e
   . cases e
   . exact (keys_go h [] e).1
 have hf:p∈h->J8_ h p.key=some p:=by
   clear e
   induction h with
   |nil=>intro h;cases h
   |cons x t ih=>
     intro hm
     rw[List.map_cons,List.nodup_cons] at hn
     unfold J8_
     rw[List.find?_cons]
     rcases List.mem_cons.1 hm with q|q
     . rw[q];simp
     . have :(x.key==p.key)=false:=by
         rw[beq_eq_false_iff_ne]
         intro he
         exact hn.1 (he ▸ List.mem_map_of_mem (f:=λr:Pair=>r.key) q)
       rw[this]
       exact ih hn.2 q
 unfold hasP;by_cases q:p∈h;rw[decide_eq_true q,hf q];simp
 . rw[decide_eq_false q]
   cases e2:J8_ h p.key with
   |none=>rfl
   |some x=>
     have hx:x∈h:=List.mem_of_find?_eq_some e2
     have :¬x=p:=λhe=>q (he ▸ hx)
     simp[this]
theorem goes0' (r:Rule) {h:List Pair} (e:Du_ h=0):∀ (t:List Pair) (n:Int),F5_ r h t n = bif r.all then decide (n+(t.countP (hasP h):Int)=r.want.length) else decide (0<n+(t.countP (hasP h):Int))
 |[],n=>by unfold F5_;simp
 |x::t,n=>by
   unfold F5_
   rw[hasP_eq e,goes0' r e t,goes0' r e t,List.countP_cons]
   cases hasP h x with
   |true=>
     simp only[cond_true,if_true]
     have :n+1+(t.countP (hasP h):Int)=n+((t.countP (hasP h)+1:Nat):Int):=by omega
     rw[this]
   |false=>simp
theorem heads_all (h:List Pair):∀ t:List Pair,Jr_ true h t = decide (t.countP (hasP h)=t.length)
 |[]=>rfl
 |x::t=>by
   rw[Jr_,List.countP_cons,List.length_cons]
   have hle:=List.countP_le_length (p:=hasP h) (l:=t)
   cases hasP h x with
   |true=>
     simp only[if_true]
     rw[heads_all h t]
     simp
   |false=>
     simp only[Bool.false_eq_true,if_false,if_true]
     rw[eq_comm,decide_eq_false_iff_not]
     omega
theorem heads_any (h:List Pair):∀ t:List Pair,Jr_ false h t = decide (0<t.countP (hasP h))
 |[]=>rfl
 |x::t=>by
   rw[Jr_,List.countP_cons]
   cases hasP h x with
   |true=>simp
   |false=>
     simp only[Bool.false_eq_true,if_false,Nat.add_zero]
     exact heads_any h t
theorem r10goes {r:Rule} {key:Bs} {h:List Pair} (e:Du_ h=0) (hs:0<=r.sort/\r.sort<=3):Ok_ r key h=O3_ r key h:=by
 unfold Ok_ O3_;by_cases q0:r.sort=0;rw[decide_eq_true q0,if_pos q0,cond_true];by_cases q:r.key=key;rw[decide_eq_true q,decide_eq_true q.symm];rw[decide_eq_false q,decide_eq_false (λe=>q e.symm)];rw[decide_eq_false q0,if_neg q0,cond_false];by_cases q1:r.sort=1;rw[decide_eq_true q1,cond_true,if_neg pB,if_neg pB];rw[decide_eq_false q1,cond_false];by_cases q2:r.sort=2;rw[decide_eq_true q2,cond_true,if_pos q2,r04matches]
 . rw[decide_eq_false q2,cond_false,if_neg q2,if_pos pB,goes0' r e]
   cases r.all with
   |true=>
     rw[cond_true,heads_all]
     by_cases q:r.want.countP (hasP h)=r.want.length
     . exact tY
     . exact tW
   |false=>
     rw[cond_false,heads_any]
     by_cases q:0<r.want.countP (hasP h)
     . exact tY
     . exact tW
theorem r10check {r:Rule} (h:0<=r.sort):K1_ r=Qc_ r:=by
 unfold K1_ Qc_;by_cases q:3<r.sort;rw[decide_eq_true q,if_pos q,cond_true];rw[decide_eq_false q,if_neg q,cond_false];by_cases q0:r.sort=0;rw[if_pos q0,q0];show (bif !decide (keyE [] r.key=0) then keyE [] r.key else Du_ r.want)=_;by_cases e:keyE [] r.key=0;rw[decide_eq_true e,if_neg pX];rfl;rw[decide_eq_false e,if_pos e];rfl;rw[if_neg q0,decide_eq_true (show 0<r.sort by omega)];show (bif !decide (keyE patB r.key=0) then keyE patB r.key else Du_ r.want)=_;by_cases e:keyE patB r.key=0;rw[decide_eq_true e,if_neg pX];rfl;rw[decide_eq_false e,if_pos e];rfl
theorem r14find (b:Ac_) (n:Bs):Fa_ b n=idxP (λs:Z_=>decide (s.name=n)) b.Ad_:=Qi_ _ (Hg_ n) (λ_=>rfl) (λ_ _ _=>rfl) b.Ad_ 0
theorem shop_c (b:Ac_) (n:Bs):(Fa_ b n<0/\D0_ b.Ad_ n=none)\/∃ i:Nat,Fa_ b n=i/\i<b.Ad_.length/\D0_ b.Ad_ n=some (gt b.Ad_ i):=by
 rw[r14find];have hb:=Io_ (λs:Z_=>decide (s.name=n)) b.Ad_;by_cases q:idxP (λs:Z_=>decide (s.name=n)) b.Ad_<0;exact .inl ⟨q,Ms_ q⟩;obtain⟨i,hi⟩:∃ i:Nat,idxP (λs:Z_=>decide (s.name=n)) b.Ad_=i:=⟨_,(Int.toNat_of_nonneg pB).symm⟩;have hl:i<b.Ad_.length:=by omega
 refine .inr ⟨i,hi,hl,?_⟩;have hg:=getG (xs:=b.Ad_) (k:=i) hl;have h2:b.Ad_[(idxP (λs:Z_=>decide (s.name=n)) b.Ad_).toNat]? = some (gt b.Ad_ i):=by rw[hi,Int.toNat_natCast];exact hg
 exact (Ul_ q h2).2
theorem put0' (l:List Bs) (s:Bs):∀ (f v:Nat),l.length-v<f->v<=l.length->Jn_ l s f v = bif decide (s∈l.drop v) then l else (l++[s])
 |0,v,h,_=>by omega
 |f+1,v,h,hv=>by
   unfold Jn_
   by_cases q:v<l.length
   . rw[decide_eq_true (show (v:Int)<(l.length:Int) by omega),cond_true,put0' l s f (v+1) pB pB,Cz_ q]
     by_cases e:gt l v=s
     . rw[decide_eq_true e,cond_true];simp[e]
     . rw[decide_eq_false e,cond_false]
       have :¬s=gt l v:=λq=>e q.symm
       simp[this]
   . rw[decide_eq_false (show ¬(v:Int)<(l.length:Int) by omega),cond_false,List.drop_of_length_le pB]
     simp
theorem r14put (l:List Bs) (s:Bs):Nq_ l s=Gt_ l s:=by
 unfold Nq_ Gt_;rw[put0' l s _ 0 pB pB];simp
theorem leads0 {b:Ac_} {Ak_ key:Bs} {h:List Pair} {i:Nat} (e:Du_ h=0) (hi:D0_ b.Ad_ Ak_=some (gt b.Ad_ i)) (hs:0<=(gt b.Ad_ i).sort/\(gt b.Ad_ i).sort<=3):∀ (t:List R_) (q p:List Bs),Fg_ b Ak_ key h (i:Int) t q p=Bd_ b Ak_ key h t q p
 |[],_,_=>rfl
 |x::t,q,p=>by
   unfold Fg_ Bd_ lt lt1
   dsimp only
   have hr:M6_ x (gt b.Ad_ ((i:Int)).toNat).sort=Hc_ x (gt b.Ad_ i).sort:=by rw[Int.toNat_natCast];rfl
   have hg:Ok_ (Hc_ x (gt b.Ad_ i).sort) key h=O3_ (Hc_ x (gt b.Ad_ i).sort) key h:=r10goes e hs
   rw[hr,hg,hi,Option.getD_some,r14put,r14put,leads0 e hi hs t,leads0 e hi hs t,leads0 e hi hs t]
   by_cases c:x.Ak_=Ak_
   . rw[decide_eq_true c]
     simp only[Bool.true_and,Bool.not_true,cond_false]
     cases O3_ (Hc_ x (gt b.Ad_ i).sort) key h<;>rfl
   . rw[decide_eq_false c];rfl
theorem r14leads {b:Ac_} {Ak_ key:Bs} {h:List Pair} (e:Du_ h=0) (hb:BkB b):G4_ b Ak_ key h=A8_ b Ak_ key h:=by
 unfold G4_ A8_ lt;dsimp only
 rcases shop_c b Ak_ with ⟨h1,h2⟩|⟨i,h1,hl,h2⟩
 rw[decide_eq_true h1,h2];rfl;rw[h1,decide_eq_false pB,h2];simp only[cond_false,Option.isSome_some,Bool.not_true,Option.getD_some,Int.toNat_natCast];have hsh:=hb.1 _ (Go_ hl);have h4:(gt b.Ad_ i).sort<=4:=by
   have :=hsh.1
   unfold On_ at this
   split at this
   . rename_i q;exact (q this).elim
   . split at this
     . cases this
     . omega
 by_cases c:(gt b.Ad_ i).sort=4;rw[decide_eq_true c];rfl;rw[decide_eq_false c,cond_false,cond_false];exact leads0 e h2 ⟨hsh.2,by omega⟩ _ _ _
theorem r14make (b:Ac_) (x:Z_):M4_ b x=Bu_ b x:=by
 unfold M4_ Bu_ lt lt1;dsimp only;have he:(bif (((decide ((bif ((decide ((bif ((decide ((Cx_ x.name)=0))&&(decide (4<x.sort))) then 8 else (Cx_ x.name))=0))&&(decide (x.sort=4))) then (Cx_ x.to') else (bif ((decide ((Cx_ x.name)=0))&&(decide (4<x.sort))) then 8 else (Cx_ x.name)))=0))&&(decide (x.sort<4)))&&(!decide (x.to'=[]))) then (4:Int) else (bif ((decide ((bif ((decide ((Cx_ x.name)=0))&&(decide (4<x.sort))) then 8 else (Cx_ x.name))=0))&&(decide (x.sort=4))) then (Cx_ x.to') else (bif ((decide ((Cx_ x.name)=0))&&(decide (4<x.sort))) then 8 else (Cx_ x.name))))=On_ x:=by
   unfold On_
   by_cases q:Cx_ x.name=0
   . rw[if_neg oP,decide_eq_true q,q]
     by_cases q1:4<x.sort
     . rw[if_pos q1,decide_eq_true q1];simp
     . rw[if_neg q1,decide_eq_false q1]
       by_cases q2:x.sort=4
       . rw[if_pos q2,decide_eq_true q2,decide_eq_false (show ¬x.sort<4 by omega)];simp
       . rw[if_neg q2,decide_eq_false q2,decide_eq_true (show x.sort<4 by omega)]
         by_cases q3:x.to'=[]
         . simp[q3]
         . simp[q3]
   . rw[if_pos q,decide_eq_false q];simp[q]
 rw[he];by_cases q:On_ x=0
 . rw[decide_eq_true q]
   simp only[Bool.not_true,cond_false]
   rcases shop_c b x.name with ⟨h1,h2⟩|⟨i,h1,hl,h2⟩
   rw[h2,decide_eq_false (show ¬0<=Fa_ b x.name by omega)]
   simp
   rw[h1,h2,decide_eq_true (show (0:Int)<=(i:Int) by omega)]
   simp only[Bool.true_and,Option.isSome_some,Option.getD_some,Int.toNat_natCast,cond_true]
   by_cases c:gt b.Ad_ i=x
   rw[decide_eq_true c,decide_eq_true c.symm]
   rw[decide_eq_false c,decide_eq_false (λe=>c e.symm)]
 rw[decide_eq_false q];rfl
theorem mb0 (b:Ac_) (x:R_):∀ t:List R_,Dx_ b x t = bif decide (x∈t) then (b,0) else Dx_ b x []
 |[]=>by simp
 |y::t=>by
   conv=>lhs;unfold Dx_
   rw[mb0 b x t]
   by_cases e:x=y
   . rw[decide_eq_true e];simp[e]
   . rw[decide_eq_false e,cond_false];simp[e]
theorem there_c (b:Ac_) (x:R_):decide (0<=Am_ b x) = decide (x∈b.binds):=by
 by_cases q:x∈b.binds
 . rw[decide_eq_true q,decide_eq_true_iff]
   unfold Am_
   rcases Int.lt_or_le (idxP (λz_4:R_=>decide (x=z_4)) b.binds) 0 with h|h
   have :=List.find?_eq_none.1 (Ms_ h) x q
   simp at this
   exact h
 rw[decide_eq_false q,decide_eq_false_iff_not];have :=there_none q;omega
theorem r14bind {b:Ac_} (hb:BkB b) (x:R_):G9_ b x=A7_ b x:=by
 unfold G9_ A7_ lt;dsimp only
 rcases shop_c b x.Ak_ with ⟨h1,h2⟩|⟨i,h1,hl,h2⟩
 rw[decide_eq_true h1,h2];rfl;rw[h1,decide_eq_false pB,h2];simp only[cond_false,Option.isSome_some,Bool.not_true,Option.getD_some,Int.toNat_natCast];by_cases c:(gt b.Ad_ i).sort=4;rw[decide_eq_true c];rfl;rw[decide_eq_false c];simp only[cond_false];have hr:K1_ (M6_ x (gt b.Ad_ i).sort)=Qc_ (Hc_ x (gt b.Ad_ i).sort):=r10check (hb.1 _ (Go_ hl)).2;rw[hr];by_cases e:Cx_ x.to'=0;rw[decide_eq_true e,cond_true,Bool.not_true,cond_false];unfold lt1;dsimp only;by_cases e2:Qc_ (Hc_ x (gt b.Ad_ i).sort)=0
 . rw[decide_eq_true e2]
   simp only[Bool.not_true,cond_false]
   rw[mb0,there_c]
   cases decide (x∈b.binds) with
   |true=>rfl
   |false=>
     unfold Dx_
     simp
 rw[decide_eq_false e2];rfl;rw[decide_eq_false e,cond_false,Bool.not_false,cond_true];unfold lt1;dsimp only;rw[decide_eq_false e];rfl
theorem un0 (b:Ac_) (x:R_):∀ (t l:List R_) (e:Int),Ei_ b x t l e=Ei_ b x [] (l++t.filter (λy=>!decide (x=y))) (bif decide (x∈t) then 0 else e)
 |[],l,e=>by simp
 |y::t,l,e=>by
   conv=>lhs;unfold Ei_
   rw[un0 b x t,un0 b x t]
   by_cases q:x=y
   . rw[decide_eq_true q,cond_true]
     subst q
     simp
   . rw[decide_eq_false q,cond_false]
     simp[q]
theorem filter_one {l:List R_} (hn:l.Nodup) {x:R_} {i:Nat} (hi:i<l.length) (he:gt l i=x):l.filter (λy=>!decide (x=y))=l.take i++l.drop (i+1):=by
 have hl:l=l.take i++(gt l i::l.drop (i+1)):=by rw[<- Cz_ hi,List.take_append_drop]
 rw[hl,List.nodup_append] at hn;obtain⟨_,h2,h3⟩:=hn;rw[List.nodup_cons] at h2;have ha:(l.take i).filter (λy=>!decide (x=y))=l.take i:=by
   rw[List.filter_eq_self]
   intro y hy
   have :=h3 y hy (gt l i) pF
   rw[he] at this
   have :¬x=y:=λq=>this q.symm
   exact rC
 have hb:(l.drop (i+1)).filter (λy=>!decide (x=y))=l.drop (i+1):=by
   rw[List.filter_eq_self]
   intro y hy
   have :¬x=y:=λe=>h2.1 (by rw[he,e];exact hy)
   exact rC
 exact zD
theorem r14unbind {b:Ac_} (hn:b.binds.Nodup) (x:R_):Jm_ b x=B4_ b x:=by
 unfold Jm_ B4_ lt;dsimp only;rw[un0];unfold Ei_;have hc:=there_c b x;by_cases q:x∈b.binds;rw[decide_eq_true q] at hc ⊢;have h0:0<=Am_ b x:=of_decide_eq_true hc;rw[decide_eq_false (show ¬Am_ b x<0 by omega)];have hb:-1<=Am_ b x/\Am_ b x<b.binds.length:=Io_ (λz_4:R_=>decide (x=z_4)) b.binds;have hg:=Qo_ (p:=λz_4:R_=>decide (x=z_4)) (l:=b.binds) h0;have hf:=filter_one hn (x:=x) (i:=(Am_ b x).toNat) pB (of_decide_eq_true hg).symm;have e1:(Am_ b x+1).toNat=(Am_ b x).toNat+1:=by omega
 rw[e1];simp[hf];rw[decide_eq_false q] at hc ⊢;have h0:¬0<=Am_ b x:=of_decide_eq_false hc;rw[decide_eq_true (show Am_ b x<0 by omega)];simp
theorem fg0 (b:Ac_) (n:Bs):∀ (t l:List R_),Ep_ b n t l=⟨b.Ad_,l++t.filter (λy=>Gh_ y n)⟩
 |[],l=>by unfold Ep_;simp
 |y::t,l=>by
   unfold Ep_
   rw[fg0 b n t,fg0 b n t,List.filter_cons]
   show (bif Gh_ y n then _ else _)=_
   cases Gh_ y n<;>simp
theorem r14forget (b:Ac_) (n:Bs):Ki_ b n=Cm_ b n:=by
 unfold Ki_;rw[fg0,forget_eq];simp
theorem dr1 (n:Bs) (s:List Z_):∀ (t l:List R_),Fl_ n t s l=(⟨s,l++t.filter (λy=>!decide (y.Ak_=n))⟩,0)
 |[],l=>by unfold Fl_;simp
 |y::t,l=>by
   unfold Fl_
   rw[dr1 n s t,dr1 n s t,List.filter_cons]
   cases decide (y.Ak_=n)<;>simp
theorem dr0 (b:Ac_) (n:Bs):∀ (t s:List Z_) (l:List R_),F6_ b n t s l=Fl_ n b.binds (s++t.filter (λy=>!decide (y.name=n))) l
 |[],s,l=>by unfold F6_;simp
 |y::t,s,l=>by
   unfold F6_
   rw[dr0 b n t,dr0 b n t,List.filter_cons]
   cases decide (y.name=n)<;>simp
theorem filter_shop {l:List Z_} (hn:(l.map (·.name)).Nodup) {n:Bs} {i:Nat} (hi:i<l.length) (he:(gt l i).name=n):l.filter (λy=>!decide (y.name=n))=l.take i++l.drop (i+1):=by
 have hl:l=l.take i++(gt l i::l.drop (i+1)):=by rw[<- Cz_ hi,List.take_append_drop]
 rw[hl,List.map_append,List.map_cons,List.nodup_append] at hn;obtain⟨_,h2,h3⟩:=hn;rw[List.nodup_cons] at h2;have ha:(l.take i).filter (λy=>!decide (y.name=n))=l.take i:=by
   rw[List.filter_eq_self]
   intro x hx
   have :=h3 x.name (List.mem_map_of_mem (f:=λr:Z_=>r.name) hx) (gt l i).name pF
   exact sD
 have hb:(l.drop (i+1)).filter (λy=>!decide (y.name=n))=l.drop (i+1):=by
   rw[List.filter_eq_self]
   intro x hx
   have :x.name≠(gt l i).name:=λe=>h2.1 (e ▸ List.mem_map_of_mem (f:=λr:Z_=>r.name) hx)
   exact sD
 exact zD
theorem r14drop {b:Ac_} (hn:(b.Ad_.map (·.name)).Nodup) (n:Bs):M3_ b n=Cp_ b n:=by
 unfold M3_ Cp_ lt;dsimp only;have e0:(λz_5:Z_=>(C2_ z_5 n))=(λs:Z_=>decide (s.name=n)):=rfl;rw[r14find,e0];have hb:=Io_ (λs:Z_=>decide (s.name=n)) b.Ad_;by_cases q:idxP (λs:Z_=>decide (s.name=n)) b.Ad_<0;exact tZ;rw[decide_eq_false q];simp only[cond_false];have hg:=Qo_ (p:=λs:Z_=>decide (s.name=n)) (l:=b.Ad_) pB;have hf:=filter_shop hn (i:=(idxP (λs:Z_=>decide (s.name=n)) b.Ad_).toNat) pB (of_decide_eq_true hg);have e1:(idxP (λs:Z_=>decide (s.name=n)) b.Ad_+1).toNat=(idxP (λs:Z_=>decide (s.name=n)) b.Ad_).toNat+1:=by omega
 rw[dr0,dr1,e1,Vd_];simp only[List.nil_append,hf,List.flatten_cons,List.flatten_nil,List.append_nil];rfl
theorem shopOf_app {l:List Z_} {x s:Z_} {n:Bs} (h:D0_ l n=some s):D0_ (l++[x]) n=some s:=by
 unfold D0_ at h ⊢;rw[List.find?_append,h];rfl
theorem shopOf_nm {l:List Z_} {n:Bs} (h:¬(D0_ l n).isSome=true):∀ s∈l,s.name≠n:=by
 unfold D0_ at h;intro s hs e
 apply h
 rw[List.find?_isSome];exact⟨s,hs,by simpa using e⟩
theorem bkg_make {p:G_} {a:Int} {qs:List Ae_} {b:Ac_} {x:Z_} (h:BkG p a qs b) (hx:x.sort=4->0<=K_ p x.to'/\0<=T_ p a (K_ p x.to')):BkG p a qs (Bu_ b x).1:=by
 unfold Bu_;let Q:Ac_×Int->Prop:=λr=>BkG p a qs r.1;refine bt (P:=Q) (λ_=>h) λe1=>bt (P:=Q) (λ_=>h) λ_=>bt (P:=Q) (λ_=>h) λe3=>bt (P:=Q) (λ_=>h) λ_=>?_;simp only[Bool.not_eq_false',decide_eq_true_eq] at e1;have hn:=shopOf_nm (l:=b.Ad_) (n:=x.name) (by rw[e3];decide);obtain⟨h1,h2,h3,h4⟩:=h;have hf:[b.Ad_,[x]].flatten=b.Ad_++[x]:=by simp
 refine⟨?_,h2,λs hs=>?_,λy hy=>?_⟩;show (([b.Ad_,[x]].flatten).map (·.name)).Nodup;rw[hf,List.map_append,List.nodup_append];refine⟨h1,by simp,λu hu v hv=>?_⟩;obtain⟨s,hs,rfl⟩:=List.mem_map.1 hu;simp only[List.map_cons,List.map_nil,List.mem_singleton] at hv;rw[hv];exact hn s hs
 . rcases Nn_ hs with q|q
   exact h3 s q
   rw[q];exact⟨e1,hx⟩
 obtain⟨⟨s,g1,g2,g3⟩,g4⟩:=h4 y hy;refine⟨⟨s,?_,g2,g3⟩,g4⟩;show D0_ [b.Ad_,[x]].flatten y.Ak_=some s;rw[hf];exact shopOf_app g1
theorem bkg_bind {p:G_} {a:Int} {qs:List Ae_} {b:Ac_} {x:R_} (h:BkG p a qs b) (hu:x.up=true->0<=K_ p x.to'/\Bj_ p a (K_ p x.to')=true) (hq:x.up=false->∃ q∈qs,q.name=x.to'):BkG p a qs (A7_ b x).1:=by
 unfold A7_;let Q:Ac_×Int->Prop:=λr=>BkG p a qs r.1;refine bt (P:=Q) (λ_=>h) λe1=>bt (P:=Q) (λ_=>h) λe2=>bt (P:=Q) (λ_=>h) λe3=>bt (P:=Q) (λ_=>h) λe4=>?_;unfold lt;refine bt (P:=Q) (λ_=>h) λe5=>bt (P:=Q) (λ_=>h) λ_=>?_;simp only[Bool.not_eq_false'] at e1;simp only[decide_eq_false_iff_not] at e2 e5;simp only[Bool.not_eq_false',decide_eq_true_eq] at e3 e4;obtain⟨s,hs⟩:=Option.isSome_iff_exists.1 e1;rw[hs] at e2 e4;obtain⟨h1,h2,h3,h4⟩:=h;have hf:[b.binds,[x]].flatten=b.binds++[x]:=by simp
 have hnot:x∉b.binds:=λhm=>by
   have hlt:Am_ b x<0:=by omega
   unfold Am_ at hlt
   have :=List.find?_eq_none.1 (Ms_ hlt) x hm
   simp at this
 refine⟨h1,?_,h3,λy hy=>?_⟩;show ([b.binds,[x]].flatten).Nodup;rw[hf,List.nodup_append];refine⟨h2,by simp,λu hu v hv=>?_⟩;simp only[List.mem_singleton] at hv;rw[hv];intro e;exact hnot (e ▸ hu)
 . rcases Nn_ hy with q|q
   exact h4 y q
   rw[q]
   exact⟨⟨s,hs,e2,e4⟩,e3,hu,hq⟩
theorem bkg_unbind {p:G_} {a:Int} {qs:List Ae_} {b:Ac_} {x:R_} (h:BkG p a qs b):BkG p a qs (B4_ b x).1:=by
 unfold B4_ lt;let Q:Ac_×Int->Prop:=λr=>BkG p a qs r.1;refine bt (P:=Q) (λ_=>h) λe=>?_;simp only[decide_eq_false_iff_not] at e;have hk:(Am_ b x+1).toNat=(Am_ b x).toNat+1:=by omega
 have hs:([b.binds.take (Am_ b x).toNat,b.binds.drop (Am_ b x+1).toNat].flatten).Sublist b.binds:=by rw[hk];exact S6_ _ _
 exact⟨h.1,hs.nodup h.2.1,h.2.2.1,λy hy=>h.2.2.2 y (hs.subset hy)⟩
theorem shopOf_cut {l:List Z_} {n m:Bs} {k:Nat} (hk:k<l.length) (hm:(gt l k).name=m) (hn:n≠m):D0_ [l.take k,l.drop (k+1)].flatten n=D0_ l n:=by
 have hg:l.drop k=gt l k::l.drop (k+1):=Cz_ hk;have hl:l=l.take k++(gt l k::l.drop (k+1)):=by rw[<- hg,List.take_append_drop]
 have hf:[l.take k,l.drop (k+1)].flatten=l.take k++l.drop (k+1):=by simp
 rw[hf]
 conv=>rhs;rw[hl]
 unfold D0_;rw[List.find?_append,List.find?_append,List.find?_cons_of_neg];rw[decide_eq_true_eq,hm];exact λe=>hn e.symm
theorem bkg_drop {p:G_} {a:Int} {qs:List Ae_} {b:Ac_} {n:Bs} (h:BkG p a qs b):BkG p a qs (Cp_ b n).1:=by
 have hb:=Io_ (λz_5:Z_=>(C2_ z_5 n)) b.Ad_;unfold Cp_ lt;let Q:Ac_×Int->Prop:=λr=>BkG p a qs r.1;refine bt (P:=Q) (λ_=>h) λe=>?_;simp only[decide_eq_false_iff_not] at e;have hp:=Qo_ (p:=λz_5:Z_=>(C2_ z_5 n)) (l:=b.Ad_) pB;generalize idxP (λz_5:Z_=>(C2_ z_5 n)) b.Ad_=r at *;have hk:(r+1).toNat=r.toNat+1:=by omega
 rw[hk,Vd_];have hs:=S6_ b.Ad_ r.toNat;have hnm:(gt b.Ad_ r.toNat).name=n:=by simpa [C2_] using hp
 refine⟨(hs.map _).nodup h.1,h.2.1.filter _,λs hm=>h.2.2.1 s (hs.subset hm),λy hy=>?_⟩;obtain⟨hy1,hy2⟩:=List.mem_filter.1 hy;obtain⟨⟨s,g1,g2,g3⟩,g4⟩:=h.2.2.2 y hy1;have hne:y.Ak_≠n:=by simpa [Nt_] using hy2
 refine⟨⟨s,?_,g2,g3⟩,g4⟩;show D0_ [b.Ad_.take r.toNat,b.Ad_.drop (r.toNat+1)].flatten y.Ak_=some s;rw[shopOf_cut pB hnm hne];exact g1
def SbG (s:E_):Prop:=BkG s.L_ s.place (s.x.C_.rows.map (·.q)) s.x.book
theorem make_more (k:I_) (q:Ae_):∀ x∈k.rows.map (·.q),x∈(A4_ k q).1.rows.map (·.q):=by
 unfold A4_ lt;let R:I_×Int->Prop:=λr=>∀ x∈k.rows.map (·.q),x∈r.1.rows.map (·.q);refine bt (P:=R) (λ_ _ h=>h) λ_=>bt (P:=R) (λ_ _ h=>h) λ_=>bt (P:=R) (λ_ _ h=>h) λ_=>bt (P:=R) (λ_ _ h=>h) λ_=>λx hx=>?_;show x∈([k.rows,[(⟨q,⟨[]⟩⟩:Eu_)]].flatten).map (·.q);simp only[List.flatten_cons,List.flatten_nil,List.append_nil,List.map_append,List.mem_append];exact .inl hx
theorem drop_more (k:I_) (n:Bs):∀ x∈k.rows.map (·.q),x.name≠n->x∈(Ax_ k n).1.rows.map (·.q):=by
 have hb:=at_b k n;unfold Ax_ lt;let R:I_×Int->Prop:=λr=>∀ x∈k.rows.map (·.q),x.name≠n->x∈r.1.rows.map (·.q);refine bt (P:=R) (λ_ _ h _=>h) λe=>λx hx hne=>?_;simp only[decide_eq_false_iff_not] at e;obtain⟨r,hr,rfl⟩:=List.mem_map.1 hx;have hat:=at_n (s:=k) (n:=n) pB;refine List.mem_map.2 ⟨r,?_,rfl⟩;show r∈[k.rows.take (J_ k n).toNat,k.rows.drop (J_ k n+1).toNat].flatten;have hk:(J_ k n+1).toNat=(J_ k n).toNat+1:=by omega
 rw[hk];have hg:k.rows.drop (J_ k n).toNat=gt k.rows (J_ k n).toNat::k.rows.drop ((J_ k n).toNat+1):=Cz_ pB;have hl:k.rows=k.rows.take (J_ k n).toNat++(gt k.rows (J_ k n).toNat::k.rows.drop ((J_ k n).toNat+1)):=by rw[<- hg,List.take_append_drop]
 rw[hl] at hr;simp only[List.flatten_cons,List.flatten_nil,List.append_nil]
 rcases List.mem_append.1 hr with q|q
 exact List.mem_append.2 (.inl q)
 . rcases List.mem_cons.1 q with q|q
   exact (hne (by rw[q];exact hat)).elim
   exact List.mem_append.2 (.inr q)
theorem queue_in {k:I_} {n:Bs} (h:(Ag_ k n).2=true):∃ q∈k.rows.map (·.q),q.name=n:=by
 have hb:=at_b k n;by_cases e:J_ k n<0
 . unfold Ag_ at h
   rw[lt,decide_eq_true e] at h
   cases h
 have hat:=at_n (s:=k) (n:=n) pB;exact⟨_,List.mem_map.2 ⟨_,Go_ pB,rfl⟩,hat⟩
theorem drop_same {k:I_} {n:Bs} (h:¬(Ax_ k n).2=0):(Ax_ k n).1=k:=by
 revert h
 unfold Ax_ lt;let R:I_×Int->Prop:=λr=>¬r.2=0->r.1=k;exact bt (P:=R) (λ_ _=>rfl) λ_ h=>(h Y).elim
theorem doBk {s:E_} {d:Aa_} (ht:U64 d.tick) (hc:0<=d.code/\d.code<=255) (h:StOk s) (h0:0<=d.O_.hops) (hs:SbG s):SbG (Ap_ s d).1:=by
 have key:∀ t:E_,Kw U64 (QS (s.x.C_.rows.map (·.q))) (λ_=>True) s t->SbG t:=λt e=>by
   have hk:t.x.C_.rows.map (·.q)=s.x.C_.rows.map (·.q):=e.k
   unfold SbG
   rw[e.po,e.pl,e.bo,hk]
   exact hs
 rcases do_w (cloQ (s.x.C_.rows.map (·.q))) ht hc h h0 trivial (⟨rfl,rfl,rfl,rfl,trivial,rfl,λ_=>id⟩:Kw U64 (QS (s.x.C_.rows.map (·.q))) (λ_=>True) s s) with e|(e|e)|e|e
 rw[e];exact hs;exact key _ e;have hk:(Ap_ s d).1.x.C_.rows.map (·.q)=s.x.C_.rows.map (·.q):=e.k;have h1:(Ap_ s d).1.L_=s.L_:=e.po;have h2:(Ap_ s d).1.place=s.place:=e.pl;have h3:(Ap_ s d).1.x.book=s.x.book:=e.bo;unfold SbG;rw[h1,h2,h3,hk];exact hs;rw[e];unfold Bv_ lt;let Q:E_×Int->Prop:=λr=>SbG r.1;refine bt (P:=Q) (λ_=>bkg_more hs (make_more _ _)) λ_=>bt (P:=Q) (λ_=>bkg_forget hs (drop_more _ _)) λe2=>?_;simp only[decide_eq_false_iff_not] at e2;show BkG s.L_ s.place ((Ax_ s.x.C_ d.name).1.rows.map (·.q)) s.x.book;rw[drop_same e2];exact hs;rw[e];unfold Ay_ lt;let Q:E_×Int->Prop:=λr=>SbG r.1;have hn:∀ {e},Q (s,e):=hs;refine bt (P:=Q) (λ_=>?_) λ_=>?_;refine lp0E (P:=Q) (λ_=>d.Ak_.sort=4->0<=K_ s.L_ d.Ak_.to'/\0<=T_ s.L_ s.place (K_ s.L_ d.Ak_.to')) ?_ λhx=>bkg_make hs hx;refine bt (P:=LoP _ _) (λ_=>bt (P:=LoP _ _) (λ_=>hn) λc2=>bt (P:=LoP _ _) (λ_=>hn) λc3=>?_) λc=>?_;simp only[decide_eq_false_iff_not] at c2 c3;exact λ_=>⟨by omega,by omega⟩;simp only[decide_eq_false_iff_not] at c;exact λh4=>(c h4).elim;refine bt (P:=Q) (λ_=>bkg_drop hs) λ_=>bt (P:=Q) (λ_=>bkg_unbind hs) λ_=>?_;refine lp0E (P:=Q) (λ_=>(d.bind.up=true->0<=K_ s.L_ d.bind.to'/\Bj_ s.L_ s.place (K_ s.L_ d.bind.to')=true)/\(d.bind.up=false->(Ag_ s.x.C_ d.bind.to').2=true)) ?_ λhx=>bkg_bind hs hx.1 λhu=>queue_in (hx.2 hu);unfold lt1;refine bt (P:=LoP _ _) (λ_=>hn) λc=>bt (P:=LoP _ _) (λ_=>hn) λc2=>?_;refine⟨λhu=>?_,λhu=>?_⟩;rw[hu] at c c2;simp only[Bool.true_and,Bool.not_eq_false'] at c c2;refine⟨?_,c2⟩;by_cases q:K_ s.L_ d.bind.to'<0
 . rw[decide_eq_true q] at c;cases c
 omega;rw[hu] at c;simpa using c
theorem cloK (b:Int):Clw U64 (λ_=>True) (KOk b) (λ_=>True) where
 kp:=λ{k n m} hs _ h=>⟨kput_k (n:=n) (m:=m) hs h,trivial⟩
 kl:=λ{k n} h=>klend_k (n:=n) h
 kr:=λ{k n i} h=>⟨krem_k (n:=n) (id:=i) h,trivial⟩
 kb:=λ{k n i} h=>kback_k (n:=n) (id:=i) h
 ks:=λ{k p m} _ h=>kraise_k (p:=p) (m:=m) h
 kw:=λ{k} _ h=>kwake_k h
 kt:=λ{k t} _=>trivial
 na:=λ_ _ _=>trivial
 wd:=λh=>h
 wr:=λh=>h
 wb:=λ_=>trivial
 wp:=λ_=>trivial
def Sn (a:A16_u64):Prop:=∀ i,i<16->U64 (A16.get a i)
theorem Sn.set {a:A16_u64} (h:Sn a) {x:Int} (hx:U64 x) (k:Nat):Sn (A16.set a x k):=by
 have key:∀ k,k<16->Sn (A16.set a x k):=λk hk i hi=>by
   rw[A16.get_set _ _ _ _ hk hi]
   by_cases q:i=k
   . rw[if_pos q];exact hx
   . rw[if_neg q];exact h i hi
 by_cases q:k<16;exact key k q;obtain⟨n,rfl⟩:∃ n,k=n+16:=⟨_,(Nat.sub_add_cancel pB).symm⟩;exact key 15 pC
structure Rk (p:G_) (a b:Int) (s:E_):Prop where
 po:s.L_=p
 pl:s.place=a
 k:KOk b s.x.C_
 se:Sn s.x.seen
 sp:Sp s.x.spent
theorem doK {p:G_} {a b:Int} {s:E_} {d:Aa_} (ht:U64 d.tick) (hc:0<=d.code/\d.code<=255) (hn:U64 d.number) (h:StOk s) (h0:0<=d.O_.hops) (hs:Rk p a b s):Rk p a b (Ap_ s d).1:=by
 obtain⟨h1,h2,h3,h4,h5⟩:=hs
 rcases do_w (cloK b) ht hc h h0 trivial (⟨rfl,rfl,rfl,h3,trivial,rfl,λ_=>id⟩:Kw U64 (KOk b) (λ_=>True) s s) with e|(e|e)|e|e
 rw[e];exact⟨h1,h2,h3,h4,h5⟩;exact⟨e.po.trans h1,e.pl.trans h2,e.k,by rw[e.se];exact h4,e.sp (λ_ h=>h) h5⟩;exact⟨e.po.trans h1,e.pl.trans h2,e.k,by rw[e.se];exact h4.set hn _,e.sp (λ_ h=>h) h5⟩
 . obtain⟨c,k,e2,e3,_⟩:=Z2_ s d
   rw[e,e2]
   refine⟨h1,h2,?_,h4,h5⟩
   show KOk b k
   rcases e3 with rfl|rfl
   exact kmake_k h3
   exact kdrop_k h3
 obtain⟨c,e2,_⟩:=shops_x s d;rw[e,e2];exact⟨h1,h2,h3,h4,h5⟩
end Go.SW.V
