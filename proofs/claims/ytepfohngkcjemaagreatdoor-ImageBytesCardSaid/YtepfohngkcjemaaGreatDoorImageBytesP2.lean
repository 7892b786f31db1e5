/-
  A part of the proof of ImageBytes: Runs of quiet steps: one computation, proved once. Over any program that the table fits; it asks what it
-/
import Derived.Test.YtepfohngkcjemaaGreatDoorImageBytesP1
import Derived.Lib.SplitLaws
import Derived.Lib.IndexAny
import Derived.ProofKit
import Derived.OpenShut
import Derived.Deep.Slices
import Derived.Lib.LaidTab
set_option linter.unusedVariables false
set_option linter.unusedSimpArgs false
set_option maxRecDepth 100000
set_option maxHeartbeats 4000000
open Array renaming getElem?_eq_getElem->E8,length_toList->DA
open BitVec renaming ofInt_natCast->EO,toNat_ofNat->F3
open Bool renaming and_eq_true->A3,eq_iff_iff->AU,false_eq_true->CT,not_eq_true'->FK
open Go.Builtin renaming firstCells->AF,lenOf->CK,zeroCells->AH
open Go.DataW renaming TrodAll->EC,weights->ED,weights_mem_each->EM
open Go.Deep renaming open_slice->EU
open Go.IntKind renaming wrap->A0
open Go.Lib renaming countB->DN,count_miss->EP,index->BA,splitK->G5
open Go.Oper renaming wp->BG
open Go.Question renaming appendCap->BB
open Go.Sem renaming run_bind->C8
open Go.Value renaming bool->GN,okWide->GB,pointer->CS
open Go.World renaming cell?->CB,cells?_some->FG
open Int renaming toNat_natCast->A7,toNat_of_nonneg->BD
open List renaming all_cons->EN,all_eq_true->CC,append_assoc->A6,drop_drop->BZ,drop_of_length_le->A9,flatten_append->F9,foldl_append->FL,foldl_cons->BU,getD_eq_getElem?_getD->AB,getElem?_append_left->CR,getElem?_append_right->BK,getElem?_eq_getElem->AA,getElem?_take->BE,isPrefixOf->E7,length->E5,length_append->A4,length_cons->A2,length_drop->D5,length_map->CL,length_nil->AE,map_cons->AG,mem_append->FX,mem_cons->EG,mem_cons_of_mem->AI,mem_cons_self->B8,mem_range->G6,nil_append->AN,not_mem_nil->DO,replicate->AJ,take_append_drop->AL,take_of_length_le->AZ
open Nat renaming add_mul->AV,beq->AR,blt_eq->G7,eq_of_beq_eq_true->AM,le_mul_of_pos_right->BQ,le_of_ble_eq_true->BW,le_refl->AX,le_trans->AK,lt_of_lt_of_le->FM,mod_eq_of_lt->D0,mul_assoc->EL,mul_comm->CJ,mul_le_mul_right->BP,one_mul->EA,pow_le_pow_right->CH,pow_succ->D2,sub_self->D3,succ_mul->D7,zero_add->B9,zero_le->B5,zero_mul->EB
open UInt8 renaming ofNat->D6,toNat_ofNat'->BR
namespace Go.SW
variable{P:Program}{n:Nat}{N:Rest}{H0:Env}
def frc0{α:Type _}(v:PV)(c:PV->α):α:=
 match v with
 | .int k z=>c (.int k z)
 | .bool b=>c (.bool b)
 | .str s=>c (.str s)
 | .agg cs=>c (.agg cs)
 | .sl e x=>c (.sl e x)
 | .own i b o=>c (.own i b o)
 | .osl i=>c (.osl i)
 | .el r o=>c (.el r o)
 | .fn f a b=>c (.fn f a b)
 | .tup vs=>c (.tup vs)
 | .gv g v=>c (.gv g v)
 | .val v=>c (.val v)
 | .usl v=>c (.usl v)
 | .junk=>c .junk
theorem frc0_eq{α:Type _}(v:PV)(c:PV->α):frc0 v c=c v:=by cases v<;>rfl
def frcL{α:Type _}:List PV->(List PV->α)->α
 |[],c=>c []
 |p::r,c=>frc0 p λp=>frcL r λr=>c (p::r)
theorem Vh_{α:Type _}:∀ (l:List PV) (c:List PV->α),frcL l c=c l
 |[],c=>rfl
 |p::r,c=>by simp only[frcL,frc0_eq,Vh_ r]
def frc{α:Type _}(v:PV)(c:PV->α):α:=
 match v with
 | .agg cs=>frcL cs λcs=>c (.agg cs)
 | .gv g v=>match v with
   | .agg cs=>frcL cs λcs=>c (.gv g (.agg cs))
   |v=>frc0 v λv=>c (.gv g v)
 |v=>frc0 v c
theorem frc_eq{α:Type _}(v:PV)(c:PV->α):frc v c=c v:=by
 unfold frc;split<;>first|(simp only[Vh_];done)|(split<;>simp only[Vh_,frc0_eq];done)|simp only[frc0_eq]
def frcP{α:Type _}:List Prop->(List Prop->α)->α
 |[],c=>c []
 |p::r,c=>frcP r λr=>c (p::r)
theorem Xi_{α:Type _}:∀ (l:List Prop) (c:List Prop->α),frcP l c=c l
 |[],c=>rfl
 |p::r,c=>by simp only[frcP,Xi_ r]
def frcN{α:Type _}:List Nat->(List Nat->α)->α
 |[],c=>c []
 |p::r,c=>frcN r λr=>c (p::r)
theorem frcN_eq{α:Type _}:∀ (l:List Nat) (c:List Nat->α),frcN l c=c l
 |[],c=>rfl
 |p::r,c=>by simp only[frcN,frcN_eq r]
inductive Cf where
 |code (c:Code)
 |ops (all rest:List Oper)
 |ex (e:Exit)
def Cf.holds(P:Program)(n:Nat)(N:Rest)(H0:Env)(Q:Qs):Cf->St->Prop
 | .code c,s=>Sw P n N H0 c Q s
 | .ops all rest,s=>So P n N H0 all rest Q s
 | .ex e,s=>Q e s
def Hd(P:Program)(n:Nat)(N:Rest)(H0:Env)(Q:Qs)(c:Cf)(ks:List Kt)(s:St):Prop:=Cf.holds P n N H0 (Kt.den P n N H0 ks Q) c s
structure RR where
 c:Cf
 ks:List Kt
 F:Nat->PV
 L:Nat->Blk
 ps:List Prop
 as0:List Nat
 bs:List Nat
def apP:List Prop->List Prop->List Prop
 |[],k=>k
 |p::r,k=>p::apP r k
theorem Rl_:∀ {ps qs:List Prop},AllP (apP ps qs)->AllP ps/\AllP qs
 |[],_,h=>⟨trivial,h⟩
 |_::_,_,h=>⟨⟨h.1,(Rl_ h.2).1⟩,(Rl_ h.2).2⟩
theorem apP_nil:∀ (l:List Prop),apP l []=l
 |[]=>rfl
 |p::r=>by simp only[apP,apP_nil r]
def addP{α:Type _}(ps qs:List Prop)(c:List Prop->α):α:=
 match qs with
 |[]=>c ps
 |q::r=>frcP (apP ps (q::r)) c
theorem addP_eq{α:Type _}(ps qs:List Prop)(c:List Prop->α):addP ps qs c=c (apP ps qs):=by
 unfold addP;split;rw[apP_nil];rw[Xi_]
def vOp(tb:Tb)(s:St)(all:List Oper)(o:Oper):Option PR:=
 match o.guard with
 |none=>pop tb s.L s.F o.op
 |some (j,want)=>match nth all j with
   |some oj=>match oj.dst with
     |some dj=>match gC (s.F dj) want with
       |some g=>match Qa_ s.F (tsOf o.op) with
         |true=>pG1 tb s.L s.F o.op g
         |false=>none
       |none=>none
     |none=>none
   |none=>none
def run(tb:Tb)(n:Nat):Nat->Cf->List Kt->(Nat->PV)->(Nat->Blk)->List Prop->List Nat->List Nat->Option RR
 |0,c,ks,F,L,ps,as0,bs=>frcP ps λps=>frcN as0 λas0=>frcN bs λbs=>some ⟨c,ks,F,L,ps,as0,bs⟩
 |k+1,c,ks,F,L,ps,as0,bs=>
   match c with
   | .code c=>match c with
     | .seq a b=>run tb n k (.code a) (.seq b::ks) F L ps as0 bs
     | .skip=>run tb n k (.ex .normal) ks F L ps as0 bs
     | .label _=>run tb n k (.ex .normal) ks F L ps as0 bs
     | .block id b=>run tb n k (.code b) (.blk id::ks) F L ps as0 bs
     | .scope b=>run tb n k (.code b) (.sc::ks) F L ps as0 bs
     | .exit i=>run tb n k (.ex (.exit i)) ks F L ps as0 bs
     | .ret=>run tb n k (.ex .ret) ks F L ps as0 bs
     | .region _ ops draw=>match draw with
       |false=>run tb n k (.ops ops.toList ops.toList) ks F L ps as0 bs
       |true=>none
     | .cond c a b=>match evP F c with
       | .bool p=>match p with
         |true=>run tb n k (.code a) ks F L ps as0 bs
         |false=>run tb n k (.code b) ks F L ps as0 bs
       |_=>none
     |_=>none
   | .ops all rest=>match rest with
     |[]=>run tb n k (.ex .normal) ks F L ps as0 bs
     |o::rest=>match o.dst with
       |some d=>match Nat.blt d n with
         |true=>match vOp tb ⟨F,L⟩ all o with
           |some ⟨v0,ps0,lk0⟩=>match lk0 with
             |none=>addP ps ps0 λps=>frc v0 λv=>run tb n k (.ops all rest) ks (updp F d v) L ps as0 bs
             |some (_,a,b)=>addP ps ps0 λps=>frc v0 λv=>run tb n k (.ops all rest) ks (updp F d v) L ps (a::as0) (b::bs)
           |none=>none
         |false=>none
       |none=>none
   | .ex e=>match ks with
     |[]=>none
     | .seq y::ks=>match e with
       | .normal=>run tb n k (.code y) ks F L ps as0 bs
       |e=>run tb n k (.ex e) ks F L ps as0 bs
     | .blk id::ks=>match e with
       | .exit i=>match AR i id with
         |true=>run tb n k (.ex .normal) ks F L ps as0 bs
         |false=>run tb n k (.ex (.exit i)) ks F L ps as0 bs
       |e=>run tb n k (.ex e) ks F L ps as0 bs
     | .sc::ks=>match e with
       | .goto _=>none
       |e=>run tb n k (.ex e) ks F L ps as0 bs
     | .lp _::ks=>match e with
       | .normal=>none
       |e=>run tb n k (.ex e) ks F L ps as0 bs
theorem gv_dec{c b want:Bool}:(c&&(b==want))=(c&&gOf b want):=by cases b<;>cases want<;>rfl
theorem gqn{F:Fr}{H:Hp}{L:Ls}{ops rest:List Oper}{op:Op}{ty d j:Nat}{pos:String}{af:Array Edge}{Q:Qt}{want c b:Bool}{v:Value}(hy:yF ops F j=some (gv c (.bool b)))(hd:Nat.blt d n=true)(h:(c&&gOf b want)=true->Lo P N op ty F H L v)
   (k:Ow P n N ops rest Q (upd F d (gv (c&&gOf b want) v)) H L):Ow P n N ops (⟨some d,op,ty,pos,af,some (j,want)⟩::rest) Q F H L:=
 gq (c:=c) (b:=b) (v:=v) hy hd (λe=>h (gv_dec ▸ e)) (gv_dec (c:=c) (b:=b) (want:=want) ▸ k)
theorem yF_of{ops:List Oper}{F:Fr}{j d:Nat}{o:Oper}(h:nth ops j=some o)(hd:o.dst=some d):yF ops F j=some (F d):=by
 rw[L4_] at h;simp[yF,h,hd]
theorem gC_ok{p:PV}{v:Value}{H:Hp}{want g:Bool}(hg:gC p want=some g)(h:Sim H p v):∃ c b,v=gv c (.bool b)/\g=(c&&gOf b want):=by
 unfold gC at hg
 split at hg
 . cases hg;exact⟨true,_,h.inv_bool,by simp⟩
 . rename_i c q
   split at hg
   . rename_i b
     cases hg
     rcases h.inv_gv with ⟨rfl,h1⟩|⟨rfl,h1⟩
     exact⟨true,b,h1.inv_bool,rfl⟩
     exact⟨false,b,h1,rfl⟩
   . cases hg
 . cases hg
theorem so_v{tb:Tb}{all rest:List Oper}{o:Oper}{d:Nat}{Q:Qs}{s:St}{r:PR}(ht:tbB P tb=true)(ho:o.dst=some d)(hd:Nat.blt d n=true)(h:vOp tb s all o=some r)(hp:AllP r.ps)(he:∀ x,r.lk=some x->x.2.1=x.2.2)
   (k:So P n N H0 all rest Q ⟨updp s.F d r.v,s.L⟩):So P n N H0 all (o::rest) Q s:=by
 have⟨d',op,ty,pos,af,g⟩:=o
 cases ho
 unfold vOp at h
 split at h
 . rename_i hg
   cases hg
   exact so_pop ht hd h hp he k
 . rename_i j want hg
   cases hg
   split at h
   . rename_i oj hj
     split at h
     . rename_i dj hdj
       split at h
       . rename_i g hgc
         split at h
         . rename_i hno
           unfold pG1 at h
           split at h
           . rename_i v0 ps0 lk0 hr0
             split at h
             . rename_i hnv
               cases h
               intro F H L ha
               have⟨c,b,hv,hge⟩:=gC_ok hgc (ha.f dj).sim
               have hy:yF all F j=some (gv c (.bool b)):=by rw[yF_of hj hdj,hv]
               have⟨hp1,hp2⟩:=Lv_ hp
               cases hgv:(c&&gOf b want) with
               |false=>
                 refine gqn (v:=undef) hy hd (λe=>by rw[hgv] at e;cases e) (k _ _ _ (ha.put d ?_))
                 rw[hge,hgv]
                 exact Sim.gvf
               |true=>
                 have hgt:g=true:=hge.trans hgv
                 have⟨val,h1,h2⟩:=pop_ok (N:=N) (ty:=ty) ht (Ri_ ha.f (λt ht c v e=>hp2 t ht c v e hgt) (Kn_ hno)) ha.l hr0 (Xk_ hgt hp1) he
                 refine gqn (v:=val) hy hd (λ_=>h2 H L (.refl H) (λ_ _=>rfl)) (k _ _ _ (ha.put d ?_))
                 rw[hge,hgv]
                 exact Sim.gvt h1.sim
             . cases h
           . cases h
         . cases h
       . cases h
     . cases h
   . cases h
theorem den_seq{y:Code}{r:List Kt}{Q:Qs}{e:Exit}{s:St}(h:e = .normal->False)(x:Kt.den P n N H0 r Q e s):Kt.den P n N H0 (.seq y::r) Q e s:=by cases e<;>first|exact x|exact (h Y).elim
theorem den_lp{J:St->Prop}{r:List Kt}{Q:Qs}{e:Exit}{s:St}(h:e = .normal->False)(x:Kt.den P n N H0 r Q e s):Kt.den P n N H0 (.lp J::r) Q e s:=by cases e<;>first|exact x|exact (h Y).elim
theorem den_blk{id:Nat}{r:List Kt}{Q:Qs}{e:Exit}{s:St}(h:∀ i,e = .exit i->False)(x:Kt.den P n N H0 r Q e s):Kt.den P n N H0 (.blk id::r) Q e s:=by cases e<;>first|exact x|exact (h _ Y).elim
theorem den_sc{r:List Kt}{Q:Qs}{e:Exit}{s:St}(h:∀ i,e = .goto i->False)(x:Kt.den P n N H0 r Q e s):Kt.den P n N H0 (.sc::r) Q e s:=by cases e<;>first|exact x|exact (h _ Y).elim
theorem run_ok{tb:Tb}(ht:tbB P tb=true){Q:Qs}:∀ (k:Nat) (c:Cf) (ks:List Kt) (F:Nat->PV) (L:Nat->Blk) (ps:List Prop) (as0 bs:List Nat) (r:RR),run tb n k c ks F L ps as0 bs=some r->AllP r.ps->r.as0=r.bs->AllP ps/\as0=bs/\(Hd P n N H0 Q r.c r.ks ⟨r.F,r.L⟩->Hd P n N H0 Q c ks ⟨F,L⟩)
 |0,c,ks,F,L,ps,as0,bs,r,h,hp,he=>by
   simp only[run,Xi_,frcN_eq,Option.some.injEq] at h
   subst h
   exact⟨hp,he,id⟩
 |k+1,c,ks,F,L,ps,as0,bs,r,h,hp,he=>by
   have ih:=run_ok ht (Q:=Q) k
   unfold run at h
   split at h
   . split at h
     . have⟨h1,h0,h2⟩:=ih _ _ _ _ _ _ _ _ h hp he;exact⟨h1,h0,λx=>sw_seq (h2 x)⟩
     . have⟨h1,h0,h2⟩:=ih _ _ _ _ _ _ _ _ h hp he;exact⟨h1,h0,λx=>sw_skip (h2 x)⟩
     . have⟨h1,h0,h2⟩:=ih _ _ _ _ _ _ _ _ h hp he;exact⟨h1,h0,λx=>sw_label (h2 x)⟩
     . have⟨h1,h0,h2⟩:=ih _ _ _ _ _ _ _ _ h hp he;exact⟨h1,h0,λx=>sw_block (h2 x)⟩
     . have⟨h1,h0,h2⟩:=ih _ _ _ _ _ _ _ _ h hp he;exact⟨h1,h0,λx=>sw_scope (h2 x)⟩
     . have⟨h1,h0,h2⟩:=ih _ _ _ _ _ _ _ _ h hp he;exact⟨h1,h0,λx=>sw_exit (h2 x)⟩
     . have⟨h1,h0,h2⟩:=ih _ _ _ _ _ _ _ _ h hp he;exact⟨h1,h0,λx=>sw_ret (h2 x)⟩
     . split at h
       . have⟨h1,h0,h2⟩:=ih _ _ _ _ _ _ _ _ h hp he;exact⟨h1,h0,λx=>sw_region (h2 x)⟩
       . cases h
     . split at h
       . rename_i hc
         split at h
         . have⟨h1,h0,h2⟩:=ih _ _ _ _ _ _ _ _ h hp he;exact⟨h1,h0,λx=>sw_cond hc (λ_=>h2 x) (λe=>by cases e)⟩
         . have⟨h1,h0,h2⟩:=ih _ _ _ _ _ _ _ _ h hp he;exact⟨h1,h0,λx=>sw_cond hc (λe=>by cases e) (λ_=>h2 x)⟩
       . cases h
     . cases h
   . split at h
     . have⟨h1,h0,h2⟩:=ih _ _ _ _ _ _ _ _ h hp he;exact⟨h1,h0,λx=>so_nil (h2 x)⟩
     . split at h
       . rename_i d hd
         split at h
         . rename_i hb
           split at h
           . rename_i v0 ps0 lk0 hq
             split at h
             . rw[addP_eq,frc_eq] at h
               have⟨h1,h0,h2⟩:=ih _ _ _ _ _ _ _ _ h hp he
               have⟨h3,h4⟩:=Rl_ h1
               exact⟨h3,h0,λx=>so_v ht hd hb hq h4 (λy hy=>by cases hy) (h2 x)⟩
             . rename_i i a b
               rw[addP_eq,frc_eq] at h
               have⟨h1,h0,h2⟩:=ih _ _ _ _ _ _ _ _ h hp he
               have⟨h3,h4⟩:=Rl_ h1
               simp only[List.cons.injEq] at h0
               exact⟨h3,h0.2,λx=>so_v ht hd hb hq h4 (λy hy=>by cases hy;exact h0.1) (h2 x)⟩
           . cases h
         . cases h
       . cases h
   . split at h
     . cases h
     . split at h
       . have⟨h1,h0,h2⟩:=ih _ _ _ _ _ _ _ _ h hp he;exact⟨h1,h0,λx=>h2 x⟩
       . rename_i e1 hne
         have⟨h1,h0,h2⟩:=ih _ _ _ _ _ _ _ _ h hp he
         exact⟨h1,h0,λx=>den_seq hne (h2 x)⟩
     . split at h
       . split at h
         . exact tB
         . exact tB
       . rename_i e1 hne
         have⟨h1,h0,h2⟩:=ih _ _ _ _ _ _ _ _ h hp he
         exact⟨h1,h0,λx=>den_blk hne (h2 x)⟩
     . split at h
       . cases h
       . rename_i e1 hne
         have⟨h1,h0,h2⟩:=ih _ _ _ _ _ _ _ _ h hp he
         exact⟨h1,h0,λx=>den_sc hne (h2 x)⟩
     . split at h
       . cases h
       . rename_i e1 hne
         have⟨h1,h0,h2⟩:=ih _ _ _ _ _ _ _ _ h hp he
         exact⟨h1,h0,λx=>den_lp hne (h2 x)⟩
theorem go{tb:Tb}(ht:tbB P tb=true)(k:Nat){Q:Qs}{c c':Cf}{ks ks':List Kt}{F F':Nat->PV}{L L':Nat->Blk}{ps:List Prop}{as0 bs:List Nat}(h:run tb n k c ks F L [] [] []=some ⟨c',ks',F',L',ps,as0,bs⟩)(he:as0=bs)(hp:AllP ps)(next :Hd P n N H0 Q c' ks' ⟨F',L'⟩):Hd P n N H0 Q c ks ⟨F,L⟩:=
 (run_ok ht k c ks F L [] [] [] _ h hp he).2.2 next
def PLe(p q:PV):Prop:=∀ H v,Sim H p v->Sim H q v
theorem ple{p q:PV}(h:p=q):PLe p q:=λ_ _ x=>h ▸ x
theorem Ay_{α:Type}{enc:α->List PV}:PLe (.val (.slice none 0 0)) (.sl enc []):=λH v h=>by
 rw[h.inv_val];exact Sim.of_slh (k:=0) slh_nil pC
def PLes(ps qs:List PV):Prop:=∀ H vs,Sims H ps vs->Sims H qs vs
theorem Bd_:PLes [] []:=λ_ _ h=>h
theorem B_{p q:PV}{ps qs:List PV}(h:PLe p q)(k:PLes ps qs):PLes (p::ps) (q::qs):=λH vs x=>by
 obtain⟨v,us,rfl,h1,h2⟩:=x.inv_cons
 exact (k H us h2).cons (h H v h1)
theorem ples_rfl{ps:List PV}:PLes ps ps:=λ_ _ h=>h
theorem Go_{ps qs:List PV}(h:PLes ps qs):PLe (.agg ps) (.agg qs):=λH v x=>by
 obtain⟨vs,rfl,h1⟩:=x.inv_agg
 exact Sim.toAgg (h H vs h1)
theorem E9_{ps qs:List PV}(h:PLes ps qs):PLe (.tup ps) (.tup qs):=λH v x=>by
 obtain⟨vs,rfl,h1⟩:=x.inv_tup
 exact Sim.toTup (h H vs h1)
structure Fn(P:Program)(G:Gb)(f:FuncId)(args:List PV)(res:PV):Prop where
 cb:A4_ P f
 no:res.noOsl=true
 run:∀ (N:Rest) (H:Hp) (L:Ls) (w:World) (vs:List Value),G.p H->Sims H args vs->Mem N H L w->Calls P f vs.toArray w λe w'=>∃ v H',e = .returned v/\Sim H' res v/\HLe H H'/\Mem N H' L w'
theorem Fn.ph{G:Gb}{f:FuncId}{args:List PV}{res:PV}{H:Hp}{vs:List Value}(h:Fn P G f args res)(hg:G.p H)(hs:Sims H args vs):Ph P f vs.toArray H (λv H'=>Sim H' res v):=λN L w hm=>
 (h.run N H L w vs hg hs hm).mono λ_ _ ⟨v,H',h1,h2,h3,h4⟩=>⟨v,H',h1,h2,h3,h4⟩
theorem Fn.pr{G:Gb}{f:FuncId}{args:List PV}{res:PV}{H:Hp}{vs:List Value}(h:Fn P G f args res)(hf:res.flat=true)(hg:G.p H)(hs:Sims H args vs){v:Value}{H1:Hp}(hv:Sim H1 res v):Pr P f vs.toArray H v:=λN L w hm=>
 (h.run N H L w vs hg hs hm).mono λ_ _ ⟨v',H',h1,h2,h3,h4⟩=>⟨by rw[h1,Sim.uniq hf h2 hv],h4.le h3⟩
theorem Fn.le{G:Gb}{f:FuncId}{args args':List PV}{res res':PV}(h:Fn P G f args res)(ha:PLes args' args)(hr:PLe res res')(hn:res'.noOsl=true):Fn P G f args' res':=
 ⟨h.cb,hn,λN H L w vs hg hs hm=>(h.run N H L w vs hg (ha H vs hs) hm).mono λ_ _ ⟨v,H',h1,h2,h3,h4⟩=>⟨v,H',h1,hr H' v h2,h3,h4⟩⟩
def resP1(tb:Tb)(s:St):ResultVar->Option PR
 | .tmp t=>some (.q (s.F t))
 | .cell a T=>pLoad tb s.L T (s.F a)
def Lr_(tb:Tb)(s:St):List ResultVar->Option (List PV×List Nat×List Nat)
 |[]=>some ([],[],[])
 |r::rs=>match resP1 tb s r with
   |some x=>match Lr_ tb s rs with
     |some (ps,as0,bs)=>frc x.v λv=>match x.lk with
       |none=>some (v::ps,as0,bs)
       |some (_,a,b)=>some (v::ps,a::as0,b::bs)
     |none=>none
   |none=>none
def tupP:List PV->PV
 |[p]=>p
 |ps=> .tup ps
theorem rv_1{tb:Tb}{s:St}{F:Fr}{H:Hp}{L:Ls}{r:ResultVar}{x:PR}(ht:tbB P tb=true)(ha:Abs H0 s F H L)(h:resP1 tb s r=some x)(he:∀ y,x.lk=some y->y.2.1=y.2.2):∃ v,RV P N F H L r v/\Sim H x.v v:=by
 cases r with
 |tmp t=>simp only[resP1,Option.some.injEq] at h;subst h;exact⟨F t,rv_t Y,(ha.f t).sim⟩
 |cell a T=>
   simp only[resP1] at h
   have⟨v,h1,h2⟩:=y_load (P:=P) (N:=N) (ty:=0) (x:= .tmp a) ht ha.l (ha.f a) h he
   refine⟨v,λw tmps htm hm=>?_,h1.sim⟩
   have h3:=h2 H L (.refl H) (λ_ _=>rfl) none "" #[] none w hm
   simp only[rvS,htm a]
   simp only[execOp,ev,Instr.loadAt] at h3
   revert h3
   cases F a with
   |pointer q=>
     cases q with
     |some q=>
       simp[Instr.sureAddr,asAddr]
       intro h3
       cases hr:(loadVar T q).run P w with
       |ok x w'=>rw[hr] at h3;simp[Result.andThen] at h3;simp[h3]
       |halt x w'=>rw[hr] at h3;simp[Result.andThen] at h3
     |none=>intro h3;simp[Instr.sureAddr] at h3
   |_=>intro h3;simp[Instr.sureAddr] at h3
theorem rvs_run{tb:Tb}{s:St}{F:Fr}{H:Hp}{L:Ls}(ht:tbB P tb=true)(ha:Abs H0 s F H L):∀ (rs:List ResultVar) (ps:List PV) (as0 bs:List Nat),Lr_ tb s rs=some (ps,as0,bs)->as0=bs ->
   ∃ vs:List Value,Sims H ps vs/\∀ (w:World) (tmps:Array Value),(∀ t,tmps.getD t undef=F t)->Mem N H L w->(rs.mapM (rvS tmps)).run P w = .ok vs w
 |[],ps,as0,bs,h,_=>by simp only[Lr_,Option.some.injEq,Prod.mk.injEq] at h;obtain⟨rfl,_⟩:=h;exact⟨[],Sims.nil,λw tmps _ _=>by simp⟩
 |r::rs,ps,as0,bs,h,he=>by
   simp only[Lr_] at h
   split at h
   . rename_i x hx
     split at h
     . rename_i ps' as' bs' hps
       rw[frc_eq] at h
       split at h
       . rename_i hlk
         simp only[Option.some.injEq,Prod.mk.injEq] at h
         obtain⟨rfl,rfl,rfl⟩:=h
         have⟨vs,h1,h2⟩:=rvs_run ht ha rs _ _ _ hps he
         have⟨v,h3,h4⟩:=rv_1 (N:=N) ht ha hx (λy hy=>by rw[hlk] at hy;cases hy)
         exact yJ
       . rename_i i a b hlk
         simp only[Option.some.injEq,Prod.mk.injEq] at h
         obtain⟨rfl,rfl,rfl⟩:=h
         simp only[List.cons.injEq] at he
         have⟨vs,h1,h2⟩:=rvs_run ht ha rs _ _ _ hps he.2
         have⟨v,h3,h4⟩:=rv_1 (N:=N) ht ha hx (λy hy=>by rw[hlk] at hy;cases hy;exact he.1)
         exact yJ
     . cases h
   . cases h
def rtK(tb:Tb)(rs:List ResultVar)(res:PV):Qs:=λe s=>(e = .normal\/e = .ret)/\∃ ps as0 bs,Lr_ tb s rs=some (ps,as0,bs)/\as0=bs/\PLe (tupP ps) res
theorem Rd_{tb:Tb}{fn:Func}{res:PV}{s:St}{F:Fr}{H:Hp}{L:Ls}{e:Exit}(ht:tbB P tb=true)(ha:Abs H0 s F H L)(h:rtK tb fn.results.toList res e s):(e = .normal\/e = .ret)/\∃ v,Res P N fn F H L v/\Sim H res v:=by
 have⟨he,ps,as0,bs,h1,h2,h3⟩:=h;refine⟨he,?_⟩;have⟨vs,h4,h5⟩:=rvs_run (N:=N) ht ha _ _ _ _ h1 h2;have h6:∀ (w:World) (tmps:Array Value),(∀ t,tmps.getD t undef=F t)->Mem N H L w->(fn.results.mapM (rvS tmps)).run P w = .ok vs.toArray w:=λw tmps htm hm=>by
   rw[Array.mapM_eq_mapM_toList]
   simp_all
 match ps,vs,h4,h6,h3 with
 |[p],[v],h4,h6,h3=>
   refine⟨v,λw tmps htm hm=>?_,h3 H v (h4.2 0 p v Y Y)⟩
   rw[Sj_,C8,h6 w tmps htm hm]
   simp
 |[],vs,h4,h6,h3=>
   cases h4.inv_nil
   refine⟨.tuple #[],λw tmps htm hm=>?_,h3 H _ (Sim.toTup (vs:=[]) Sims.nil)⟩
   rw[Sj_,C8,h6 w tmps htm hm]
   simp
 |p::q::r,vs,h4,h6,h3=>
   refine⟨.tuple vs.toArray,λw tmps htm hm=>?_,h3 H _ (Sim.toTup h4)⟩
   rw[Sj_,C8,h6 w tmps htm hm]
   have :vs.length≠1:=by rw[h4.1];simp
   simp[this]
 |[p],[],h4,_,_=>exact absurd h4.1 pC
 |[p],_::_::_,h4,_,_=>exact absurd h4.1 pC
def Qf_(args:List PV):Nat->PV:=λt=>match nth args t with
 |some p=>p
 |none=> .junk
def Ds_:List PV->Bool
 |[]=>true
 |p::r=>p.noOsl&&Ds_ r
theorem Vr_:∀ {ps:List PV} {i:Nat} {p:PV},Ds_ ps=true->ps[i]? = some p->p.noOsl=true
 |[],i,p,_,h=>by simp at h
 |q::r,0,p,h,hp=>by simp only[Ds_,A3] at h;simp at hp;rw[<- hp];exact h.1
 |q::r,i+1,p,h,hp=>by simp only[Ds_,A3] at h;exact Vr_ h.2 (by simpa using hp)
theorem Ns_{sL:Nat->Blk}{H:Hp}{args:List PV}{vs:List Value}(hs:Sims H args vs)(hn:Ds_ args=true)(t:Nat):SimT sL H (Qf_ args t) (L0_ vs.toArray t):=by
 unfold Qf_;rw[L4_]
 cases h:args[t]? with
 |none=>exact Sim.junk
 |some p=>
   have⟨v,hv,hp⟩:=hs.get h
   refine Sim.simT ?_ (Vr_ hn h)
   simpa [L0_,AB,hv] using hp
theorem fn_cw{tb:Tb}{G:Gb}{m:Nat}{f:FuncId}{fn:Func}{c:Code}{args:List PV}{res:PV}(ht:tbB P tb=true)(hf:P.funcs[f]? = some fn)(hb:fn.body=some c)(hn:fn.ntmps=m)(hs:Nat.ble args.length m=true)(hcb:A4_ P f)(hno:res.noOsl=true)(hna:Ds_ args=true)
   (h:PV.wfs args->∀ N H,G.p H->Hd P m N ⟨H,G⟩ (rtK tb fn.results.toList res) (.code c) [] ⟨Qf_ args,λ_=> .no⟩):Fn P G f args res:=by
 refine⟨hcb,hno,λN H L w vs hg hsim hm=>?_⟩;subst hn;have key:Ph P f vs.toArray H (λv H'=>Sim H' res v):=by
   refine ph_of_cw hf hb nF λN=>?_
   have h1:=h hsim.wf N H hg (L0_ vs.toArray) H l0 ⟨.refl H,hg,λt=>Ns_ hsim hna t,λi=>trivial⟩
   refine Lb_ (λe F' H' L' hq=>?_) h1
   have⟨s',ha',hq'⟩:=hq
   have⟨he,v,hr,hv⟩:=Rd_ (N:=N) ht ha' hq'
   rcases he with rfl|rfl
   . exact⟨v,hr,ha'.le,hv⟩
   . exact⟨v,hr,ha'.le,hv⟩
 exact (key N L w hm).mono λ_ _ ⟨v,H',h1,h2,h3,h4⟩=>⟨v,H',h1,h2,h3,h4⟩
theorem en_any{F:Fr}{x:Operand}{f:FuncId}{fs cap:List Value}{xs:Array Operand}{ats:Array TypeId}(hx:ev F x = .func (.func f) fs.toArray cap.toArray)(hc:A4_ P f):En P (.call ⟨.value x,xs,ats⟩) F f (fs++evs F xs.toList++cap).toArray:=λty d pos af g w=>by
 have :=hc (fs++evs F xs.toList++cap).toArray w
 have e3:xs.map (ev F)=(evs F xs.toList).toArray:=by rw[<- evs_map];apply Array.ext';simp
 simp only[A6] at this ⊢
 simp[execOp,resolve,Deferred.ofValue,hx,invoke,e3,this]
def argsP(G:Nat->PV)(x:Operand)(xs:List Operand):Option (FuncId×List PV):=
 match evP G x with
 | .fn f fs cap=>some (f,apL fs (apL (evPs G xs) cap))
 |_=>none
where apL:List PV->List PV->List PV
 |[],k=>k
 |p::r,k=>p::apL r k
theorem apL_eq:∀ (a b:List PV),argsP.apL a b=a++b
 |[],b=>rfl
 |p::r,b=>by simp[argsP.apL,apL_eq r b]
theorem Jk_{sL:Nat->Blk}{H:Hp}{F:Fr}{G:Nat->PV}{x:Operand}{xs:Array Operand}{ats:Array TypeId}{f:FuncId}{args:List PV}(hG:∀ t,SimT sL H (G t) (F t))(h:argsP G x xs.toList=some (f,args))(hc:A4_ P f):∃ vs,Sims H args vs/\En P (.call ⟨.value x,xs,ats⟩) F f vs.toArray:=by
 unfold argsP at h
 split at h
 . rename_i f' fs cap he
   simp only[Option.some.injEq,Prod.mk.injEq] at h
   obtain⟨rfl,rfl⟩:=h
   have h1:=(Dn_ hG x).sim
   rw[he] at h1
   have⟨vs,us,e,h2,h3⟩:=h1.inv_fn
   refine⟨vs++evs F xs.toList++us,?_,en_any e hc⟩
   rw[apL_eq,apL_eq,<- A6]
   exact (h2.append (Xg_ λy _=>Dn_ hG y)).append h3
 . cases h
def gOp(s:St)(all:List Oper)(j:Nat)(want:Bool):Option Bool:=
 match nth all j with
 |some oj=>match oj.dst with
   |some dj=>gC (s.F dj) want
   |none=>none
 |none=>none
theorem T1_{s:St}{all:List Oper}{j:Nat}{want g:Bool}{F:Fr}{H:Hp}{L:Ls}(ha:Abs H0 s F H L)(h:gOp s all j want=some g):∃ c b,yF all F j=some (gv c (.bool b))/\g=(c&&gOf b want):=by
 unfold gOp at h
 split at h
 . rename_i oj hj
   split at h
   . rename_i dj hdj
     have⟨c,b,hv,hge⟩:=gC_ok h (ha.f dj).sim
     exact⟨c,b,by rw[yF_of hj hdj,hv],hge⟩
   . cases h
 . cases h
theorem ow_gd{F:Fr}{H:Hp}{L:Ls}{ops rest:List Oper}{op:Op}{ty j d:Nat}{pos:String}{af:Array Edge}{Q:Qt}{want c b:Bool}(hy:yF ops F j=some (gv c (.bool b)))(hd:Nat.blt d n=true)
   (ht:(c&&gOf b want)=true->Op1 P n N ops ⟨some d,op,ty,pos,af,none⟩ (λF H L=>Ow P n N ops rest Q F H L) F H L) (hf:(c&&gOf b want)=false->Ow P n N ops rest Q (upd F d undef) H L):Ow P n N ops (⟨some d,op,ty,pos,af,some (j,want)⟩::rest) Q F H L:=by
 cases c with
 |false=>
   refine ow1 λa w ha hm=>?_
   have :yielded ops.toArray a.tmps j=none:=Rk_ ha hy
   rw[if_neg nQ]
   exact⟨_,_,_,ha.put pI undef,hm,hf Y⟩
 |true=>
   by_cases e:b=want
   . subst e
     exact ow1 (op1_gd hy Y (ht (by cases b<;>rfl)))
   . refine ow1 (op1_gs hy (b:=b) ?_ hd (hf ?_))
     . exact zB
     . cases b<;>cases want<;>simp_all [gOf]
theorem hd_le{Q:Qs}{c:Cf}{ks:List Kt}{s s':St}(h:StLe s s')(hq:∀ e,c ≠ .ex e)(k:Hd P n N H0 Q c ks s'):Hd P n N H0 Q c ks s:=by
 cases c with
 |code c=>exact Sw.le h k
 |ops a r=>exact So.le h k
 |ex e=>exact absurd Y (hq e)
def Junk(s s':St):Prop:=(∀ t,s'.F t=s.F t\/s'.F t = .junk)/\∀ i,s'.L i=s.L i\/s'.L i = .no
theorem Junk.le{s s':St}(h:Junk s s'):StLe s s':=λH0 F H L ha=>by
 refine⟨ha.le,ha.g,λt=>?_,λi=>?_⟩
 . rcases h.1 t with e|e
   . rw[e]
     have h1:=ha.f t
     generalize s.F t=p at *
     cases p with
     |osl i=>
       simp only[SimT] at h1 ⊢
       rcases h.2 i with e2|e2
       . rw[e2];exact h1
       . rw[e2];trivial
     |_=>exact h1
   . rw[e];exact Sim.junk
 . rcases h.2 i with e|e
   . rw[e]
     have h1:=ha.l i
     generalize s.L i=B at *
     cases B with
     |box b T cs=>
       have⟨vs,h2,h3,h4⟩:=h1
       refine⟨vs,h2,h3,λj p v hp hv=>?_⟩
       have h5:=h4 j p v hp hv
       cases p with
       |osl q=>
         simp only[SimT] at h5 ⊢
         rcases h.2 q with e2|e2
         . rw[e2];exact h5
         . rw[e2];trivial
       |_=>exact h5
     |no=>trivial
     |arr u k e enc xs=>exact h1
     |itr b s p=>exact h1
     |ob b o=>exact h1
   . rw[e];trivial
def lkF:List (Nat×PV)->Nat->Option PV
 |[],_=>none
 |(a,x)::r,t=>bif AR t a then some x else lkF r t
def mkF(lv:List (Nat×PV))(keep:List Nat)(G:Nat->PV):Nat->PV:=λt=>match lkF lv t with
 |some p=>p
 |none=>bif memB keep t then G t else .junk
def lkL:List (Nat×Blk)->Nat->Option Blk
 |[],_=>none
 |(a,x)::r,t=>bif AR t a then some x else lkL r t
def mkL(lv:List (Nat×Blk))(keep:List Nat)(G:Nat->Blk):Nat->Blk:=λt=>match lkL lv t with
 |some p=>p
 |none=>bif memB keep t then G t else .no
def AllF(F:Nat->PV):List (Nat×PV)->Prop
 |[]=>True
 |(t,p)::r=>F t=p/\AllF F r
def AllL(F:Nat->Blk):List (Nat×Blk)->Prop
 |[]=>True
 |(t,p)::r=>F t=p/\AllL F r
theorem allF_lk{F:Nat->PV}:∀ {lv:List (Nat×PV)} {t:Nat} {p:PV},AllF F lv->lkF lv t=some p->F t=p
 |[],t,p,_,h=>by cases h
 |(a,x)::r,t,p,h,hl=>by
   simp only[lkF] at hl
   cases e:AR t a with
   |true=>rw[e] at hl;simp at hl;rw[AM e,<- hl];exact h.1
   |false=>rw[e] at hl;exact allF_lk h.2 pZ
theorem allL_lk{F:Nat->Blk}:∀ {lv:List (Nat×Blk)} {t:Nat} {p:Blk},AllL F lv->lkL lv t=some p->F t=p
 |[],t,p,_,h=>by cases h
 |(a,x)::r,t,p,h,hl=>by
   simp only[lkL] at hl
   cases e:AR t a with
   |true=>rw[e] at hl;simp at hl;rw[AM e,<- hl];exact h.1
   |false=>rw[e] at hl;exact allL_lk h.2 pZ
theorem map_mem{α:Type _}{F G:Nat->α}:∀ {l:List Nat},l.map F=l.map G->∀ t∈l,F t=G t
 |[],_,t,h=>by cases h
 |a::r,e,t,h=>by
   simp only[AG,List.cons.injEq] at e
   rcases List.mem_cons.1 h with rfl|q
   . exact e.1
   . exact map_mem e.2 t q
theorem mk_le{s:St}{lv:List (Nat×PV)}{keep:List Nat}{G:Nat->PV}{lL:List (Nat×Blk)}{kL:List Nat}{GL:Nat->Blk}(h1:keep.map s.F=keep.map G)(h2:kL.map s.L=kL.map GL)(h3:AllF s.F lv)(h4:AllL s.L lL):StLe s ⟨mkF lv keep G,mkL lL kL GL⟩:=by
 refine Junk.le ⟨λt=>?_,λi=>?_⟩
 . simp only[mkF]
   cases e:lkF lv t with
   |some p=>exact .inl (allF_lk h3 e).symm
   |none=>
     cases e2:memB keep t with
     |true=>exact .inl (map_mem h1 t (Qz_ e2)).symm
     |false=>exact .inr Y
 . simp only[mkL]
   cases e:lkL lL i with
   |some p=>exact .inl (allL_lk h4 e).symm
   |none=>
     cases e2:memB kL i with
     |true=>exact .inl (map_mem h2 i (Qz_ e2)).symm
     |false=>exact .inr Y
def LJ{ι:Type _}(S:ι->St)(Φ:ι->Prop)(μ:ι->Nat)(m:Nat):St->Prop:=λs=>∃ x,Φ x/\μ x<m/\StLe s (S x)
theorem sw_loop{ι:Type _}{c:Code}{ks:List Kt}{Q:Qs}{s:St}(S:ι->St)(Φ:ι->Prop)(μ:ι->Nat)(x0:ι)(h0:StLe s (S x0))(hΦ:Φ x0)(body:∀ x,Φ x->Hd P n N H0 Q (.code c) (.lp (LJ S Φ μ (μ x))::ks) (S x)):Hd P n N H0 Q (.code (.loop c)) ks s:=by
 intro F H L ha;refine cw_loop (λk F H L=>∃ x,Φ x/\μ x=k/\Abs H0 (S x) F H L) (μ x0) ⟨x0,hΦ,rfl,h0 _ _ _ _ ha⟩ λk F H L hI=>?_;obtain⟨x,hx,rfl,hax⟩:=hI;refine Lb_ (λe F' H' L' hq=>?_) (body x hx F H L hax);have⟨s',ha',hq'⟩:=hq
 cases e with
 |normal=>
   have⟨x',h1,h2,h3⟩:=hq'
   exact⟨μ x',h2,x',h1,rfl,h3 _ _ _ _ ha'⟩
 |_=>exact⟨s',ha',hq'⟩
theorem simT_lups{L:Nat->Blk}{H:Hp}{i:Nat}{B:Blk}{p:PV}{v:Value}(h:SimT L H p v)(hi:p ≠ .osl i):SimT (lups L i B) H p v:=by
 cases p with
 |osl j=>
   have :j≠i:=λe=>hi pP
   simp only[SimT,Hp_ this] at h ⊢
   exact h
 |_=>exact h
def purge(i:Nat):PV->PV
 | .osl j=>bif AR j i then .junk else .osl j
 |p=>p
theorem purge_ok{L:Nat->Blk}{H:Hp}{i:Nat}{B:Blk}{p:PV}{v:Value}(h:SimT L H p v):SimT (lups L i B) H (purge i p) v:=by
 cases p with
 |osl j=>
   simp only[purge]
   cases e:AR j i with
   |true=>exact Sim.junk
   |false=>exact simT_lups h (λq=>by cases q;simp at e)
 |_=>exact h
def purgeB(i:Nat):Blk->Blk
 | .box b T cs=> .box b T (cs.map (purge i))
 |B=>B
theorem purges_ok{L:Nat->Blk}{H:Hp}{i:Nat}{B:Blk}{ps:List PV}{vs:List Value}(h:SimTs L H ps vs):SimTs (lups L i B) H (ps.map (purge i)) vs:=by
 refine⟨by simp[h.1],λj p v hp hv=>?_⟩;rw[List.getElem?_map] at hp
 cases e:ps[j]? with
 |none=>rw[e] at hp;cases hp
 |some q=>rw[e] at hp;cases hp;exact purge_ok (h.2 j q v e hv)
def N2_(i:Nat)(F:Nat->PV):Nat->PV:=λt=>purge i (F t)
def Kt_(i:Nat)(L:Nat->Blk):Nat->Blk:=λt=>purgeB i (L t)
theorem Abs.turn{s:St}{F:Fr}{H:Hp}{L:Ls}(ha:Abs H0 s F H L)(i:Nat){B:Blk}{x:Option (Nat×Obj)}(hx:SimB (lups (Kt_ i s.L) i B) H B x):Abs H0 ⟨N2_ i s.F,lups (Kt_ i s.L) i B⟩ F H (lupd L i x):=by
 have hshape:∀ {q p v},SimT (lups s.L i q) H p v->SimT (lups (Kt_ i s.L) i q) H p v:=λ{q p v} h=>by
   cases p with
   |osl j=>
     by_cases e:j=i
     . subst e;simp only[SimT,D5_] at h ⊢;exact h
     . simp only[SimT,Hp_ e,Kt_] at h ⊢
       generalize s.L j=C at *
       cases C<;>exact h
   |_=>exact h
 refine⟨ha.le,ha.g,λt=>hshape (purge_ok (ha.f t)),λj=>?_⟩;by_cases e:j=i;exact sZ
 . simp only[Hp_ e,Cx_ e,Kt_]
   have h1:=ha.l j
   generalize s.L j=C at *
   cases C with
   |box b T cs=>
     have⟨vs,h2,h3⟩:=h1
     exact⟨vs,h2,(purges_ok (B:=B) h3).1,λa p v hp hv=>hshape ((purges_ok (B:=B) h3).2 a p v hp hv)⟩
   |no=>trivial
   |arr u k e enc xs=>exact h1
   |itr b s p=>exact h1
   |ob b o=>exact h1
theorem Abs.turnB{s:St}{F:Fr}{H:Hp}{L:Ls}(ha:Abs H0 s F H L)(i:Nat){B:Blk}{x:Option (Nat×Obj)}(hB:match B with| .arr _ _ _ _ _=>False|_=>True)(hx:SimB (lups s.L i B) H B x):Abs H0 ⟨s.F,lups s.L i B⟩ F H (lupd L i x):=by
 have hshape:∀ {p v},SimT s.L H p v->SimT (lups s.L i B) H p v:=λ{p v} h=>by
   cases p with
   |osl j=>
     by_cases e:j=i
     . subst e;simp only[SimT,D5_];cases B<;>first|trivial|exact hB.elim
     . exact sQ
   |_=>exact h
 refine⟨ha.le,ha.g,λt=>hshape (ha.f t),λj=>?_⟩;by_cases e:j=i;exact sZ
 . simp only[Hp_ e,Cx_ e]
   have h1:=ha.l j
   generalize s.L j=C at *
   cases C with
   |box b T cs=>have⟨vs,h2,h3,h4⟩:=h1;exact⟨vs,h2,h3,λa p v hp hv=>hshape (h4 a p v hp hv)⟩
   |no=>trivial
   |arr u k e enc xs=>exact h1
   |itr b s p=>exact h1
   |ob b o=>exact h1
variable{all rest:List Oper}{Q:Qs}{ks:List Kt}{s:St}{T ty d:Nat}{pos:String}{af:Array Edge}{x y z:Operand}{K:St->Prop}
def E1(P:Program)(n:Nat)(N:Rest)(H0:Env)(all:List Oper)(o:Oper)(j:Option Nat)(s:St)(K:St->Prop):Prop:=
 ∀ F H L,Abs H0 s F H L->Op1 P n N all o (λF' H' L'=>HLe H H'/\(∀ i,j≠some i->L' i=L i)/\∃ s',Abs H0 s' F' H' L'/\K s') F H L
theorem Op1.imp{o:Oper}{K K':Fr->Hp->Ls->Prop}{F:Fr}{H:Hp}{L:Ls}(h:Op1 P n N all o K F H L)(hk:∀ F H L,K F H L->K' F H L):Op1 P n N all o K' F H L:=λa w ha hm=>by
 have :=h a w ha hm
 split
 . rename_i hw
   rw[if_pos hw] at this
   exact Vy_ (λa' w' ⟨F',H',L',x,y,z⟩=>⟨F',H',L',x,y,hk _ _ _ z⟩) (λ_ _ _ x=>x) this
 . rename_i hw
   rw[if_neg hw] at this
   have⟨F',H',L',x,y,z⟩:=this
   exact⟨F',H',L',x,y,hk _ _ _ z⟩
theorem only{L:Ls}{j:Nat}{x:Option (Nat×Obj)}:∀ i,some j≠some i->lupd L j x i=L i:=λi h=>Cx_ λe=>h pP
theorem Hz_{L:Nat->Blk}{H:Hp}{ps:List PV}{vs:List Value}(h:Sims H ps vs)(hn:Ds_ ps=true):SimTs L H ps vs:=⟨h.1,λi p v hp hv=>(h.2 i p v hp hv).simT (Vr_ hn hp)⟩
theorem one_cells{v:Value}(h:v.oneCell'=true):v.cells = #[v]:=by cases v<;>first|rfl|(simp[Value.oneCell'] at h)
def evS(p:PV):Option PV:=frc p some
theorem evS_eq{p q:PV}(h:evS p=some q):p=q:=by simp only[evS,frc_eq,Option.some.injEq] at h;exact h
def evL(l:List PV):Option (List PV):=frcL l some
theorem evL_eq{l m:List PV}(h:evL l=some m):l=m:=by simp only[evL,Vh_,Option.some.injEq] at h;exact h
theorem SimTs.set{L:Nat->Blk}{H:Hp}{ps:List PV}{vs:List Value}(h:SimTs L H ps vs){p:PV}{v:Value}(m:Nat)(hp:SimT L H p v):SimTs L H (ps.set m p) (vs.set m v):=by
 refine⟨by simp[h.1],λi q u hq hu=>?_⟩;rw[List.getElem?_set] at hq hu
 split at hq
 grind
 . rename_i e;rw[if_neg e] at hu;exact h.2 i q u hq hu
theorem SimTs.append{L:Nat->Blk}{H:Hp}{ps qs:List PV}{vs us:List Value}(h:SimTs L H ps vs)(k:SimTs L H qs us):SimTs L H (ps++qs) (vs++us):=by
 refine⟨by simp[h.1,k.1],λi p v hp hv=>?_⟩
 rcases Nat.lt_or_ge i ps.length with q|q
 rw[CR q] at hp;rw[CR (by rw[h.1];exact q)] at hv;exact h.2 i p v hp hv;rw[BK q] at hp;rw[BK (by rw[h.1];exact q),h.1] at hv;exact k.2 _ p v hp hv
theorem SimTs.take{L:Nat->Blk}{H:Hp}{ps:List PV}{vs:List Value}(h:SimTs L H ps vs)(m:Nat):SimTs L H (ps.take m) (vs.take m):=by
 refine⟨by simp[h.1],λi p v hp hv=>?_⟩;rw[BE] at hp hv
 split at hp
 . rename_i q;rw[if_pos q] at hv;exact h.2 i p v hp hv
 . cases hp
theorem SimTs.drop{L:Nat->Blk}{H:Hp}{ps:List PV}{vs:List Value}(h:SimTs L H ps vs)(m:Nat):SimTs L H (ps.drop m) (vs.drop m):=by
 exact uY
theorem W0_{L:Nat->Blk}{H:Hp}{i b b':Nat}{T T':TypeId}{cs cs':List PV}(hb:L i = .box b T cs){p:PV}{v:Value}(h:SimT L H p v):SimT (lups L i (.box b' T' cs')) H p v:=by
 cases p with
 |osl j=>
   by_cases e:j=i
   . subst e;simp only[SimT,D5_]
   . exact sQ
 |_=>exact h
def all1:List PV->Bool
 |[]=>true
 |p::r=>p.one&&all1 r
theorem U8_{H:Hp}:∀ {ps:List PV} {vs:List Value},Sims H ps vs->all1 ps=true->vs.all Value.oneCell'=true
 |[],vs,h,_=>by cases h.inv_nil;rfl
 |p::r,vs,h,ho=>by
   obtain⟨v,us,rfl,h1,h2⟩:=h.inv_cons
   simp only[all1,A3] at ho
   simp only[EN,A3]
   exact⟨h1.one ho.1,U8_ h2 ho.2⟩
variable{T2:Nat}
def SrcP(P:Program)(N:Rest)(H0:Env)(s:St){α:Type}(enc:α->List PV)(k:Nat)(y:Operand)(ys:List α):Prop:=
 ∀ F H L,Abs H0 s F H L->∃ news,Src P N H L k (ev F y) ys.length news/\Rl (RowE enc k) H ys news/\∀ u∈news,u.oneCell'=true
theorem src_own{F:Fr}{H:Hp}{L:Ls}{k e i:Nat}{v:Value}{len:Nat}{cs:List Value}(h:OwnV k e v (L i) len cs):Src P N H L k v len cs:=by
 have⟨hl,h⟩:=h;refine⟨hl,λw hm=>?_⟩
 rcases h with ⟨rfl,rfl,_⟩|⟨b,cap,c,f,rfl,hL,hc,hle,ht,hff⟩
 have :cs=[]:=List.length_eq_zero_iff.1 pZ;subst this;exact⟨by simp[CK],by simp[AF]⟩;refine⟨by simp[CK],?_⟩
 have :=run_loadCells_list (P:=P) w ⟨b,f.length,none⟩ cs (λj v hj=>by
   rw[G8_]
   refine hm.cellL hL ?_
   rw[BK qX,Nat.add_sub_cancel_left]
   subst ht
   rw[BE] at hj
   split at hj
   . exact hj
   . cases hj)
 rw[hl] at this;simpa [AF] using this
def u8c(c:UInt8):List PV:=[.int .u8 c.toNat]
theorem u8_sim{H:Hp}{c:UInt8}:Sim H (.int .u8 c.toNat) (.int .u8 c.toNat):=by
 have :=c.toNat_lt;exact yQ
def noIntT(tb:Tb)(T:TypeId):Bool:=
 match lkT tb T with
 |some ti=>match ti.k with
   | .slc _=>true
   | .str=>true
   |_=>false
 |none=>false
theorem noIntT_ok{tb:Tb}(ht:tbB P tb=true){T:TypeId}(h:noIntT tb T=true):∃ d2,P.underlying T=some d2/\noInt d2=true:=by
 unfold noIntT at h
 split at h
 . rename_i ti hti
   split at h
   . rename_i e hk;exact⟨_,(Eq_ ht hti).slc hk,rfl⟩
   . rename_i hk;exact⟨_,(Eq_ ht hti).str hk,rfl⟩
   . cases h
 . cases h
theorem zero_one{tb:Tb}{t:Nat}{ti:TI}(ht:tbB P tb=true)(hti:lkT tb t=some ti)(h1:ti.zero.length=ti.size):∃ zs:List Value,Zr P t zs/\zs.length=ti.size:=by
 have⟨zv,hz,hs⟩:=(Eq_ ht hti).zero;exact⟨zv.cells.toList,λw=>⟨zv,hz w,by simp⟩,by rw[(hs (λ_=>none)).1,h1]⟩
def bslP(G:Nat->PV):List (Nat×Operand)->Nat->Option (List (List PV))
 |[],_=>some []
 |(j,x)::r,i=>match AR j i with
   |true=>match (evP G x).cellsOf with
     |some c=>match all1 c with
       |true=>match bslP G r (i+1) with
         |some rows=>some (c::rows)
         |none=>none
       |false=>none
     |none=>none
   |false=>none
theorem bslP_ok{sL:Nat->Blk}{H:Hp}{F:Fr}{G:Nat->PV}(hG:∀ t,SimT sL H (G t) (F t)){k:Nat}:∀ (ps:List (Nat×Operand)) (i:Nat) (rows:List (List PV)),bslP G ps i=some rows->(∀ r∈rows,r.length=k) ->
   inOrder k i (evp F ps)/\(evp F ps).length=rows.length/\∀ {α:Type} (enc:α->List PV) (xs:List α),rows=xs.map enc->Rl (RowE enc k) H xs (Rm_ (evp F ps))
 |[],i,rows,h,_=>by
   simp only[bslP,Option.some.injEq] at h
   subst h
   exact ⟨trivial,rfl,λenc xs e=>by
     have :xs=[]:=by simpa using e.symm
     subst this;exact rl_nil⟩
 |(j,x)::r,i,rows,h,hk=>by
   simp only[bslP] at h
   split at h
   . rename_i hj
     split at h
     . rename_i c hc
       split at h
       . rename_i h1
         split at h
         . rename_i rows' hr
           cases h
           have⟨a1,a2,a3⟩:=bslP_ok hG r (i+1) rows' hr λq hq=>hk q (AI _ hq)
           have hv:=Z8_ (Dn_ hG x).sim hc
           have hck:=hk c B8
           refine⟨⟨Nat.eq_of_beq_eq_true hj,by rw[<- hck,<- hv.1];simp,a1⟩,by simp[evp,a2],λenc xs e=>?_⟩
           cases xs with
           |nil=>cases e
           |cons a xs=>
             simp only[AG,List.cons.injEq] at e
             obtain⟨rfl,e2⟩:=e
             refine⟨_,_,rfl,⟨hck,hv,λu hu=>?_⟩,a3 enc xs e2⟩
             have :=U8_ hv h1
             rw[CC] at this
             exact this u hu
         . cases h
       . cases h
     . cases h
   . cases h
def giveP{α:Type}(i:Nat)(enc:α->List PV)(xs:List α):PV->PV
 | .osl j=>bif AR j i then .sl enc xs else .osl j
 |p=>p
def giveF{α:Type}(i:Nat)(enc:α->List PV)(xs:List α)(F:Nat->PV):Nat->PV:=λt=>giveP i enc xs (F t)
def giveB{α:Type}(i:Nat)(enc:α->List PV)(xs:List α):Blk->Blk
 | .box b T cs=> .box b T (cs.map (giveP i enc xs))
 |B=>B
def giveL{α:Type}(i:Nat)(enc:α->List PV)(xs:List α)(L:Nat->Blk):Nat->Blk:=λt=>bif AR t i then .no else giveB i enc xs (L t)
theorem Abs.give{α:Type}{i e k:Nat}{u:Value}{enc:α->List PV}{xs:List α}{F:Fr}{H H':Hp}{L:Ls}(ha:Abs H0 s F H L)(hb:s.L i = .arr u k e enc xs)(hl:HLe H H')(hH:∀ b o,L i=some (b,o)->H' b=some o):Abs H0 ⟨giveF i enc xs s.F,giveL i enc xs s.L⟩ F H' (lupd L i none):=by
 have hi:=ha.l i;rw[hb] at hi;have⟨cs,ho,hr,hm⟩:=hi;have hsl:Sim H' (.sl enc xs) u:=Sim.of_slh (slh_ownE Ma_ ho (hr.mono Rc_ hl) hH) hm;have hp:∀ {p v},SimT s.L H p v->SimT (giveL i enc xs s.L) H' (giveP i enc xs p) v:=λ{p v} h=>by
   cases p with
   |osl j=>
     simp only[giveP]
     cases q:AR j i with
     |true=>
       have :=AM q
       subst this
       simp only[SimT,hb] at h
       subst h
       exact hsl
     |false=>
       simp only[SimT] at h
       show SimT _ _ (.osl j) v
       simp only[SimT,giveL,q,cond_false]
       generalize s.L j=B at *
       cases B<;>first|exact h|trivial
   |_=>exact Sim.mono hl h
 refine⟨ha.le.trans hl,H0.g.mono _ _ hl ha.g,λt=>hp (ha.f t),λj=>?_⟩;simp only[giveL]
 cases q:AR j i with
 |true=>trivial
 |false=>
   have hne:j≠i:=λe=>by subst e;simp at q
   rw[Cx_ hne]
   have h1:=ha.l j
   simp only[cond_false]
   generalize s.L j=B at *
   cases B with
   |box b T cs'=>
     have⟨vs,h2,h3,h4⟩:=h1
     refine⟨vs,h2,by simp[h3],λa p v hpp hv=>?_⟩
     grind
   |no=>trivial
   |arr u2 k2 e2 enc2 xs2=>have⟨c2,h2,h3,h4⟩:=h1;exact⟨c2,h2,h3.mono Rc_ hl,h4⟩
   |itr b s2 p=>exact h1
   |ob b o=>exact h1
def LkR(xs:Option (List Nat))(Lk L:Ls):Prop:=match xs with
 |some xs=>∀ i,Lk i = bif memB xs i then none else L i
 |none=>True
def Hv(P:Program)(n:Nat)(N:Rest)(H0:Env)(Q:Qs)(xs:Option (List Nat))(all:List Oper)(fuel:Nat)(listed:Array Bool)(ks:List Kt)(s:St):Prop:=
 ∀ F H L Lk,Abs H0 s F H L->LkR xs Lk L->Vw P n N all Lk (ql H0 (Kt.den P n N H0 ks Q)) fuel listed F H L
def okX(xs:Option (List Nat))(i:Nat):Bool:=match xs with
 |some xs=>!memB xs i
 |none=>false
def okLk(xs:Option (List Nat))(sL:Nat->Blk)(op:Op)(lk:Option (Nat×Nat×Nat)):Bool:=
 match lk with
 |none=>true
 |some (i,_,_)=>match Qx_ op with
   |true=>match okX xs i with
     |true=>match sL i with
       | .box _ _ _=>true
       |_=>false
     |false=>false
   |false=>false
theorem lk_le{xs:Option (List Nat)}{Lk L:Ls}(h:LkR xs Lk L){op:Op}(ho:Qx_ op=false\/∃ i,okX xs i=true):LLe (lkOf op Lk) L:=by
 rcases Rt_ op Lk with ⟨h1,h2⟩|h2
 . rcases ho with q|⟨i,q⟩
   grind
   . rw[h2]
     cases xs with
     |none=>cases q
     |some xs=>
       intro j o hj
       rw[h j] at hj
       grind
 rw[h2];exact λ_ _ q=>by cases q
theorem okLk_ok{xs:Option (List Nat)}{F:Fr}{H:Hp}{L Lk:Ls}{op:Op}{lk:Option (Nat×Nat×Nat)}(ha:Abs H0 s F H L)(hL:LkR xs Lk L)(h:okLk xs s.L op lk=true){L':Ls}(hl:LLe (lkOf op Lk) L'):∀ x,lk=some x->L' x.1=L x.1:=by
 intro x hx;subst hx;have⟨i,a,b⟩:=x;simp only[okLk] at h
 split at h
 . rename_i h1
   split at h
   . rename_i h2
     split at h
     . rename_i b' T cs h3
       have h4:=ha.l i
       rw[h3] at h4
       have⟨vs,h5,_⟩:=h4
       rcases Rt_ op Lk with ⟨_,e⟩|e
       . cases xs with
         |none=>cases h2
         |some xs=>
           have h6:Lk i=L i:=by
             rw[hL i]
             simp only[okX,FK] at h2
             rw[h2];rfl
           exact (hl i _ (by rw[e,h6,h5])).trans h5.symm
       . exfalso
         have e2:lkOf op Lk=Lk\/Qx_ op=false:=by cases op<;>first|exact .inl Y|exact .inr Y
         rcases e2 with q|q
         . rw[q] at e
           cases xs with
           |none=>cases h2
           |some xs=>
             have h6:=hL i
             simp only[okX,FK] at h2
             grind
         grind
     . cases h
   . cases h
 . cases h
theorem sv_v{tb:Tb}{xs:Option (List Nat)}{fuel i:Nat}{listed:Array Bool}{o:Oper}{r:PR}(ht:tbB P tb=true)(hi:nth all i=some o)(ho:o.dst=some d)(hck:(rdB all listed i&&apB n all listed i o&&Nat.blt d n&&nosB o.op)=true)(h:vOp tb s all o=some r)(hp:AllP r.ps)(he:∀ x,r.lk=some x->x.2.1=x.2.2)(hlk:okLk xs s.L o.op r.lk=true)(hx:Qx_ o.op=false\/∃ i,okX xs i=true)
   (k:Hv P n N H0 Q xs all fuel (listed.setIfInBounds i true) ks ⟨updp s.F d r.v,s.L⟩):Hv P n N H0 Q xs all (fuel+1) listed ks s:=by
 intro F H L Lk ha hL;rw[L4_] at hi;have⟨d',op,ty,pos,af,g⟩:=o
 cases ho
 unfold vOp at h
 split at h
 . rename_i hg
   cases hg
   have⟨val,h1,h2⟩:=pop_ok (N:=N) (ty:=ty) ht ha.f ha.l h hp he
   exact vw_q i hi (hck:=hck) (hL:=lk_le hL hx) (λH' L' hh hl=>h2 H' L' hh (okLk_ok ha hL hlk hl)) (k _ _ _ _ (ha.put d h1) hL)
 . rename_i j want hg
   cases hg
   split at h
   . rename_i oj hj
     split at h
     . rename_i dj hdj
       split at h
       . rename_i g hgc
         split at h
         . rename_i hno
           unfold pG1 at h
           split at h
           . rename_i v0 ps0 lk0 hr0
             split at h
             . rename_i hnv
               cases h
               have⟨c,b,hv,hge⟩:=gC_ok hgc (ha.f dj).sim
               have hy:yF all F j=some (gv c (.bool b)):=by rw[yF_of hj hdj,hv]
               have⟨hp1,hp2⟩:=Lv_ hp
               have hge2:g=(c&&(b==want)):=hge.trans gv_dec.symm
               cases hgv:g with
               |false=>
                 refine vgq (c:=c) (b:=b) (v:=undef) i hi hck (lk_le hL hx) (λ_ _ q=>by cases q) hy (λe=>by rw[<- hge2,hgv] at e;cases e) (k _ _ _ _ (ha.put d ?_) hL)
                 rw[<- hge2,hgv]
                 exact Sim.gvf
               |true=>
                 have⟨val,h1,h2⟩:=pop_ok (N:=N) (ty:=ty) ht (Ri_ ha.f (λt ht c v e=>hp2 t ht c v e hgv) (Kn_ hno)) ha.l hr0 (Xk_ hgv hp1) he
                 refine vgq (c:=c) (b:=b) (v:=val) i hi hck (lk_le hL hx) (λ_ _ q=>by cases q) hy (λ_ H' L' hh hl=>h2 H' L' hh (okLk_ok ha hL hlk hl)) (k _ _ _ _ (ha.put d ?_) hL)
                 rw[<- hge2,hgv]
                 exact Sim.gvt h1.sim
             . cases h
           . cases h
         . cases h
       . cases h
     . cases h
   . cases h
structure VV where
 F:Nat->PV
 L:Nat->Blk
 ps:List Prop
 as0:List Nat
 bs:List Nat
def lksOk(xs:Option (List Nat))(op:Op):Bool:=match Qx_ op with
 |false=>true
 |true=>match xs with
   |some xs=>!memB xs (xs.foldr max 0+1)
   |none=>false
theorem lksOk_ok{xs:Option (List Nat)}{op:Op}(h:lksOk xs op=true):Qx_ op=false\/∃ i,okX xs i=true:=by
 unfold lksOk at h
 split at h
 grind
 . split at h
   exact .inr ⟨_,h⟩
   . cases h
def runV(tb:Tb)(xs:Option (List Nat))(all:List Oper):List Nat->(Nat->PV)->(Nat->Blk)->List Prop->List Nat->List Nat->Option VV
 |[],F,L,ps,as0,bs=>frcP ps λps=>frcN as0 λas0=>frcN bs λbs=>some ⟨F,L,ps,as0,bs⟩
 |i::r,F,L,ps,as0,bs=>match nth all i with
   |some o=>match o.dst with
     |some d=>match vOp tb ⟨F,L⟩ all o with
       |some ⟨v0,ps0,lk0⟩=>match okLk xs L o.op lk0 with
         |true=>match lksOk xs o.op with
           |true=>match lk0 with
             |none=>addP ps ps0 λps=>frc v0 λv=>runV tb xs all r (updp F d v) L ps as0 bs
             |some (_,a,b)=>addP ps ps0 λps=>frc v0 λv=>runV tb xs all r (updp F d v) L ps (a::as0) (b::bs)
           |false=>none
         |false=>none
       |none=>none
     |none=>none
   |none=>none
def chkV(n:Nat)(all:List Oper):List Nat->Array Bool->Bool
 |[],_=>true
 | i::r,listed=>(match nth all i with
   |some o=>rdB all listed i&&apB n all listed i o&&dstB n o&&nosB o.op
   |none=>false)&&chkV n all r (listed.setIfInBounds i true)
def lst(listed:Array Bool):List Nat->Array Bool
 |[]=>listed
 |i::r=>lst (listed.setIfInBounds i true) r
theorem runV_ok{tb:Tb}(ht:tbB P tb=true){xs:Option (List Nat)}:∀ (order:List Nat) (fuel:Nat) (listed:Array Bool) (F:Nat->PV) (L:Nat->Blk) (ps:List Prop) (as0 bs:List Nat) (r:VV),chkV n all order listed=true->runV tb xs all order F L ps as0 bs=some r->AllP r.ps->r.as0=r.bs ->
   AllP ps/\as0=bs/\(Hv P n N H0 Q xs all fuel (lst listed order) ks ⟨r.F,r.L⟩->Hv P n N H0 Q xs all (fuel+order.length) listed ks ⟨F,L⟩)
 |[],fuel,listed,F,L,ps,as0,bs,r,_,h,hp,he=>by
   simp only[runV,Xi_,frcN_eq,Option.some.injEq] at h
   subst h
   exact⟨hp,he,id⟩
 |i::q,fuel,listed,F,L,ps,as0,bs,r,hc,h,hp,he=>by
   simp only[chkV,A3] at hc
   have⟨hc1,hc2⟩:=hc
   have ih:=runV_ok ht (xs:=xs) q fuel (listed.setIfInBounds i true)
   simp only[runV] at h
   split at h
   . rename_i o ho
     rw[ho] at hc1
     split at h
     . rename_i d hd
       split at h
       . rename_i v0 ps0 lk0 hv
         split at h
         . rename_i hlk
           split at h
           . rename_i hlo
             have hck:(rdB all listed i&&apB n all listed i o&&Nat.blt d n&&nosB o.op)=true:=by simpa [dstB,hd] using hc1
             split at h
             . rw[addP_eq,frc_eq] at h
               have⟨h1,h2,h3⟩:=ih _ _ _ _ _ r hc2 h hp he
               have⟨h4,h5⟩:=Rl_ h1
               exact⟨h4,h2,λx=>sv_v ht ho hd hck hv h5 (λy hy=>by cases hy) hlk (lksOk_ok hlo) (h3 x)⟩
             . rename_i j a b
               rw[addP_eq,frc_eq] at h
               have⟨h1,h2,h3⟩:=ih _ _ _ _ _ r hc2 h hp he
               have⟨h4,h5⟩:=Rl_ h1
               simp only[List.cons.injEq] at h2
               exact⟨h4,h2.2,λx=>sv_v ht ho hd hck hv h5 (λy hy=>by cases hy;exact h2.1) hlk (lksOk_ok hlo) (h3 x)⟩
           . cases h
         . cases h
       . cases h
     . cases h
   . cases h
theorem gov{tb:Tb}(ht:tbB P tb=true)(order:List Nat)(f:Nat){xs:Option (List Nat)}{fuel:Nat}{listed:Array Bool}{F F':Nat->PV}{L L':Nat->Blk}{ps:List Prop}{as0 bs:List Nat}(hf:fuel=f+order.length)(hc:chkV n all order listed=true)(h:runV tb xs all order F L [] [] []=some ⟨F',L',ps,as0,bs⟩)(he:as0=bs)(hp:AllP ps)(next :Hv P n N H0 Q xs all f (lst listed order) ks ⟨F',L'⟩):Hv P n N H0 Q xs all fuel listed ks ⟨F,L⟩:=by
 subst hf;exact (runV_ok ht order f listed F L [] [] [] _ hc h hp he).2.2 next
theorem sim_ex{G:Gb}{f:FuncId}{args:List PV}{res:PV}{H:Hp}{vs:List Value}{L:Ls}{w:World}(h:Fn P G f args res)(hg:G.p H)(hs:Sims H args vs)(hm:Mem N H L w):∃ v H',Sim H' res v:=by
 have⟨_,_,_,⟨v,H',_,h2,_⟩,_⟩:=h.run N H L w vs hg hs hm [];grind
theorem vw_none{Lk:Ls}{Qq:Qt}{fuel i:Nat}{listed:Array Bool}{F:Fr}{H:Hp}{L:Ls}(hr:rdB all listed i=true)(hn:¬∃ w,Mem N H L w):Vw P n N all Lk Qq (fuel+1) listed F H L:=by
 refine⟨λe=>?_,λj hj a w _ hm=>absurd ⟨w,hm⟩ hn⟩;simp[rdB,e] at hr
variable{T':Nat}{op:Op}{p:PV}
def Qy(P:Program)(N:Rest)(H0:Env)(s:St)(op:Op)(ty:TypeId)(p:PV):Prop:=
 ∀ F H L,Abs H0 s F H L->∃ val,SimT s.L H p val/\∀ H' L',HLe H H'->Lo P N op ty F H' L' val
def strS(ts:List Nat)(s:St):St:=⟨strG ts s.F,s.L⟩
theorem abs_str{g:Bool}{ts:List Nat}{F:Fr}{H:Hp}{L:Ls}(ha:Abs H0 s F H L)(hc:AllP (Vc_ s.F g ts []))(hno:Qa_ s.F ts=true)(hg:g=true):Abs H0 (strS ts s) F H L:=
 ⟨ha.le,ha.g,Ri_ ha.f (λt ht c v e=>(Lv_ hc).2 t ht c v e hg) (Kn_ hno),ha.l⟩
theorem Abs.ev{F:Fr}{H:Hp}{L:Ls}(ha:Abs H0 s F H L){x:Operand}{p:PV}(hx:evP s.F x=p):SimT s.L H p (ev F x):=by
 have h1:=Dn_ ha.f x;grind
theorem u8_get{H:Hp}{a:Bs}{m:Nat}:Sim H (.int .u8 ((a.getD m 0).toNat:Int)) (.int .u8 ((a.getD m 0).toNat:Int)):=by
 have :=(a.getD m 0).toNat_lt;exact yQ
theorem rl_u8_inv{H:Hp}:∀ {xs:Bs} {cs:List Value},Rl (RowE u8c 1) H xs cs->cs=xs.map u8v
 |[],_,h=>h
 |a::r,_,⟨c1,c2,rfl,hE,hr⟩=>by
   obtain⟨v,w,rfl,h3,h4⟩:=hE.2.1.inv_cons
   cases h4.inv_nil
   rw[h3.inv_int.1,rl_u8_inv hr]
   rfl
theorem u8_row{H:Hp}{sv:Value}{a:Bs}(h:SlH u8E 1 H sv a):SlH (RowE u8c 1) 1 H sv a:=⟨h.1,λm hm=>by
 have⟨cs,hE,hat⟩:=h.2 m hm
 have e:cs=[u8v a[m]]:=hE
 subst e
 exact⟨_,⟨rfl,Sims.nil.cons u8_sim,λu hu=>by simp at hu;subst hu;rfl⟩,hat⟩⟩
structure Fm(P:Program)(G:Gb)(f:FuncId)(args:List PV)(T:TypeId)(pre:List PV)(res:PV)(post:List PV):Prop where
 cb:A4_ P f
 no:res.noOsl=true
 np:Ds_ post=true
 run:∀ (N:Rest) (H:Hp) (L:Ls) (w:World) (b i:Nat) (vs vc:List Value),G.p H->Sims H args vs->L i=some (b,bx T vc)->Sims H pre vc->Mem N H L w ->
   Calls P f (Value.pointer (some ⟨b,0,none⟩)::vs).toArray w λe w'=>∃ v H' vc',e = .returned v/\Sim H' res v/\Sims H' post vc'/\HLe H H'/\Mem N H' (lupd L i (some (b,bx T vc'))) w'
def rmK(tb:Tb)(rs:List ResultVar)(res:PV)(b T:Nat)(post:List PV):Qs:=λe s=>rtK tb rs res e s/\∃ q,s.L 0 = .box b T q/\Ds_ q=true/\PLes q post
theorem rm{tb:Tb}{rs:List ResultVar}{res:PV}{b b' T:Nat}{post q ps:List PV}{as0 bs:List Nat}(h:Lr_ tb s rs=some (ps,as0,bs))(he:as0=bs)(hp:PLe (tupP ps) res)(hb:s.L 0 = .box b' T q)(hbb:b'=b)(hn:Ds_ q=true)(hq:PLes q post):Hd P n N H0 (rmK tb rs res b T post) (.ex .ret) [] s:=⟨⟨.inr Y,ps,as0,bs,h,he,hp⟩,q,by rw[hb,hbb],hn,hq⟩
theorem Vg_{tb:Tb}{G:Gb}{m:Nat}{f:FuncId}{fn:Func}{c:Code}{args pre post:List PV}{res:PV}{T:Nat}(ht:tbB P tb=true)(hf:P.funcs[f]? = some fn)(hb:fn.body=some c)(hn:fn.ntmps=m)(hs:Nat.ble (args.length+1) m=true)(hcb:A4_ P f)(hno:res.noOsl=true)(hna:Ds_ args=true)(hnp:Ds_ pre=true)(hnq:Ds_ post=true)
   (h:PV.wfs args->PV.wfs pre->∀ b N H,G.p H->Hd P m N ⟨H,G⟩ (rmK tb fn.results.toList res b T post) (.code c) [] ⟨Qf_ (.own 0 b 0::args),lups (λ_=> .no) 0 (.box b T pre)⟩):Fm P G f args T pre res post:=by
 refine⟨hcb,hno,hnq,λN H L w b i vs vc hg hsim hL hpre hm=>?_⟩;subst hn;have hs':Sims H (.own 0 b 0::args) (CS (some ⟨b,0,none⟩)::vs):=hsim.cons Sim.own;have key:Pm P f (CS (some ⟨b,0,none⟩)::vs).toArray H b (bx T vc) (λv H' o'=>∃ vc',o'=bx T vc'/\Sim H' res v/\Sims H' post vc'):=by
   refine pm_of_cw hf hb nO λN=>?_
   have h1:=h hsim.wf hpre.wf b N H hg (L0_ (CS (some ⟨b,0,none⟩)::vs).toArray) H (ofL [(b,bx T vc)]) ⟨.refl H,hg,λt=>Ns_ hs' (by simp [Ds_,hna,PV.noOsl]) t,λj=>by
     by_cases e:j=0
     . subst e;simp only[D5_];exact⟨vc,rfl,Hz_ hpre hnp⟩
     . simp only[Hp_ e];trivial⟩
   refine Lb_ (λe F' H' L' hq=>?_) h1
   have⟨s',ha',hq',q,hq1,hq2,hq3⟩:=hq
   have⟨he,v,hr,hv⟩:=Rd_ (N:=N) ht ha' hq'
   have h3:=ha'.l 0
   rw[hq1] at h3
   have⟨vc',hL',hsv⟩:=h3
   rcases he with rfl|rfl
   . exact yH
   . exact yH
 exact zF
structure Fb(P:Program)(G:Gb)(f:FuncId)(args:List PV)(T:TypeId)(post:List PV):Prop where
 cb:A4_ P f
 np:Ds_ post=true
 run:∀ (N:Rest) (H:Hp) (L:Ls) (w:World) (i:Nat) (vs:List Value),G.p H->Sims H args vs->Mem N H L w ->
   Calls P f vs.toArray w λe w'=>∃ b H' vc',e = .returned (.pointer (some ⟨b,0,none⟩))/\Sims H' post vc'/\HLe H H'/\Mem N H' (lupd L i (some (b,bx T vc'))) w'
def rbK(tb:Tb)(rs:List ResultVar)(T:Nat)(post:List PV):Qs:=λe s=>(e = .normal\/e = .ret)/\∃ j b q,Lr_ tb s rs=some ([.own j b 0],[],[])/\s.L j = .box b T q/\Ds_ q=true/\PLes q post
theorem fb_cw{tb:Tb}{G:Gb}{m:Nat}{f:FuncId}{fn:Func}{c:Code}{args post:List PV}{T:Nat}(ht:tbB P tb=true)(hf:P.funcs[f]? = some fn)(hb:fn.body=some c)(hn:fn.ntmps=m)(hs:Nat.ble args.length m=true)(hcb:A4_ P f)(hna:Ds_ args=true)(hnq:Ds_ post=true)
   (h:PV.wfs args->∀ N H,G.p H->Hd P m N ⟨H,G⟩ (rbK tb fn.results.toList T post) (.code c) [] ⟨Qf_ args,λ_=> .no⟩):Fb P G f args T post:=by
 refine⟨hcb,hnq,λN H L w i vs hg hsim hm=>?_⟩;subst hn;have key:Pn P f vs.toArray H (λv H' b o'=>v = .pointer (some ⟨b,0,none⟩)/\∃ vc',o'=bx T vc'/\Sims H' post vc'):=by
   refine pn_of_cw hf hb nF λN=>?_
   have h1:=h hsim.wf N H hg (L0_ vs.toArray) H l0 ⟨.refl H,hg,λt=>Ns_ hsim hna t,λi=>trivial⟩
   refine Lb_ (λe F' H' L' hq=>?_) h1
   have⟨s',ha',he,j,b,q,hr,hq1,hq2,hq3⟩:=hq
   have⟨_,v,hr',hv⟩:=Rd_ (N:=N) (res:= .own j b 0) ht ha' (show rtK tb fn.results.toList (.own j b 0) e s' from ⟨he,_,_,_,hr,rfl,ple Y⟩)
   have h3:=ha'.l j
   rw[hq1] at h3
   have⟨vc',hL',hsv⟩:=h3
   have hv:=hv.inv_own
   subst hv
   rcases he with rfl|rfl
   . exact yE
   . exact yE
 exact (key N L w i hm).mono λ_ _ ⟨v,H',b,o',h1,⟨h2,vc',h5,h6⟩,h3,h4⟩=>⟨b,H',vc',by rw[h1,h2],h6,h3,by rw[<- h5];exact h4⟩
variable{tb:Tb}{rs:List ResultVar}{res q r:PV}{as0 bs:List Nat}
theorem Kr_{α:Type}{enc:α->List PV}{xs:List α}(h:xs=[]):PLe (.val (.slice none 0 0)) (.sl enc xs):=h ▸ Ay_
def strc(s:Bs):List PV:=[.str s]
def i64c(z:Int):List PV:=[.int .i64 z]
def slc{α:Type}(enc:α->List PV)(l:List α):List PV:=[.sl enc l]
theorem Abs.freeze{i t b b' off T0:Nat}{cs:List PV}{F:Fr}{H H':Hp}{L:Ls}(ha:Abs H0 s F H L)(hF:s.F t = .own i b off)(hL:s.L i = .box b' T0 cs)(hbb:b'=b)(hn:Ds_ cs=true)(hl:HLe H H')(hH:∀ b o,L i=some (b,o)->H' b=some o):Abs H0 ⟨updp s.F t (.el cs off),lups s.L i .no⟩ F H' (lupd L i none):=by
 subst hbb;have h1:=ha.l i;rw[hL] at h1;have⟨vs,hLi,hs⟩:=h1;have h2:=hH _ _ hLi;have h3:=(ha.f t).sim;rw[hF] at h3;have hat:SlAt H' (.slice (some ⟨b',0,none⟩) 1 1) vs.length 0 vs:=⟨b',0,1,1,vs.toArray,T0,(0,0),rfl,h2,rfl,λj _=>by simp⟩;have hel:Sim H' (.el cs off) (F t):=by
   have :=Sim.el (row:=cs) (o:=off) hat hs.1.symm (λj p v hp hv=>((hs.sims.mono hl).2 j p v hp hv))
   rw[h3.inv_own]
   simpa [sBlk,sOff] using this
 have hb:=(ha.mono hl).turnB (B:= .no) i Z (x:=none) Z;refine⟨hb.le,hb.g,λq=>?_,hb.l⟩;by_cases e:q=t;subst e;simp only[Np_];exact hel.simT Y;simp only[Tp_ e];exact hb.f q
theorem fn_of_pr{G:Gb}{f:FuncId}{args:List PV}{res:PV}{vs:List Value}{v:Value}(hcb:A4_ P f)(hf:PV.flats args=true)(hn:res.noOsl=true)(ha:PV.wfs args->∀ H,Sims H args vs)(hr:PV.wfs args->∀ H,Sim H res v)(h:PV.wfs args->∀ H,G.p H->Pr P f vs.toArray H v):Fn P G f args res:=
 ⟨hcb,hn,λN H L w us hg hs hm=>by
   have e:=Sims.uniq hf hs (ha hs.wf H)
   subst e
   exact (h hs.wf H hg N L w hm).mono λ_ _ ⟨h1,h2⟩=>⟨v,H,h1,hr hs.wf H, .refl H,h2⟩⟩
end Go.SW
namespace Go.SW
variable{P:Program}{n:Nat}{N:Rest}{H0:Env}{s:St}{tb:Tb}{rs:List ResultVar}{res p q0:PV}{b b' T:Nat}{post q:List PV}{as0 bs:List Nat}
theorem ples{ps qs:List PV}(h:ps=qs):PLes ps qs:=h ▸ ples_rfl
variable{all rest:List Oper}{Q:Qs}{ks:List Kt}
theorem lups_self{L:Nat->Blk}{i:Nat}{B:Blk}(h:L i=B):lups L i B=L:=by
 funext t
 by_cases e:t=i;subst e;rw[D5_,h];rw[Hp_ e]
theorem Wa_{z:Int}(h:-9223372036854775808<=z/\z<=9223372036854775807:=by exact qX):IntKind.min .i64<=z/\z<=IntKind.max .i64:=h
theorem rg_u8{z:Int}(h:0<=z/\z<=255:=by exact qX):IntKind.min .u8<=z/\z<=IntKind.max .u8:=h
theorem Hy_{z:Int}(h:0<=z/\z<=18446744073709551615:=by exact qX):IntKind.min .u64<=z/\z<=IntKind.max .u64:=h
theorem wr_u8(z:Int):0<=IntKind.wrap .u8 z/\IntKind.wrap .u8 z<=255:=by
 exact sH
theorem wr_u32(z:Int):0<=IntKind.wrap .u32 z/\IntKind.wrap .u32 z<=4294967295:=by
 exact sH
theorem Fv_(z:Int):0<=IntKind.wrap .u64 z/\IntKind.wrap .u64 z<=18446744073709551615:=by
 exact sH
def letter(c:Int):Bool:=decide (97<=c) && decide (c<=122) || decide (48<=c) && decide (c<=57) || decide (c=45) || decide (c=95)
def plain(s:Bs):Bool:=s.all λc=>letter c.toNat
def C6_(s:Bs):Int:=if s=[] then 15 else if (16:Int)<s.length then 5 else if plain s then 0 else 4
theorem u8r(c:UInt8):0<=(c.toNat:Int)/\(c.toNat:Int)<=255:=by have :=c.toNat_lt;omega
theorem M2_{s:Bs}{k:Nat}(h:k<s.length):s.drop k=s.getD k 0::s.drop (k+1):=by
 rw[List.drop_eq_getElem_cons h];simp[AB,h]
structure Out where
 s:Bs
 err:Int
abbrev aE:Out:=⟨[],0⟩
def Out.cells(o:Out):List Value:=[str o.s, .int .i64 o.err]
structure In where
 s:Bs
 err:Int
def In.cells(i:In):List Value:=[str i.s, .int .i64 i.err]
def numB:Nat->Nat->Bs
 |0,_=>[]
 |k+1,n=>D6 (n/256 ^ k)::numB k n
def numK(bytes:Int):Nat:=(min (max bytes 0) 8).toNat
def D_(o:Out)(n bytes:Int):Out:=⟨o.s++numB (numK bytes) n.toNat,o.err⟩
def A5_(o:Out)(s:Bs):Out:=⟨o.s++s,o.err⟩
def O_(o:Out)(s:Bs):Out:=if (65535:Int)<s.length then (if o.err=0 then ⟨o.s,5⟩ else o) else A5_ (D_ o s.length 2) s
def beN(l:Bs):Nat:=l.foldl (λn c=>n*256+c.toNat) 0
def B1_(i:In)(code:Int):In:=if i.err=0/\code≠0 then ⟨[],code⟩ else i
def F6_(i:In)(n:Int):Bs×In:=
 if i.err≠0\/n<=0 then ([],i) else if (i.s.length:Int)<n then ([],⟨[],3⟩) else (i.s.take n.toNat,⟨i.s.drop n.toNat,i.err⟩)
def Ah_(i:In)(bytes:Int):Int×In:=(beN (F6_ i (min bytes 8)).1,(F6_ i (min bytes 8)).2)
def Ag_(i:In)(most:Int):Bs×In:=F6_ (if most<(Ah_ i 2).1 then B1_ (Ah_ i 2).2 5 else (Ah_ i 2).2) (Ah_ i 2).1
def inEnd(i:In):Int:=if i.err=0/\0<i.s.length then 4 else i.err
theorem beN_take{l:Bs}{k:Nat}{c:UInt8}(h:l[k]? = some c):beN (l.take (k+1))=beN (l.take k)*256+c.toNat:=by
 rw[takeE h];simp[beN,FL]
theorem beN_lt(l:Bs):beN l<256 ^ l.length:=by
 have key:∀ (l:Bs) (a:Nat),l.foldl (λn c=>n*256+c.toNat) a<(a+1)*256 ^ l.length:=by
   intro l
   induction l with
   |nil=>intro a;simp
   |cons c r ih=>
     intro a
     have :=ih (a*256+c.toNat)
     have hc:=c.toNat_lt
     rw[BU,A2,D2]
     refine FM this ?_
     rw[show (a+1)*(256 ^ r.length*256)=((a+1)*256)*256 ^ r.length by rw[CJ (256 ^ r.length),EL]]
     exact BP _ qX
 simpa [beN] using key l 0
theorem or_byte{n c:Nat}(hn:n<2 ^ 56)(hc:c<256):IntKind.wrap .u64 ((BitVec.ofInt 64 (IntKind.wrap .u64 ((n:Int)*256)) |||BitVec.ofInt 64 (c:Int)).toNat:Int)=((n*256+c:Nat):Int):=by
 have h1:A0 .u64 ((n:Int)*256)=((n*256:Nat):Int):=by
   exact sW
 rw[h1,EO,EO,BitVec.toNat_or,F3,F3,D0 qX,D0 qX];have h2:n*256 |||c=n*256+c:=by
   have :=Nat.shiftLeft_add_eq_or_of_lt (b:=c) (i:=8) qX n
   rw[Nat.shiftLeft_eq] at this
   exact this.symm
 rw[h2];exact sW
theorem Xs_(i:In)(n:Int):((F6_ i n).1.length:Int)<=max n 0:=by
 unfold F6_
 split
 simp;omega
 . split
   simp;omega
   simp;omega
theorem B9_(i:In)(b:Int):0<=(Ah_ i b).1/\(Ah_ i b).1<=18446744073709551615/\(b<=2->(Ah_ i b).1<=65535)/\(b<=1->(Ah_ i b).1<=255):=by
 have hl:=Xs_ i (min b 8);have hlt:=beN_lt (F6_ i (min b 8)).1;have key:∀ m,(F6_ i (min b 8)).1.length<=m->beN (F6_ i (min b 8)).1<256 ^ m:=λm hm=>FM hlt (CH qX hm);have h8:=key 8 qX;simp only[Ah_];refine⟨by omega,by omega,λh=>?_,λh=>?_⟩;have :=key 2 qX;omega;have :=key 1 qX;omega
theorem wrap8r{z:Int}:0<=IntKind.wrap .u8 z/\IntKind.wrap .u8 z<=255:=by
 exact sW
theorem byte_of{n:Int}{j:Nat}(hn:0<=n)(hj:1<=j)(hj8:j<=8):UInt8.ofNat (IntKind.wrap .u8 (n.fdiv (2 ^ (min (8*((j:Int)-1)).toNat IntKind.u64.bits)))).toNat=UInt8.ofNat (n.toNat/256 ^ (j-1)):=by
 obtain⟨m,rfl⟩:=Int.eq_ofNat_of_zero_le hn;obtain⟨q,rfl⟩:∃ q,j=q+1:=⟨j-1,by omega⟩;have e1:(8*(((q+1:Nat):Int)-1)).toNat=8*q:=by omega
 have eb:IntKind.u64.bits=64:=rfl;have e2:min (8*q) IntKind.u64.bits=8*q:=by rw[eb];omega
 have e3:((2:Int) ^ (8*q))=((256 ^ q:Nat):Int):=by
   rw[Int.pow_mul];simp
 rw[e1,e2,e3,A7,Nat.add_sub_cancel];have e4:((m:Int).fdiv ((256 ^ q:Nat):Int))=((m/256 ^ q:Nat):Int):=by
   rw[Int.fdiv_eq_ediv_of_nonneg _ (Int.natCast_nonneg _)];simp
 rw[e4];generalize m/256 ^ q=z
 apply UInt8.toNat_inj.1
 simp[A0,IntKind.bits,IntKind.signed,BR]
 try omega
theorem byte_app{e n:Nat}{v:Value}{en:Option (Nat×Obj)}{bs:Bs}{z:Int}(h:OwnV 1 e v en n (bs.map u8v++[.int .u8 z]))(hn:n=bs.length+1)(hz:0<=z/\z<=255):OwnV 1 e v en (bs++[UInt8.ofNat z.toNat]).length ((bs++[UInt8.ofNat z.toNat]).map u8v):=
 ownV_cast h (by simp[hn]) (by simp[u8v_of hz.1 hz.2])
theorem V_:∀ (k n:Nat),(numB k n).length=k
 |0,_=>rfl
 |k+1,n=>by simp[numB,V_ k n]
theorem num_step{l:Bs}{k:Nat}{c:UInt8}(hc:l[k]? = some c)(hk:k<8) :
   IntKind.u64.wrap ↑(BitVec.ofInt IntKind.u64.bits (IntKind.u64.wrap (↑(beN (l.take k))*2 ^ min (Int.toNat 8) IntKind.u64.bits)) |||BitVec.ofInt IntKind.u64.bits (c.toNat:Int)).toNat=((beN (l.take (k+1)):Nat):Int):=by
 have hlt:=beN_lt (l.take k);have hl:(l.take k).length<=k:=List.length_take_le _ _;have h2:256 ^ (l.take k).length<=256 ^ 7:=CH qX qX;rw[beN_take hc];have e:((2:Int) ^ min (Int.toNat 8) IntKind.u64.bits)=256:=by decide
 rw[e];exact or_byte (n:=beN (l.take k)) (c:=c.toNat) qX c.toNat_lt
def dots:Bs->List Bs
 |[]=>[[]]
 |c::r=>if c=46 then []::dots r else match dots r with
   |[]=>[[c]]
   |w::t=>(c::w)::t
def C0_(s:Bs):List Bs:=if s=[] then [] else dots s
theorem Zr_:∀ s:Bs,Lib.splitK [46] 0 (Lib.count s [46]) s=dots s
 |[]=>by rw[EP (by simp[BA])];rfl
 |b::l=>by
   have ih:=Zr_ l
   by_cases hb:b=46
   . subst hb
     rw[Lib.count_cons_eq,Nat.add_comm]
     have hix:BA (46::l) [46]=0:=by rw[BA];simp[E7]
     unfold G5 dots
     rw[hix]
     simp[ih]
   . rw[Lib.count_cons_ne _ _ _ hb]
     have hp:([46]:List UInt8).isPrefixOf (b::l)=false:=by simp[E7,Ne.symm hb]
     have hix:BA (b::l) [46] = if BA l [46] == -1 then -1 else BA l [46]+1:=by rw[BA,hp];simp
     unfold dots
     rw[if_neg hb,<- ih]
     cases hc:Lib.count l [46] with
     |zero=>rfl
     |succ k=>
       unfold G5
       rw[hix]
       by_cases hm:BA l [46] = -1
       . rw[EP hm] at hc;cases hc
       . have hge:=Lib.index_ge l [46]
         obtain⟨j,hj⟩:∃ j:Nat,BA l [46]=j:=⟨(BA l [46]).toNat,by omega⟩
         exact tP
theorem Zp_(s:Bs):(Lib.splitB ⟨#[46]⟩ 0 (Lib.countB ⟨s.toArray⟩ ⟨#[46]⟩) ⟨s.toArray⟩).map Value.string=(dots s).map str:=by
 have h:=Lib.splitB_data ⟨#[46]⟩ 0 (DN ⟨s.toArray⟩ ⟨#[46]⟩) ⟨s.toArray⟩;have hc:DN ⟨s.toArray⟩ ⟨#[46]⟩=Lib.count s [46]:=by simp[DN]
 rw[hc] at h ⊢;have e:=Zr_ s;exact sD
theorem splitB_len(s:Bs):Lib.countB ⟨s.toArray⟩ ⟨#[46]⟩+1=(dots s).length:=by
 have h:=congrArg E5 (Zp_ s);rw[CL,CL,Lib.splitB_all ⟨#[46]⟩ qZ 0 _ _ rfl] at h;exact h
theorem dots_le(s:Bs):(dots s).length<=s.length+1:=by
 rw[<- splitB_len];have :=Lib.countB_le ⟨#[46]⟩ qZ s.length ⟨s.toArray⟩ (by simp[Mc_]);simp[Mc_] at this;omega
theorem Vf_:∀ (s w:Bs),w∈dots s->w.length<=s.length
 |[],w,h=>by simp[dots] at h;simp[h]
 |c::r,w,h=>by
   unfold dots at h
   split at h
   . rcases List.mem_cons.1 h with rfl|h
     . simp
     . have :=Vf_ r w h;simp;omega
   . split at h
     . simp at h;subst h;simp
     . rename_i x t e
       have ih:=Vf_ r
       rw[e] at ih
       rcases List.mem_cons.1 h with rfl|h
       . have :=ih x pC;simp;omega
       . have :=ih w (by simp[h]);simp;omega
theorem U7_(s:Bs):(C0_ s).length<=s.length+1:=by
 unfold C0_;split;simp;exact dots_le s
def S5_(besides:List Bs)(w:Bs):Bool:=!(besides.contains w)&&(w==[]||!plain w)
def keyE(besides:List Bs)(s:Bs):Int:=if (64:Int)<s.length then 5 else if (C0_ s).any (S5_ besides) then 4 else 0
structure Pair where
 key:Bs
 kind:Int
 num:Int
 text:Bs
deriving DecidableEq
def Pair.cells(p:Pair):List Value:=[str p.key, .int .u8 p.kind, .int .i64 p.num,str p.text]
def Pair.wf(p:Pair):Prop:=(0<=p.kind/\p.kind<=255)/\(-9223372036854775808<=p.num/\p.num<=9223372036854775807)/\p.key.length<=9223372036854775807/\p.text.length<=9223372036854775807
def Pair.zero:Pair:=⟨[],0,0,[]⟩
def K7_(h:List Pair)(key:Bs):Option Pair:=h.find? λp=>p.key==key
theorem findP_hit{h r:List Pair}{p:Pair}{key:Bs}{k:Nat}(e:K7_ h key=K7_ (h.drop k) key)(hd:h.drop k=p::r)(hk:p.key=key):K7_ h key=some p:=by
 rw[e,hd];simp[K7_,hk]
theorem findP_miss{h r:List Pair}{p:Pair}{key:Bs}{k:Nat}(e:K7_ h key=K7_ (h.drop k) key)(hd:h.drop k=p::r)(hk:¬p.key=key):K7_ h key=K7_ r key:=by
 rw[e,hd];simp[K7_,hk]
def Du_(p:Pair)(ahead:List Pair):Int:=
 if C6_ p.key≠0 then C6_ p.key else if 2<p.kind then 8 else if p.kind=1/\(64:Int)<p.text.length then 5 else if p.kind=2/\p.num≠0/\p.num≠1 then 7 else if p.kind=1/\p.num≠0\/p.kind≠1/\p.text≠[] then 4 else if (K7_ ahead p.key).isSome then 9 else 0
def Iv_:List Pair->List Pair->Int
 |_,[]=>0
 |ahead,p::r=>if Du_ p ahead≠0 then Du_ p ahead else Iv_ (ahead++[p]) r
def Dz_(h:List Pair):Int:=if (8:Int)<h.length then 6 else Iv_ [] h
theorem Of_(s:Bs):0<=C6_ s/\C6_ s<=15:=by
 unfold C6_;exact tC
theorem Q1_(p:Pair)(l:List Pair):0<=Du_ p l/\Du_ p l<=15:=by
 have :=Of_ p.key;unfold Du_;exact tC
theorem Ad_(o:Out)(n k:Int):(D_ o n k).s.length<=o.s.length+8:=by
 simp only[D_,A4,V_,numK];omega
theorem Ew_(o:Out)(s:Bs):(A5_ o s).s.length=o.s.length+s.length:=by simp[A5_]
theorem Be_(o:Out)(s:Bs):(O_ o s).s.length<=o.s.length+s.length+8:=by
 unfold O_
 split
 . split<;>first|omega|(simp;done)|(simp;omega)
 rw[Ew_];have :=Ad_ o s.length 2;omega
def Is_(o:Out)(p:Pair):Out:=
 if p.kind=0 then D_ (D_ (O_ o p.key) p.kind 1) (A0 .u64 p.num) 8
 else if p.kind=1 then O_ (D_ (O_ o p.key) p.kind 1) p.text
 else if p.kind=2 then D_ (D_ (O_ o p.key) p.kind 1) (A0 .u64 p.num) 1
 else D_ (O_ o p.key) p.kind 1
def Xo_(h:List Pair):Out:=h.foldl Is_ (D_ ⟨[],0⟩ h.length 1)
def Bv_(h:List Pair):Bs:=if Dz_ h=0 then (Xo_ h).s else []
theorem Jg_{s:Bs}(h:C6_ s=0):s.length<=16:=by
 unfold C6_ at h
 split at h
 . cases h
 . split at h
   . cases h
   omega
theorem pairErr_ok{p:Pair}{ahead:List Pair}(h:Du_ p ahead=0):p.key.length<=16/\p.kind<=2/\(p.kind=1->p.text.length<=64):=by
 unfold Du_ at h
 split at h
 . contradiction
 . rename_i hn
   have hk:=Jg_ (Decidable.not_not.1 hn)
   split at h
   . cases h
   . split at h
     . cases h
     exact⟨hk,by omega,λe=>by omega⟩
theorem Xn_:∀ {r ahead:List Pair},Iv_ ahead r=0->∀ p∈r,p.key.length<=16/\p.kind<=2/\(p.kind=1->p.text.length<=64)
 |[],_,_,p,hp=>by cases hp
 |q::r,ahead,h,p,hp=>by
   simp only[Iv_] at h
   split at h
   . contradiction
   . rename_i hn
     rcases List.mem_cons.1 hp with rfl|hp
     . exact pairErr_ok (Decidable.not_not.1 hn)
     . exact Xn_ h p hp
theorem Mm_{h:List Pair}(e:Dz_ h=0):h.length<=8/\∀ p∈h,p.key.length<=16/\p.kind<=2/\(p.kind=1->p.text.length<=64):=by
 unfold Dz_ at e
 split at e
 . cases e
 exact⟨by omega,Xn_ e⟩
theorem Na_{o:Out}{p:Pair}(h:p.key.length<=16/\p.kind<=2/\(p.kind=1->p.text.length<=64)):(Is_ o p).s.length<=o.s.length+110:=by
 have h1:=Be_ o p.key;have h2:=Ad_ (O_ o p.key) p.kind 1;unfold Is_
 split
 have :=Ad_ (D_ (O_ o p.key) p.kind 1) (A0 .u64 p.num) 8;omega
 . split
   have :=Be_ (D_ (O_ o p.key) p.kind 1) p.text;omega
   . split
     have :=Ad_ (D_ (O_ o p.key) p.kind 1) (A0 .u64 p.num) 1;omega
     omega
theorem headOut_len{h:List Pair}(e:Dz_ h=0):(Xo_ h).s.length<=1000:=by
 have⟨h1,h2⟩:=Mm_ e;have key:∀ (l:List Pair) (o:Out),(∀ p∈l,p.key.length<=16/\p.kind<=2/\(p.kind=1->p.text.length<=64))->(l.foldl Is_ o).s.length<=o.s.length+110*l.length:=by
   intro l
   induction l with
   |nil=>intro o _;simp
   |cons p r ih=>
     intro o hp
     have a:=ih (Is_ o p) (λq hq=>hp q oA)
     have b:=Na_ (o:=o) (hp p pC)
     simp only[BU,A2];omega
 have a:=key h (D_ ⟨[],0⟩ h.length 1) h2;have b:=Ad_ ⟨[],0⟩ h.length 1;simp only[Xo_];simp at b;omega
structure Mail where
 id:Int
 Al_:Bs
 key:Bs
 head:List Pair
 body:Bs
 due:Int
 hops:Int
deriving DecidableEq
abbrev bB:Mail:=⟨0,[97],[],[],[],0,0⟩
abbrev aK:Mail:=⟨0,[],[],[],[],0,0⟩
def Mail.cells(m:Mail)(a:Option Addr)(c:Nat):List Value:=[.int .u64 m.id,str m.Al_,str m.key, .slice a m.head.length c,str m.body, .int .u64 m.due, .int .u8 m.hops]
def Mail.wf(m:Mail):Prop:=(0<=m.id/\m.id<=18446744073709551615)/\(0<=m.due/\m.due<=18446744073709551615)/\(0<=m.hops/\m.hops<=255)/\m.Al_.length<=9223372036854775807/\m.key.length<=9223372036854775807/\m.body.length<=9223372036854775807/\m.head.length<=9223372036854775807
structure Reply where
 channel:Int
 kind:Int
 n:Int
 m:Int
 yes:Bool
 name:Bs
 P_:Mail
deriving DecidableEq
def Reply.cells(r:Reply)(a:Option Addr)(c:Nat):List Value:=[.int .u8 r.channel, .int .u8 r.kind, .int .u64 r.n, .int .u64 r.m, .bool r.yes,str r.name, .int .u64 r.P_.id,str r.P_.Al_,str r.P_.key, .slice a r.P_.head.length c,str r.P_.body, .int .u64 r.P_.due, .int .u8 r.P_.hops]
def Reply.wf(r:Reply):Prop:=(0<=r.channel/\r.channel<=255)/\(0<=r.kind/\r.kind<=255)/\(0<=r.n/\r.n<=18446744073709551615)/\(0<=r.m/\r.m<=18446744073709551615)/\r.name.length<=9223372036854775807/\r.P_.wf
structure Frame where
 channel:Int
 kind:Int
 body:Bs
deriving DecidableEq
def Frame.cells(f:Frame):List Value:=[.int .u8 f.channel, .int .u8 f.kind,str f.body]
def Frame.wf(f:Frame):Prop:=(0<=f.channel/\f.channel<=255)/\(0<=f.kind/\f.kind<=255)/\f.body.length<=9223372036854775807
def Frame.zero:Frame:=⟨0,0,[]⟩
theorem Gm_(h:List Pair):(Bv_ h).length<=1000:=by
 unfold Bv_
 split
 exact headOut_len pA;simp
theorem keyE_ok{b:List Bs}{s:Bs}(h:keyE b s=0):s.length<=64:=by
 unfold keyE at h
 split at h
 . cases h
 omega
variable{P:Program}{n:Nat}{N:Rest}{H0:Env}{s:St}{T ty:TypeId}{y:Operand}
end Go.SW
namespace Go.SW
variable{P:Program}{n:Nat}{N:Rest}{H0:Env}{all rest:List Oper}{Q:Qs}{ks:List Kt}{s:St}{T T' T2 ty d:Nat}{pos:String}{af:Array Edge}{x y z:Operand}{K:St->Prop}{op:Op}{p:PV}
structure Fo{α:Type}(P:Program)(G:Gb)(f:FuncId)(args:List PV)(res:Value->PV)(k e:Nat)(enc:α->List PV)(xs:List α):Prop where
 cb:A4_ P f
 no:∀ u,(res u).noOsl=true
 run:∀ (N:Rest) (H:Hp) (L:Ls) (w:World) (i:Nat) (vs:List Value),G.p H->Sims H args vs->Mem N H L w ->
   Calls P f vs.toArray w λe' w'=>∃ v H' en u,e' = .returned v/\Sim H' (res u) v/\SimB (λ_=> .no) H' (.arr u k e enc xs) en/\HLe H H'/\Mem N H' (lupd L i en) w'
def foK{α:Type}(tb:Tb)(rs:List ResultVar)(res:Value->PV)(k e:Nat)(enc:α->List PV)(xs:List α):Qs:=λe' s=>∃ u j,rtK tb rs (res u) e' s/\s.L j = .arr u k e enc xs
theorem fo_cw{α:Type}{tb:Tb}{G:Gb}{m:Nat}{f:FuncId}{fn:Func}{c:Code}{args:List PV}{res:Value->PV}{k e:Nat}{enc:α->List PV}{xs:List α}(ht:tbB P tb=true)(hf:P.funcs[f]? = some fn)(hb:fn.body=some c)(hn:fn.ntmps=m)(hs:Nat.ble args.length m=true)(hcb:A4_ P f)(hno:∀ u,(res u).noOsl=true)(hna:Ds_ args=true)
   (h:PV.wfs args->∀ N H,G.p H->Hd P m N ⟨H,G⟩ (foK tb fn.results.toList res k e enc xs) (.code c) [] ⟨Qf_ args,λ_=> .no⟩):Fo P G f args res k e enc xs:=by
 refine⟨hcb,hno,λN H L w i vs hg hsim hm=>?_⟩;subst hn;have key:Po P f vs.toArray H (λv H' en=>∃ u,Sim H' (res u) v/\SimB (λ_=> .no) H' (.arr u k e enc xs) en):=by
   refine po_of_cw hf hb nF λN=>?_
   have h1:=h hsim.wf N H hg (L0_ vs.toArray) H l0 ⟨.refl H,hg,λt=>Ns_ hsim hna t,λi=>trivial⟩
   refine Lb_ (λe' F' H' L' hq=>?_) h1
   have⟨s',ha',u,j,hq',hq1⟩:=hq
   have⟨he,v,hr,hv⟩:=Rd_ (N:=N) ht ha' hq'
   have h3:=ha'.l j
   rw[hq1] at h3
   rcases he with rfl|rfl
   . exact⟨v,hr,ha'.le,j,u,hv,h3⟩
   . exact⟨v,hr,ha'.le,j,u,hv,h3⟩
 exact (key N L w i hm).mono λ_ _ ⟨v,H',en,h1,⟨u,h5,h6⟩,h3,h4⟩=>⟨v,H',en,u,h1,h5,h6,h3,h4⟩
theorem val_osl{α:Type}{t i k e:Nat}{u:Value}{enc:α->List PV}{xs:List α}{F:Fr}{H:Hp}{L:Ls}(ha:Abs H0 s F H L)(hF:s.F t = .val u)(hL:s.L i = .arr u k e enc xs):Abs H0 ⟨updp s.F t (.osl i),s.L⟩ F H L:=by
 refine⟨ha.le,ha.g,λq=>?_,ha.l⟩;by_cases e:q=t;subst e;have h1:=(ha.f q).sim;rw[hF] at h1;simp only[Np_,SimT,hL];exact h1.inv_val;exact sR
theorem osl_val{α:Type}{t i k e:Nat}{u:Value}{enc:α->List PV}{xs:List α}{F:Fr}{H:Hp}{L:Ls}(ha:Abs H0 s F H L)(hF:s.F t = .osl i)(hL:s.L i = .arr u k e enc xs):Abs H0 ⟨updp s.F t (.val u),s.L⟩ F H L:=by
 refine⟨ha.le,ha.g,λq=>?_,ha.l⟩;by_cases e:q=t;subst e;have h1:=ha.f q;rw[hF] at h1;simp only[SimT,hL] at h1;simp only[Np_];rw[h1];exact Sim.val;exact sR
end Go.SW
namespace Go.SW
variable{P:Program}{n:Nat}{N:Rest}{H0:Env}{s:St}{ty:TypeId}
theorem evs_ints{F:Fr}{H:Hp}{L:Ls}(hab:Abs H0 s F H L){k:IntKind}:∀ (xs:List Operand) (zs:List Int),evPs s.F xs=zs.map (PV.int k)->evs F xs=zs.map (Value.int k)
 |[],[],_=>rfl
 |x::xs,z::zs,h=>by
   simp only[evPs,AG,List.cons.injEq] at h
   simp only[evs,AG,List.cons.injEq]
   exact⟨(hab.ev h.1).sim.inv_int.1,evs_ints hab xs zs h.2⟩
 |[],_::_,h=>by simp[evPs] at h
 |_::_,[],h=>by simp[evPs] at h
variable{all:List Oper}{K:St->Prop}
theorem op1_gd3{F:Fr}{H:Hp}{L:Ls}{op:Op}{ty j d:Nat}{pos:String}{af:Array Edge}{K:Fr->Hp->Ls->Prop}{want c b:Bool}(hy:yF all F j=some (gv c (.bool b)))(hd:Nat.blt d n=true)
   (ht:(c&&gOf b want)=true->Op1 P n N all ⟨some d,op,ty,pos,af,none⟩ K F H L) (hf:(c&&gOf b want)=false->K (upd F d undef) H L):Op1 P n N all ⟨some d,op,ty,pos,af,some (j,want)⟩ K F H L:=by
 cases c with
 |false=>
   refine λa w ha hm=>?_
   have :yielded all.toArray a.tmps j=none:=Rk_ ha hy
   rw[if_neg nQ]
   exact⟨_,_,_,ha.put pI undef,hm,hf Y⟩
 |true=>
   by_cases e:b=want
   . subst e
     exact op1_gd hy Y (ht (by cases b<;>rfl))
   . refine op1_gs hy (b:=b) ?_ hd (hf ?_)
     . exact zB
     . cases b<;>cases want<;>simp_all [gOf]
variable{rest:List Oper}{Q:Qs}{ks:List Kt}
end Go.SW
namespace Go.SW
section
variable{α:Type}{P:Program}{n:Nat}{N:Rest}{F:Fr}{H:Hp}{L:Ls}{ops:List Oper}{T T' T2 ty d:TypeId}{x y z:Operand}{pos:String}{af:Array Edge}{K:Fr->Hp->Ls->Prop}
set_option maxHeartbeats 2000000 in
theorem op1_appz2{k bytes m:Nat}{e:TypeId}{zs:List Value}{k1 k2:IntKind}{q:Int}(i:Nat)(hx:ev F x = .slice none 0 0)(hy:ev F y = .int k1 q)(hT:P.underlying T=some (.slice e))(hT2:P.underlying T2=some (.int k2))(hk:Sz P e k)(hb:By P e bytes)(h0:0<bytes)(hz:Zr P e zs)(hzl:zs.length=k)(hone:∀ u∈zs,u.oneCell'=true)
   (hq:q=(m:Int)) (hm0:0<m) (hbd:m*bytes<=140737488355328) (hd:Nat.blt d n=true)
   (kk:∀ v' en' cs,OwnV k e v' en' m cs->(∀ u∈cs,u.oneCell'=true)->K (upd F d v') H (lupd L i en')):Op1 P n N ops ⟨some d, .call ⟨.builtin .append,#[x,y],#[T,T2]⟩,ty,pos,af,none⟩ K F H L:=by
 intro a w ha hm;rw[if_pos pH];unfold BG;subst hq;have⟨inf,hinf,hbb⟩:=hb w;have hsz:m<=m*bytes:=BQ _ h0;have hw:A0 .i64 (m:Int)=(m:Int):=by
   exact sI
 have hfit:=growslice_fits (need:=0+m) (old:=0) (bytes:=bytes) qX (by simpa using hbd);have hfit':¬(281474976710656<Builtin.nextslicecap m 0*inf.bytes):=by rw[hbb];simp only[B9] at hfit;omega
 have hl:¬(281474976710656<(m:Int)*(inf.bytes:Int)):=by
   rw[hbb]
   have e1:((m:Int)*(bytes:Int))=((m*bytes:Nat):Int):=by simp
   rw[e1];omega
 have h63:¬(9223372036854775807<(m:Int)):=by omega
 have h1:¬((m:Int)<0):=by omega
 have hm00:¬m=0:=by omega
 have hmk:¬m<=0:=by omega
 obtain⟨nc,hnc⟩:∃ nc,nc=(BB m 0 e).cut (w.tape w.drawn (BB m 0 e)):=⟨_,rfl⟩;have hnge:m<=nc:=by rw[hnc];simp only[Question.cut];omega
 have⟨z,hz1,hz2⟩:=hz w.drew;have⟨inf',hinf',_⟩:=hb w.drew;have hqf:(BB m 0 e).forced=false:=rfl;have hnil:(AF k 0 (.slice none 0 0)).run P w.drew = .ok #[] w.drew:=by simp[AF]
 have hzc:∀ q,(AH zs.toArray q).size=q*k:=λq=>by simp[AH,hzl]
 let news:List Value:=if m*k=0 then [] else (AH zs.toArray m).toList
 have hnl:news.length=m*k:=by
   grind
 have hnews:∀ u∈news,u.oneCell'=true:=by
   intro u hu
   by_cases h:m*k=0
   . simp only[news,h,if_true] at hu;cases hu
   . simp only[news,h,if_false,AH,Array.toList_map,Array.toList_range,List.mem_map,G6] at hu
     obtain⟨q,hq1,rfl⟩:=hu
     have hk0:0<k:=by
       rcases Nat.eq_zero_or_pos k with e|e
       . subst e;simp at h
       . exact e
     have hlt:q%zs.toArray.size<zs.toArray.size:=Nat.mod_lt _ (by simp[hzl];exact hk0)
     grind
 have hr:(Builtin.append_ #[T,T2] ty #[.slice none 0 0, .int k1 (m:Int)]).run P w = .ok (.slice (some ⟨w.heap.size,0,none⟩) m nc) {w.drew with heap:=w.drew.heap.push (bx e (news++(AH zs.toArray (nc-m)).toList))}:=by
   by_cases h:m*k=0
   . exact sV
   . exact sV
 have :(execOp a.eval ⟨some d, .call ⟨.builtin .append,#[x,y],#[T,T2]⟩,ty,pos,af,none⟩).run P w = .ok (.value (.slice (some ⟨w.heap.size,0,none⟩) m nc)) {w.drew with heap:=w.drew.heap.push (bx e (news++(AH zs.toArray (nc-m)).toList))}:=by
   rw[ha.eval]
   refine F4_ (args:=#[.slice none 0 0, .int k1 (m:Int)]) oR λcs=>?_
   simp[builtin,hr]
 rw[this];refine⟨_,H,_,ha.put pI _,(hm.drew (w.drawn+1)).push i _,kk _ _ news ⟨hnl, .inr ⟨_,_,news++(AH zs.toArray (nc-m)).toList,[],rfl,rfl,Nat.le_of_eq ?_,hnge,?_,λ_=>rfl⟩⟩ hnews⟩
 . simp only[A4,DA,hzc,hnl]
   rw[<- AV];congr 1;omega
 rw[<- hnl];exact List.take_left
end
variable{P:Program}{n:Nat}{N:Rest}{H0:Env}{all rest:List Oper}{Q:Qs}{ks:List Kt}{s:St}{T T' T2 ty d:Nat}{pos:String}{af:Array Edge}{x y z:Operand}{K:St->Prop}{op:Op}{p:PV}
def jrow(k:Nat):Unit->List PV:=λ_=>AJ k .junk
theorem sims_junk{H:Hp}:∀ (vs:List Value),Sims H (List.replicate vs.length .junk) vs
 |[]=>Sims.nil
 |v::r=>by
   have :=(sims_junk (H:=H) r).cons (v:=v) Sim.junk
   simpa [List.replicate_succ] using this
theorem rl_junk{H:Hp}{k:Nat}:∀ (m:Nat) (cs:List Value),cs.length=m*k->(∀ u∈cs,u.oneCell'=true)->Rl (RowE (jrow k) k) H (List.replicate m ()) cs
 |0,cs,h,_=>by simp at h;exact h
 |m+1,cs,h,ho=>by
   rw[AV,EA] at h
   refine⟨cs.take k,cs.drop k,(AL k cs).symm,⟨by simp[jrow],?_,λu hu=>ho u (List.mem_of_mem_take hu)⟩,rl_junk m _ pL λu hu=>ho u (List.mem_of_mem_drop hu)⟩
   have :=sims_junk (H:=H) (cs.take k)
   simpa [jrow,show min k cs.length=k by omega] using this
structure Fl{α:Type}(P:Program)(G:Gb)(f:FuncId)(args:List PV)(res:Value->PV)(k e:Nat)(enc:α->List PV)(xs ys:List α):Prop where
 cb:A4_ P f
 no:∀ u,(res u).noOsl=true
 run:∀ (N:Rest) (H:Hp) (L:Ls) (w:World) (i:Nat) (u:Value) (vs:List Value),G.p H->SimB (λ_=> .no) H (.arr u k e enc xs) (L i)->Sims H args vs->Mem N H L w ->
   Calls P f (u::vs).toArray w λe' w'=>∃ v H' en u',e' = .returned v/\Sim H' (res u') v/\SimB (λ_=> .no) H' (.arr u' k e enc ys) en/\HLe H H'/\Mem N H' (lupd L i en) w'
def Pl(P:Program)(f:FuncId)(args:Array Value)(H:Hp)(en:Option (Nat×Obj))(R:Value->Hp->Option (Nat×Obj)->Prop):Prop:=
 ∀ N L w i,L i=en->Mem N H L w->Calls P f args w λe w'=>∃ v H' en',e = .returned v/\R v H' en'/\HLe H H'/\Mem N H' (lupd L i en') w'
def ofE:Option (Nat×Obj)->Ls
 |none=>l0
 |some x=>ofL [x]
theorem pl_of_cw{f:FuncId}{fn:Func}{c:Code}{args:Array Value}{H:Hp}{en:Option (Nat×Obj)}{R:Value->Hp->Option (Nat×Obj)->Prop}(hf:P.funcs[f]? = some fn)(hb:fn.body=some c)(hs:args.size<=fn.ntmps)
   (h:∀ N,Cw P fn.ntmps N c (fnK P N fn H (λv' H' L'=>∃ k,R v' H' (L' k))) (L0_ args) H (ofE en)):Pl P f args H en R:=λN L w i hi hm=>by
 have hm0:Mem (N.plus (lupd L i none)) H (ofE en) w:=by
   cases en with
   |none=>exact (hm.clear i).aside
   |some x=>have⟨b,o⟩:=x;exact hm.asideBut hi
 refine I1_ hf hb hs (h (N.plus (lupd L i none))) hm0 λv' H' L' w' ⟨k,hr⟩ hl hm'=>?_
 cases e:L' k with
 |none=>rw[e] at hr;exact⟨v',H',none,rfl,hr,hl,(hm.clear i).back hm'⟩
 |some p=>
   have⟨b,o⟩:=p
   rw[e] at hr
   exact⟨v',H',some (b,o),rfl,hr,hl,hm.backWith hm' e⟩
theorem fl_cw{α:Type}{tb:Tb}{G:Gb}{m:Nat}{f:FuncId}{fn:Func}{c:Code}{args:List PV}{res:Value->PV}{k e:Nat}{enc:α->List PV}{xs ys:List α}(ht:tbB P tb=true)(hf:P.funcs[f]? = some fn)(hb:fn.body=some c)(hn:fn.ntmps=m)(hs:Nat.ble (args.length+1) m=true)(hcb:A4_ P f)(hno:∀ u,(res u).noOsl=true)(hna:Ds_ args=true)
   (h:PV.wfs args->xs.length<=140737488355328->∀ u N H,G.p H->Hd P m N ⟨H,G⟩ (foK tb fn.results.toList res k e enc ys) (.code c) [] ⟨Qf_ (.osl 0::args),lups (λ_=> .no) 0 (.arr u k e enc xs)⟩):Fl P G f args res k e enc xs ys:=by
 refine⟨hcb,hno,λN H L w i u vs hg hB hsim hm=>?_⟩;subst hn;have key:Pl P f (u::vs).toArray H (L i) (λv H' en=>∃ u',Sim H' (res u') v/\SimB (λ_=> .no) H' (.arr u' k e enc ys) en):=by
   refine pl_of_cw hf hb nO λN=>?_
   have hlen:xs.length<=140737488355328:=by have⟨_,_,_,q⟩:=hB;exact q
   have h1:=h hsim.wf hlen u N H hg (L0_ (u::vs).toArray) H (ofE (L i)) ⟨.refl H,hg,λt=>?_,λj=>?_⟩
   . refine Lb_ (λe' F' H' L' hq=>?_) h1
     have⟨s',ha',u',j,hq',hq1⟩:=hq
     have⟨he,v,hr,hv⟩:=Rd_ (N:=N) ht ha' hq'
     have h3:=ha'.l j
     rw[hq1] at h3
     rcases he with rfl|rfl
     . exact⟨v,hr,ha'.le,j,u',hv,h3⟩
     . exact⟨v,hr,ha'.le,j,u',hv,h3⟩
   . cases t with
     |zero=>simp[Qf_,nth,SimT,D5_,L0_]
     |succ t=>
       have :=Ns_ (sL:=lups (λ_=> .no) 0 (.arr u k e enc xs)) hsim hna t
       simpa [Qf_,nth,L0_] using this
   . by_cases e1:j=0
     . exact rB
     . simp only[Hp_ e1];trivial
 exact (key N L w i Y hm).mono λ_ _ ⟨v,H',en,h1,⟨u',h5,h6⟩,h3,h4⟩=>⟨v,H',en,u',h1,h5,h6,h3,h4⟩
end Go.SW
namespace Go.SW.V
open Go.SW
variable{P:Program}{n:Nat}{N:Rest}{H0:Env}{all rest:List Oper}{Q:Qs}{ks:List Kt}{fF:Nat->PV}{fL:Nat->Blk}{T T' T2 ty d:Nat}{pos:String}{af:Array Edge}{x y z:Operand}{K:St->Prop}{op:Op}{p:PV}
theorem rt{tb:Tb}{rs:List ResultVar}{res:PV}{ps:List PV}{as0 bs:List Nat}(h:Lr_ tb ⟨fF,fL⟩ rs=some (ps,as0,bs))(he:as0=bs)(hp:PLe (tupP ps) res):Hd P n N H0 (rtK tb rs res) (.ex .ret) [] ⟨fF,fL⟩:=⟨.inr Y,ps,as0,bs,h,he,hp⟩
theorem call{all rest:List Oper}{Q:Qs}{ks:List Kt}{f:FuncId}{args:List PV}{res:PV}{x:Operand}{xs:Array Operand}{ats:Array TypeId}{ty d:Nat}{pos:String}{af:Array Edge}(h:Fn P H0.g f args res)(ha:argsP fF x xs.toList=some (f,args))(hd:Nat.blt d n=true)(k:res.wf->Hd P n N H0 Q (.ops all rest) ks ⟨updp fF d res,fL⟩):Hd P n N H0 Q (.ops all (⟨some d, .call ⟨.value x,xs,ats⟩,ty,pos,af,none⟩::rest)) ks ⟨fF,fL⟩:=by
 intro F H L hab;have⟨vs,h1,h2⟩:=Jk_ (ats:=ats) hab.f ha h.cb;exact ow1 (op1_ph (h.ph hab.g h1) h2 hd λv H' hv hl=>k hv.wf _ _ _ ((hab.mono hl).put d (hv.simT h.no)))
theorem Ha_{all rest:List Oper}{Q:Qs}{ks:List Kt}{f:FuncId}{args:List PV}{res:PV}{x:Operand}{xs:Array Operand}{ats:Array TypeId}{ty d j:Nat}{want g:Bool}{pos:String}{af:Array Edge}(hg:gOp ⟨fF,fL⟩ all j want=some g)(h:g=true->Fn P H0.g f args res)(ha:argsP (strG (P5_ xs.toList) fF) x xs.toList=some (f,args))(hno:Qa_ fF (P5_ xs.toList)=true)(hd:Nat.blt d n=true)(k:(g=true->res.wf)->Hd P n N H0 Q (.ops all rest) ks ⟨updp fF d (.gv g res),fL⟩)(hc:AllP (Vc_ fF g (P5_ xs.toList) []):=by exact aG):Hd P n N H0 Q (.ops all (⟨some d, .call ⟨.value x,xs,ats⟩,ty,pos,af,some (j,want)⟩::rest)) ks ⟨fF,fL⟩:=by
 intro F H L hab;have⟨c,b,hy,hge⟩:=T1_ hab hg;exact ow_gd hy hd (λe=>xB) λe=>xA
theorem cnd{Q:Qs}{ks:List Kt}{c:Operand}{x y:Code}{b:Bool}(hc:evP fF c = .bool b)(ht:b=true->Hd P n N H0 Q (.code x) ks ⟨fF,fL⟩)(hf:b=false->Hd P n N H0 Q (.code y) ks ⟨fF,fL⟩):Hd P n N H0 Q (.code (.cond c x y)) ks ⟨fF,fL⟩:=sw_cond hc ht hf
theorem cn{Q:Qs}{ks:List Kt}{c:Operand}{x y:Code}{p:Prop}[Decidable p](hc:evP fF c=.bool (decide p))(ht:p->Hd P n N H0 Q (.code x) ks ⟨fF,fL⟩)(hf:¬p->Hd P n N H0 Q (.code y) ks ⟨fF,fL⟩):Hd P n N H0 Q (.code (.cond c x y)) ks ⟨fF,fL⟩:=cnd hc (λh=>ht (of_decide_eq_true h)) λh=>hf (of_decide_eq_false h)
theorem loop{ι:Type _}{c:Code}{ks:List Kt}{Q:Qs}(keep kL:List Nat)(lv:ι->List (Nat×PV))(lL:ι->List (Nat×Blk))(Φ:ι->Prop)(μ:ι->Nat)(x0:ι)(h1:AllF fF (lv x0))(h2:AllL fL (lL x0))(hΦ:Φ x0)(body:∀ x,Φ x->Hd P n N H0 Q (.code c) (.lp (LJ (λx=>⟨mkF (lv x) keep fF,mkL (lL x) kL fL⟩) Φ μ (μ x))::ks) ⟨mkF (lv x) keep fF,mkL (lL x) kL fL⟩):Hd P n N H0 Q (.code (.loop c)) ks ⟨fF,fL⟩:=
 sw_loop (λx=>⟨mkF (lv x) keep fF,mkL (lL x) kL fL⟩) Φ μ x0 (mk_le Y Y h1 h2) hΦ body
theorem ef{o:Oper}{j:Option Nat}(h:E1 P n N H0 all o j ⟨fF,fL⟩ (λs'=>Hd P n N H0 Q (.ops all rest) ks s')):Hd P n N H0 Q (.ops all (o::rest)) ks ⟨fF,fL⟩:=λF H L ha=>
 ow1 ((h F H L ha).imp λF' H' L' ⟨_,_,s',h1,h2⟩=>h2 F' H' L' h1)
theorem boxA(i:Nat){cs:List PV}(hx:evP fF x = .agg cs)(hn:Ds_ cs=true)(hd:Nat.blt d n=true)(k:∀ b,K ⟨updp fF d (.own i b 0),lups fL i (.box b T cs)⟩):E1 P n N H0 all ⟨some d, .box T x,ty,pos,af,none⟩ (some i) ⟨fF,fL⟩ K:=by
 intro F H L ha;have h1:=(Dn_ ha.f x).sim;rw[hx] at h1;have⟨vs,e,h2⟩:=h1.inv_agg;exact op1_box i hd e λb=>⟨.refl H,only,_,(ha.turnB (B:= .box b T cs) i Z ⟨vs,rfl,Hz_ h2 hn⟩).put (p:= .own i b 0) d Sim.own,k b⟩
theorem box1(i:Nat){p:PV}(hx:evS (evP fF x)=some p)(ho:p.one=true)(hd:Nat.blt d n=true)(k:∀ b,K ⟨updp fF d (.own i b 0),lups fL i (.box b T [p])⟩):E1 P n N H0 all ⟨some d, .box T x,ty,pos,af,none⟩ (some i) ⟨fF,fL⟩ K:=by
 intro F H L ha;have hx:=evS_eq hx;have h1:=(Dn_ ha.f x).sim;rw[hx] at h1;have hno:p.noOsl=true:=by cases p<;>first|rfl|(simp[PV.one] at ho)
 exact op1_box1 i hd Y (one_cells (h1.one ho)) λb=>⟨.refl H,only,_,(ha.turnB (B:= .box b T [p]) i Z ⟨[ev F x],rfl,Hz_ (Sims.nil.cons h1) (by simp[Ds_,hno])⟩).put (p:= .own i b 0) d Sim.own,k b⟩
theorem alloc{tb:Tb}{ti:TI}{zs:List PV}(ht:tbB P tb=true)(i:Nat)(hti:lkT tb T=some ti)(hz:evL ti.zero=some zs)(hn:Ds_ zs=true)(hd:Nat.blt d n=true)(k:∀ b,K ⟨updp fF d (.own i b 0),lups fL i (.box b T zs)⟩):E1 P n N H0 all ⟨some d, .alloc T,ty,pos,af,none⟩ (some i) ⟨fF,fL⟩ K:=by
 intro F H L ha;have hz:=evL_eq hz;subst hz;have⟨zv,hz,hs⟩:=(Eq_ ht hti).zero;exact Yv_ i hd (cs:=zv.cells.toList) (λw=>⟨zv,hz w,by simp⟩) λb=>⟨.refl H,only,_,(ha.turnB (B:= .box b T ti.zero) i trivial ⟨_,rfl,Hz_ (hs H) hn⟩).put (p:= .own i b 0) d Sim.own,k b⟩
theorem store1{tb:Tb}{ti:TI}{i b b' off T0:Nat}{cs cs':List PV}{p:PV}(ht:tbB P tb=true)(hx:evP fF x = .own i b off)(hb:fL i = .box b' T0 cs)(hti:lkT tb T=some ti)(hsz:ti.size=1)(hy:evS (evP fF y)=some p)(ho:p.one=true)(hl:Nat.blt off cs.length=true)(hbb:b'=b)(hc:evL (cs.set off p)=some cs')(k:K ⟨fF,lups fL i (.box b T0 cs')⟩):E1 P n N H0 all ⟨none, .store T x y,ty,pos,af,none⟩ (some i) ⟨fF,fL⟩ K:=by
 intro F H L ha;subst hbb;have hc:=evL_eq hc;subst hc;have hy:=evS_eq hy;have h1:=(Dn_ ha.f x).sim;rw[hx] at h1;have h2:=Dn_ ha.f y;unfold Ok1 at h2;rw[hy] at h2;have h3:=ha.l i;dsimp only at h3;rw[hb] at h3;have⟨vs,hL,hs⟩:=h3;have hsz':=(Eq_ ht hti).sz;rw[hsz] at hsz';refine Mz_ h1.inv_own Y (h2.sim.one ho) hsz' hL oX<|⟨.refl H,only,_,ha.turnB (B:= .box _ T0 (cs.set off p)) i Z ⟨_,rfl,?_⟩,k⟩;have h4:=hs.set off h2;exact yG
theorem storeA{tb:Tb}{ti:TI}{i b b' off T0:Nat}{cs ps cs':List PV}(ht:tbB P tb=true)(hx:evP fF x = .own i b off)(hb:fL i = .box b' T0 cs)(hti:lkT tb T=some ti)(hy:evP fF y = .agg ps)(hn:Ds_ ps=true)(ho:all1 ps=true)(hsz:ps.length=ti.size)(hl:Nat.ble (off+ti.size) cs.length=true)(hbb:b'=b)(hc:evL (cs.take off++(ps++cs.drop (off+ti.size)))=some cs')(k:K ⟨fF,lups fL i (.box b T0 cs')⟩):E1 P n N H0 all ⟨none, .store T x y,ty,pos,af,none⟩ (some i) ⟨fF,fL⟩ K:=by
 intro F H L ha;subst hbb;have hc:=evL_eq hc;subst hc;have h1:=(Dn_ ha.f x).sim;rw[hx] at h1;have h2:=(Dn_ ha.f y).sim;rw[hy] at h2;have⟨us,e,h2⟩:=h2.inv_agg;have h3:=ha.l i;dsimp only at h3;rw[hb] at h3;have⟨vs,hL,hs⟩:=h3;have hl':=BW hl;refine Yw_ (m:=ti.size) (vs.take off++(us++vs.drop (off+ti.size))) h1.inv_own e (U8_ h2 ho) (Eq_ ht hti).sz (by rw[h2.1,hsz]) hL oX Y<|⟨.refl H,only,_,ha.turnB (B:= .box _ T0 _) i Z ⟨_,rfl,?_⟩,k⟩;have h4:=(hs.take off).append ((Hz_ (L:=fL) h2 hn).append (hs.drop (off+ti.size)));exact yG
theorem Nl_{α:Type}{enc:α->List PV}{k:Nat}{ys:List α}(hy:evP fF y = .sl enc ys)(hk:∀ a,(enc a).length=k):SrcP P N H0 ⟨fF,fL⟩ enc k y ys:=λF H L ha=>by
 have h1:=(Dn_ ha.f y).sim
 rw[hy] at h1
 have⟨k0,hs,hb⟩:=h1.slh
 cases ys with
 |nil=>
   have⟨⟨a,c,e,hc⟩,_⟩:=hs
   refine⟨[],⟨by simp,λw hm=>?_⟩,rl_nil,λu hu=>by cases hu⟩
   rw[e]
   refine⟨by simp[CK],?_⟩
   cases a with
   |none=>simp[AF]
   |some a=>
     have :=run_loadCells_list (P:=P) w a [] (λj v hj=>by simp at hj)
     simpa [AF] using this
 |cons a r=>
   have e:k0=k:=by
     have⟨cs,hE,_⟩:=hs.get (show (a::r)[0]? = some a from rfl)
     rw[<- hE.1,hk]
   subst e
   have⟨news,h2,h3,h4⟩:=src_slE (P:=P) Ma_ hs
   grind
theorem Hc_{α:Type}{enc:α->List PV}{i e k:Nat}{u:Value}{ys:List α}(hy:evP fF y = .osl i)(hb:fL i = .arr u k e enc ys):SrcP P N H0 ⟨fF,fL⟩ enc k y ys:=λF H L ha=>by
 have h1:=Dn_ ha.f y
 unfold Ok1 at h1
 rw[hy] at h1
 simp only[SimT,hb] at h1
 have h2:=ha.l i
 dsimp only at h2
 rw[hb] at h2
 have⟨cs,ho,hr,hm⟩:=h2
 rw[h1]
 exact⟨cs,src_own (F:=F) ho,hr,rl_one' Ma_ hr⟩
theorem app{α:Type}{tb:Tb}{i e k:Nat}{u:Value}{enc:α->List PV}{xs:List α}{te:TI}(ht:tbB P tb=true)(ys:List α)(hx:evP fF x = .osl i)(hb:fL i = .arr u k e enc xs){ti:TI}(hti:lkT tb T=some ti)(htk:ti.k = .slc e)(hT2:noIntT tb T2=true)(hte:lkT tb e=some te)(hz:te.zero.length=te.size)(hby:Nat.blt 0 te.bytes=true)(hk:te.size=k)(hy:SrcP P N H0 ⟨fF,fL⟩ enc k y ys)(hd:Nat.blt d n=true)(kk:∀ u',K ⟨updp (N2_ i fF) d (.osl i),lups (Kt_ i fL) i (.arr u' k e enc (xs++ys))⟩)(hs:(xs.length+ys.length)*te.bytes<=140737488355328:=by exact pD):E1 P n N H0 all ⟨some d, .call ⟨.builtin .append,#[x,y],#[T,T2]⟩,ty,pos,af,none⟩ (some i) ⟨fF,fL⟩ K:=by
 intro F H L ha;have h1:=Dn_ ha.f x;unfold Ok1 at h1;rw[hx] at h1;simp only[SimT,hb] at h1;have h2:=ha.l i;dsimp only at h2;rw[hb] at h2;have⟨cs,ho,hr,hm⟩:=h2;have⟨news,h3,h4,h5⟩:=hy F H L ha;have⟨d2,hd2,hn2⟩:=noIntT_ok ht hT2;have⟨zs,hzr,hzl⟩:=zero_one ht hte hz;have hok:=Eq_ ht hte;subst hk;have hby':0<te.bytes:=by simpa using hby
 have hlen:xs.length+ys.length<=140737488355328:=AK (BQ _ hby') hs;exact op1_app i h1 Y ((Eq_ ht hti).slc htk) hd2 hn2 hok.sz hok.by_ hby' hzr ho h3 h5 hzl hs hd λv' en' hv'=>⟨.refl H,only,_,(ha.turn i (B:= .arr v' te.size e enc (xs++ys)) ⟨_,by simpa using hv',rl_app hr h4,by simpa using hlen⟩).put d oI,kk v'⟩
theorem app0{α:Type}{tb:Tb}(i:Nat){e:Nat}{enc:α->List PV}{te:TI}(ht:tbB P tb=true)(ys:List α)(hx:evP fF x = .val (.slice none 0 0)){ti:TI}(hti:lkT tb T=some ti)(htk:ti.k = .slc e)(hT2:noIntT tb T2=true)(hte:lkT tb e=some te)(hz:te.zero.length=te.size)(hby:Nat.blt 0 te.bytes=true)(hy:SrcP P N H0 ⟨fF,fL⟩ enc te.size y ys)(hs:ys.length*te.bytes<=140737488355328)(hd:Nat.blt d n=true)(hno:fL i = .no)(kk:∀ u',K ⟨updp (N2_ i fF) d (.osl i),lups (Kt_ i fL) i (.arr u' te.size e enc ys)⟩):E1 P n N H0 all ⟨some d, .call ⟨.builtin .append,#[x,y],#[T,T2]⟩,ty,pos,af,none⟩ (some i) ⟨fF,fL⟩ K:=by
 intro F H L ha;have h1:=(Dn_ ha.f x).sim;rw[hx] at h1
 have hL0:Abs H0 ⟨fF,fL⟩ F H (lupd L i none):=⟨ha.le,ha.g,ha.f,λj=>by
   by_cases e:j=i
   . subst e;dsimp only;rw[hno];trivial
   . rw[Cx_ e];exact ha.l j⟩
 suffices hsuf:Op1 P n N all _ _ F H (lupd L i none) from λa w hA hm=>hsuf a w hA (hm.clear i)
 have⟨news,h3,h4,h5⟩:=hy F H _ hL0;have⟨d2,hd2,hn2⟩:=noIntT_ok ht hT2;have⟨zs,hzr,hzl⟩:=zero_one ht hte hz;have hok:=Eq_ ht hte;have hby':0<te.bytes:=by simpa using hby
 have hlen:ys.length<=140737488355328:=AK (BQ _ hby') hs;have hs':(0+ys.length)*te.bytes<=140737488355328:=by simpa using hs
 refine op1_app i h1.inv_val Y ((Eq_ ht hti).slc htk) hd2 hn2 hok.sz hok.by_ hby' hzr (by rw[C4_];exact Ry_) h3 h5 hzl hs' hd λv' en' hv'=>⟨.refl H,λj hj=>?_,_,(hL0.turn i (B:= .arr v' te.size e enc ys) ⟨_,by simpa using hv',h4,by simpa using hlen⟩).put d oI,kk v'⟩;have hne:j≠i:=λe=>hj pP;rw[Cx_ hne,Cx_ hne]
theorem bsl{α:Type}{tb:Tb}(i:Nat){e len:Nat}{ps:Array (Nat×Operand)}(enc:α->List PV)(xs:List α){rows:List (List PV)}{ti te:TI}(ht:tbB P tb=true)(hti:lkT tb T=some ti)(htk:ti.k = .slc e)(hte:lkT tb e=some te)(hr:bslP fF ps.toList 0=some rows)(hx:rows=xs.map enc)(hk:∀ a,(enc a).length=te.size)(hl:xs.length=len)(hd:Nat.blt d n=true)(kk:∀ u',K ⟨updp (N2_ i fF) d (.osl i),lups (Kt_ i fL) i (.arr u' te.size e enc xs)⟩)(hs:len*te.size<=16777216:=by exact qZ)(hs2:len<=140737488355328:=by exact qZ):E1 P n N H0 all ⟨some d, .buildSlice T len ps,ty,pos,af,none⟩ (some i) ⟨fF,fL⟩ K:=by
 obtain⟨pl,rfl⟩:∃ pl:List (Nat×Operand),ps=pl.toArray:=⟨ps.toList,by simp⟩;simp only[List.toList_toArray] at hr;intro F H L ha;have hrow:∀ r∈rows,r.length=te.size:=λr hr=>by
   grind
 have⟨a1,a2,a3⟩:=bslP_ok ha.f pl 0 rows hr hrow;have hrl:=a3 enc xs hx;have⟨zv,hz,_⟩:=(Eq_ ht hte).zero;have hlen:(evp F pl).length=len:=by rw[a2,hx];simpa using hl
 refine op1_bslice i hd ((Eq_ ht hti).slc htk) (Eq_ ht hte).sz ⟨zv,hz⟩ Y a1 hlen Y hs λb=>⟨.refl H,only,_,(ha.turn i (B:= .arr (.slice (some ⟨b,0,none⟩) len len) te.size e enc xs) ⟨_,?_,hrl,by omega⟩).put d oI,kk _⟩;rw[<- hl];exact ownV_bx (rl_len Ma_ hrl)
theorem give{α:Type}{e k:Nat}{u:Value}{enc:α->List PV}{xs:List α}(i:Nat)(hb:fL i = .arr u k e enc xs)(kk:Hd P n N H0 Q (.ops all rest) ks ⟨giveF i enc xs fF,giveL i enc xs fL⟩):Hd P n N H0 Q (.ops all rest) ks ⟨fF,fL⟩:=by
 intro F H L ha;exact ow_giveO i Y λH' hl hg=>kk _ _ _ (ha.give hb hl hg)
theorem Je_{α:Type}{e k:Nat}{u:Value}{enc:α->List PV}{xs:List α}{c:Code}(i:Nat)(hb:fL i = .arr u k e enc xs)(kk:Hd P n N H0 Q (.code c) ks ⟨giveF i enc xs fF,giveL i enc xs fL⟩):Hd P n N H0 Q (.code c) ks ⟨fF,fL⟩:=by
 intro F H L ha;exact cw_giveO i Y λH' hl hg=>kk _ _ _ (ha.give hb hl hg)
theorem W5_{α:Type}{e k:Nat}{u:Value}{enc:α->List PV}{ls:List α}{f:FuncId}{args:List PV}{res:PV}{xs:Array Operand}{ats:Array TypeId}(i:Nat)(hb:fL i = .arr u k e enc ls)(h:Fn P H0.g f args res)(hf:res.flat=true)(ha:argsP (giveF i enc ls fF) x xs.toList=some (f,args))(hd:Nat.blt d n=true)(kk:res.wf->K ⟨updp fF d res,fL⟩):E1 P n N H0 all ⟨some d, .call ⟨.value x,xs,ats⟩,ty,pos,af,none⟩ none ⟨fF,fL⟩ K:=by
 intro F H L hab;refine λa w hA hm=>?_;have⟨H1,hl1,hg1,hm1⟩:=hm.giveO (i:=i) Y;have hab1:=hab.give hb hl1 hg1;have⟨vs,h1,h2⟩:=Jk_ (ats:=ats) hab1.f ha h.cb;rw[if_pos pH];unfold BG;rw[hA.eval,h2];refine (h.run N H1 _ w vs hab1.g h1 hm1).mono λe' w' ⟨v,H',he,hv,hl,hm'⟩=>?_;subst he;refine⟨_,H,L,hA.put pI v,?_, .refl H,λ_ _=>rfl,_,hab.put d ?_,kk hv.wf⟩
 . have hm2:=hm'.le hl
   cases hLi:L i with
   |none=>
     have e1:lupd L i none=L:=lupd_eta hLi
     rw[e1] at hm2
     exact hm2.le hl1
   |some bo=>
     have⟨b,o⟩:=bo
     have hle:HLe (hadd H b o) H1:=λc q hq=>by
       by_cases e:c=b
       . subst e;simp[hadd] at hq;subst hq;exact hg1 _ _ hLi
       . simp[hadd,e] at hq;exact hl1 c q hq
     exact hm.take hLi (hm2.le hle)
 have hno:=h.no;refine Sim.simT ?_ hno;obtain⟨v0,hv0⟩:∃ v0,v0=v:=⟨v,rfl⟩;exact Sim.flat_any hf hv
theorem any(xs:List Nat)(m:Nat){id:Nat}{ops:Array Oper}(hmx:P.follows .mixedOrders=true)(hm:ops.toList.length=m)(h:Hv P n N H0 Q (some xs) ops.toList m (Array.replicate m false) ks ⟨fF,fL⟩):Hd P n N H0 Q (.code (.region id ops true)) ks ⟨fF,fL⟩:=by
 intro F H L ha;subst hm;have :=cw_any (id:=id) hmx (λi=>bif memB xs i then none else L i) (h F H L _ ha λ_=>rfl);exact sY
theorem vdone{xs:Option (List Nat)}{fuel:Nat}{listed:Array Bool}(h:Region.ready .any all.toArray listed=[])(k:Hd P n N H0 Q (.ex .normal) ks ⟨fF,fL⟩):Hv P n N H0 Q xs all fuel listed ks ⟨fF,fL⟩:=λF H L Lk ha _=>vw_done h ⟨⟨fF,fL⟩,ha,k⟩
theorem vcall{xs:Option (List Nat)}{fuel:Nat}{listed:Array Bool}{f:FuncId}{args:List PV}{res:PV}{as0:Array Operand}{ats:Array TypeId}(i:Nat)(hi:nth all i=some ⟨some d, .call ⟨.value x,as0,ats⟩,ty,pos,af,none⟩)(hck:(rdB all listed i&&apB n all listed i ⟨some d, .call ⟨.value x,as0,ats⟩,ty,pos,af,none⟩&&Nat.blt d n&&nosB (.call ⟨.value x,as0,ats⟩))=true)(h:Fn P H0.g f args res)(hf:res.flat=true)(ha:argsP fF x as0.toList=some (f,args))(k:res.wf->Hv P n N H0 Q xs all fuel (listed.setIfInBounds i true) ks ⟨updp fF d res,fL⟩):Hv P n N H0 Q xs all (fuel+1) listed ks ⟨fF,fL⟩:=by
 intro F H L Lk hab hL;by_cases hw:∃ w,Mem N H L w;have⟨w,hm⟩:=hw;rw[L4_] at hi;have⟨vs,h1,h2⟩:=Jk_ (ats:=ats) hab.f ha h.cb;have⟨v,H',hv⟩:=sim_ex h hab.g h1 hm;exact vw_qc i hi hck (λ_ _ q=>by cases q) (h.pr hf hab.g h1 hv) h2 (k hv.wf _ _ _ _ (hab.put d ((Sim.flat_any hf hv).simT h.no)) hL)
 exact sE
theorem U6_{xs:Option (List Nat)}{fuel:Nat}{listed:Array Bool}{f:FuncId}{args:List PV}{res:PV}{as0:Array Operand}{ats:Array TypeId}{j:Nat}{want g:Bool}(i:Nat)(hi:nth all i=some ⟨some d, .call ⟨.value x,as0,ats⟩,ty,pos,af,some (j,want)⟩)(hg:gOp ⟨fF,fL⟩ all j want=some g)(h:g=true->Fn P H0.g f args res)(hf:res.flat=true)(ha:argsP (strG (P5_ as0.toList) fF) x as0.toList=some (f,args))(hno:Qa_ fF (P5_ as0.toList)=true)(k:(g=true->res.wf)->Hv P n N H0 Q xs all fuel (listed.setIfInBounds i true) ks ⟨updp fF d (.gv g res),fL⟩)(hck:(rdB all listed i&&apB n all listed i ⟨some d, .call ⟨.value x,as0,ats⟩,ty,pos,af,some (j,want)⟩&&Nat.blt d n&&nosB (.call ⟨.value x,as0,ats⟩))=true:=by exact qY)(hc:AllP (Vc_ fF g (P5_ as0.toList) []):=by exact aG):Hv P n N H0 Q xs all (fuel+1) listed ks ⟨fF,fL⟩:=by
 intro F H L Lk hab hL;by_cases hw:∃ w,Mem N H L w
 . have⟨w,hm⟩:=hw
   rw[L4_] at hi
   have⟨c,b,hy,hge⟩:=T1_ hab hg
   have hge2:g=(c&&(b==want)):=hge.trans gv_dec.symm
   cases hgv:g with
   |false=>
     have hcf:(c&&(b==want))=false:=by rw[<- hge2,hgv]
     refine vgp (c:=c) (b:=b) (v:=undef) (f:=f) (args:=#[]) i hi hck (λ_ _ q=>by cases q) hy (λe=>by rw[hcf] at e;cases e) (λe=>by rw[hcf] at e;cases e) (k (λe=>by rw[hgv] at e;cases e) _ _ _ _ (hab.put d ?_) hL)
     rw[<- hge2,hgv]
     exact Sim.gvf
   |true=>
     have hF:=h hgv
     have⟨vs,h1,h2⟩:=Jk_ (ats:=ats) (Ri_ hab.f (λt ht c v e=>(Lv_ hc).2 t ht c v e hgv) (Kn_ hno)) ha hF.cb
     have⟨v,H',hv⟩:=sim_ex hF hab.g h1 hm
     refine vgp (c:=c) (b:=b) (v:=v) i hi hck (λ_ _ q=>by cases q) hy (λ_=>hF.pr hf hab.g h1 hv) (λ_=>h2) (k (λ_=>hv.wf) _ _ _ _ (hab.put d ?_) hL)
     rw[<- hge2,hgv]
     exact Sim.gvt (Sim.flat_any hf hv)
 exact sE
theorem ve{xs:List Nat}{fuel:Nat}{listed:Array Bool}{o:Oper}{j:Option Nat}(i:Nat)(hi:nth all i=some o)(hr:Region.ready .any all.toArray listed=[i])(hj:(match j with|none=>true|some j=>memB xs j)=true)(h:E1 P n N H0 all o j ⟨fF,fL⟩ (λs'=>Hv P n N H0 Q (some xs) all fuel (listed.setIfInBounds i true) ks s')):Hv P n N H0 Q (some xs) all (fuel+1) listed ks ⟨fF,fL⟩:=by
 intro F H L Lk ha hL;rw[L4_] at hi;have hle:∀ L':Ls,(∀ i,j≠some i->L' i=L i)->LkR (some xs) Lk L':=λL' hL' i=>by
   rw[hL i]
   grind
 refine vw_e i hi hr ((h F H L ha).imp λF' H' L' ⟨h1,h2,s',h3,h4⟩=>⟨⟨h1,λi x hx=>?_⟩,h4 F' H' L' Lk h3 (hle L' h2)⟩);have :=hle L' h2 i;grind
theorem vt{xs:Option (List Nat)}{fuel:Nat}{listed:Array Bool}{o:Oper}{j:Option Nat}(i:Nat)(hi:nth all i=some o)(hr:Region.ready .any all.toArray listed=[i])(ht:tailB all listed i=true)(h:E1 P n N H0 all o j ⟨fF,fL⟩ (λs'=>Hv P n N H0 Q none all fuel (listed.setIfInBounds i true) ks s')):Hv P n N H0 Q xs all (fuel+1) listed ks ⟨fF,fL⟩:=by
 intro F H L Lk ha hL;rw[L4_] at hi;exact vw_t i hi hr ht ((h F H L ha).imp λF' H' L' ⟨_,_,s',h3,h4⟩=>h4 F' H' L' Lk h3 Z)
theorem vtp{xs:Option (List Nat)}{fuel:Nat}{listed:Array Bool}{o:Oper}{j:Option Nat}(i:Nat)(hi:nth all i=some o)(h:E1 P n N H0 all o j ⟨fF,fL⟩ (λs'=>Hv P n N H0 Q none all fuel (listed.setIfInBounds i true) ks s'))(hr:Region.ready .any all.toArray listed=[i]:=by exact qY)(ht:tailP all listed i=true:=by exact qY):Hv P n N H0 Q xs all (fuel+1) listed ks ⟨fF,fL⟩:=by
 intro F H L Lk ha hL;rw[L4_] at hi;exact vw_tp i hi hr ht ((h F H L ha).imp λF' H' L' ⟨h1,_,s',h3,h4⟩=>⟨h1,h4 F' H' L' Lk h3 Z⟩)
theorem ecall{f:FuncId}{args:List PV}{res:PV}{as0:Array Operand}{ats:Array TypeId}(h:Fn P H0.g f args res)(ha:argsP fF x as0.toList=some (f,args))(hd:Nat.blt d n=true)(k:res.wf->K ⟨updp fF d res,fL⟩):E1 P n N H0 all ⟨some d, .call ⟨.value x,as0,ats⟩,ty,pos,af,none⟩ none ⟨fF,fL⟩ K:=by
 intro F H L hab;have⟨vs,h1,h2⟩:=Jk_ (ats:=ats) hab.f ha h.cb;exact op1_ph (h.ph hab.g h1) h2 hd λv H' hv hl=>⟨hl,λ_ _=>rfl,_,(hab.mono hl).put d (hv.simT h.no),k hv.wf⟩
theorem q1(h:Qy P N H0 ⟨fF,fL⟩ op ty p)(hd:Nat.blt d n=true)(k:p.wf->Hd P n N H0 Q (.ops all rest) ks ⟨updp fF d p,fL⟩):Hd P n N H0 Q (.ops all (⟨some d,op,ty,pos,af,none⟩::rest)) ks ⟨fF,fL⟩:=λF H L ha=>by
 have⟨val,h1,h2⟩:=h F H L ha
 exact ow1 (Q0_ hd (h2 H L (.refl H)) (k h1.sim.wf _ _ _ (ha.put d h1)))
theorem eqy(h:Qy P N H0 ⟨fF,fL⟩ op ty p)(hd:Nat.blt d n=true)(k:p.wf->K ⟨updp fF d p,fL⟩):E1 P n N H0 all ⟨some d,op,ty,pos,af,none⟩ none ⟨fF,fL⟩ K:=λF H L ha=>by
 have⟨val,h1,h2⟩:=h F H L ha
 exact Q0_ hd (h2 H L (.refl H)) ⟨.refl H,λ_ _=>rfl,_,ha.put d h1,k h1.sim.wf⟩
theorem vq{xs:Option (List Nat)}{fuel:Nat}{listed:Array Bool}(i:Nat)(h:Qy P N H0 ⟨fF,fL⟩ op ty p)(hi:nth all i=some ⟨some d,op,ty,pos,af,none⟩)(hl:Qx_ op=false)(k:p.wf->Hv P n N H0 Q xs all fuel (listed.setIfInBounds i true) ks ⟨updp fF d p,fL⟩)(hck:(rdB all listed i&&apB n all listed i ⟨some d,op,ty,pos,af,none⟩&&Nat.blt d n&&nosB op)=true:=by exact qY):Hv P n N H0 Q xs all (fuel+1) listed ks ⟨fF,fL⟩:=by
 intro F H L Lk ha hL;rw[L4_] at hi;have⟨val,h1,h2⟩:=h F H L ha;exact vw_q i hi (hck:=hck) (hL:=lk_le hL (.inl hl)) (λH' L' hh _=>h2 H' L' hh) (k h1.sim.wf _ _ _ _ (ha.put d h1) hL)
theorem q1g{j:Nat}{want g:Bool}(ts:List Nat)(hg:gOp ⟨fF,fL⟩ all j want=some g)(h:g=true->Qy P N H0 (strS ts ⟨fF,fL⟩) op ty p)(hno:Qa_ fF ts=true)(hpo:p.noOsl=true)(hd:Nat.blt d n=true)(k:(g=true->p.wf)->Hd P n N H0 Q (.ops all rest) ks ⟨updp fF d (.gv g p),fL⟩)(hc:AllP (Vc_ fF g ts []):=by exact aG):Hd P n N H0 Q (.ops all (⟨some d,op,ty,pos,af,some (j,want)⟩::rest)) ks ⟨fF,fL⟩:=λF H L ha=>by
 have⟨c,b,hy,hge⟩:=T1_ ha hg
 refine ow_gd hy hd (λe=>?_) (λe=>?_)
 . have hgt:=hge.trans e
   have⟨val,h1,h2⟩:=h hgt F H L (abs_str ha hc hno hgt)
   refine Q0_ hd (h2 H L (.refl H)) (k (λ_=>h1.sim.wf) _ _ _ (ha.put d ?_))
   rw[hgt];exact Sim.gvt h1.sim
 . have hgf:=hge.trans e
   refine k (λe=>by rw[hgf] at e;cases e) _ _ _ (ha.put d ?_)
   rw[hgf];exact Sim.gvf
theorem vqg{xs:Option (List Nat)}{fuel:Nat}{listed:Array Bool}{j:Nat}{want g:Bool}(i:Nat)(ts:List Nat)(hi:nth all i=some ⟨some d,op,ty,pos,af,some (j,want)⟩)(hl:Qx_ op=false)(hg:gOp ⟨fF,fL⟩ all j want=some g)(h:g=true->Qy P N H0 (strS ts ⟨fF,fL⟩) op ty p)(hno:Qa_ fF ts=true)(k:(g=true->p.wf)->Hv P n N H0 Q xs all fuel (listed.setIfInBounds i true) ks ⟨updp fF d (.gv g p),fL⟩)(hck:(rdB all listed i&&apB n all listed i ⟨some d,op,ty,pos,af,some (j,want)⟩&&Nat.blt d n&&nosB op)=true:=by exact qY)(hc:AllP (Vc_ fF g ts []):=by exact aG):Hv P n N H0 Q xs all (fuel+1) listed ks ⟨fF,fL⟩:=by
 intro F H L Lk ha hL;rw[L4_] at hi;have⟨c,b,hy,hge⟩:=T1_ ha hg;have hge2:g=(c&&(b==want)):=hge.trans gv_dec.symm
 cases hgv:g with
 |false=>
   have hcf:(c&&(b==want))=false:=by rw[<- hge2,hgv]
   refine vgq (c:=c) (b:=b) (v:=undef) i hi hck (lk_le hL (.inl hl)) (λ_ _ q=>by cases q) hy (λe=>by rw[hcf] at e;cases e) (k (λe=>by rw[hgv] at e;cases e) _ _ _ _ (ha.put d ?_) hL)
   rw[<- hge2,hgv];exact Sim.gvf
 |true=>
   have⟨val,h1,h2⟩:=h hgv F H L (abs_str ha hc hno hgv)
   refine vgq (c:=c) (b:=b) (v:=val) i hi hck (lk_le hL (.inl hl)) (λ_ _ q=>by cases q) hy (λ_ H' L' hh _=>h2 H' L' hh) (k (λ_=>h1.sim.wf) _ _ _ _ (ha.put d ?_) hL)
   rw[<- hge2,hgv];exact Sim.gvt h1.sim
theorem sidx{tb:Tb}{ti:TI}{a:Bs}{k:IntKind}{i:Int}(ht:tbB P tb=true)(m:Nat)(hx:evP fF x = .str a)(hy:evP fF y = .int k i)(hti:lkT tb T=some ti)(htk:ti.k = .str)(hi:i=m)(hm:m<a.length):Qy P N H0 ⟨fF,fL⟩ (.index T x y) ty (.int .u8 (a.getD m 0).toNat):=λF H L ha=>by
 have h1:=(ha.ev hx).sim
 have h2:=(ha.ev hy).sim
 exact⟨_,u8_get,λH' L' _=>lo_index_str m h1.inv_str.1 h2.inv_int.1 ((Eq_ ht hti).str htk) hi hm⟩
theorem sslo{tb:Tb}{ti:TI}{a:Bs}{k:IntKind}{i:Int}(ht:tbB P tb=true)(m:Nat)(hx:evP fF x = .str a)(hy:evP fF y = .int k i)(hti:lkT tb T=some ti)(htk:ti.k = .str)(hi:i=m)(hm:m<=a.length):Qy P N H0 ⟨fF,fL⟩ (.slice T x (some y) none none) ty (.str (a.drop m)):=λF H L ha=>by
 have h1:=(ha.ev hx).sim
 have h2:=(ha.ev hy).sim
 exact⟨_,Sim.str nK,λH' L' _=>Yh_ m h1.inv_str.1 h2.inv_int.1 ((Eq_ ht hti).str htk) hi hm⟩
theorem sshi{tb:Tb}{ti:TI}{a:Bs}{k:IntKind}{i:Int}(ht:tbB P tb=true)(m:Nat)(hx:evP fF x = .str a)(hy:evP fF y = .int k i)(hti:lkT tb T=some ti)(htk:ti.k = .str)(hi:i=m)(hm:m<=a.length):Qy P N H0 ⟨fF,fL⟩ (.slice T x none (some y) none) ty (.str (a.take m)):=λF H L ha=>by
 have h1:=(ha.ev hx).sim
 have h2:=(ha.ev hy).sim
 exact⟨_,Sim.str nK,λH' L' _=>Yg_ m h1.inv_str.1 h2.inv_int.1 ((Eq_ ht hti).str htk) hi hm⟩
theorem ssl{tb:Tb}{ti:TI}{a:Bs}{k k':IntKind}{i j:Int}(ht:tbB P tb=true)(m q:Nat)(hx:evP fF x = .str a)(hy:evP fF y = .int k i)(hz:evP fF z = .int k' j)(hti:lkT tb T=some ti)(htk:ti.k = .str)(hi:i=m)(hj:j=q)(hm:m<=q)(hq:q<=a.length):Qy P N H0 ⟨fF,fL⟩ (.slice T x (some y) (some z) none) ty (.str ((a.drop m).take (q-m))):=λF H L ha=>by
 have h1:=(ha.ev hx).sim
 have h2:=(ha.ev hy).sim
 have h3:=(ha.ev hz).sim
 exact⟨_,Sim.str nK,λH' L' _=>lo_slice_str m q h1.inv_str.1 h2.inv_int.1 h3.inv_int.1 ((Eq_ ht hti).str htk) hi hj hm hq⟩
theorem qidx{α:Type}{tb:Tb}{ti te:TI}{e:TypeId}{enc:α->List PV}{xs:List α}{kk:IntKind}{i:Int}(ht:tbB P tb=true)(m:Nat){a:α}(hx:evP fF x = .sl enc xs)(hy:evP fF y = .int kk i)(hm:i=m)(ha:xs[m]? = some a)(hti:lkT tb T=some ti)(hk:ti.k = .slc e)(hte:lkT tb e=some te)(hsz:te.size=(enc a).length):Qy P N H0 ⟨fF,fL⟩ (.indexAddr T x y) ty (.el (enc a) 0):=λF H L hab=>by
 have h1:=(hab.ev hx).sim
 have h2:=(hab.ev hy).sim
 have⟨k0,hs,hb⟩:=h1.slh
 have⟨cs,hE,hat⟩:=hs.get ha
 have hsize:=(Eq_ ht hte).sz
 rw[hsz,hE.1] at hsize
 have hlt:m<xs.length:=by
   grind
 refine⟨_,Sim.simT (p:= .el (enc a) 0) ?_ Y,λH' L' hh=>lo_indexAddr Y h2.inv_int.1 hs.1 (hat.mono hh) ((Eq_ ht hti).slc hk) hsize hm hlt⟩
 have :=Sim.el (row:=enc a) (o:=0) hat hE.1 hE.2.1.2
 simpa [sPtr] using this
theorem lsl{α:Type}{tb:Tb}{ti te:TI}{e:TypeId}{enc:α->List PV}{xs:List α}{k k':IntKind}{i j:Int}(ht:tbB P tb=true)(m q:Nat)(hx:evP fF x = .sl enc xs)(hy:evP fF y = .int k i)(hz:evP fF z = .int k' j)(hti:lkT tb T=some ti)(htk:ti.k = .slc e)(hte:lkT tb e=some te)(hw:∀ a,(enc a).length=te.size)(hi:i=m)(hj:j=q)(hm:m<=q)(hq:q<=xs.length):Qy P N H0 ⟨fF,fL⟩ (.slice T x (some y) (some z) none) ty (.sl enc ((xs.drop m).take (q-m))):=λF H L hab=>by
 have h1:=(hab.ev hx).sim
 have h2:=(hab.ev hy).sim
 have h3:=(hab.ev hz).sim
 have⟨k0,hs,hb⟩:=h1.slh
 have hsz:=(Eq_ ht hte).sz
 have⟨⟨a,c,hv,hc⟩,hall⟩:=hs
 have hs':SlH (RowE enc te.size) te.size H (.slice a xs.length c) xs:=by
   exact tA
 have hr:=slh_sub hs' hm hq
 have hlen:q-m=((xs.drop m).take (q-m)).length:=by simp;omega
 refine⟨_,Sim.simT (Sim.of_slh hr qX) Y,λH' L' _=>lo_slice_slh m q hv h2.inv_int.1 h3.inv_int.1 ((Eq_ ht hti).slc htk) hsz hi hj hm (AK hq hc)⟩
theorem lslo{α:Type}{tb:Tb}{ti te:TI}{e:TypeId}{enc:α->List PV}{xs:List α}{k:IntKind}{i:Int}(ht:tbB P tb=true)(m:Nat)(hx:evP fF x = .sl enc xs)(hy:evP fF y = .int k i)(hti:lkT tb T=some ti)(htk:ti.k = .slc e)(hte:lkT tb e=some te)(hw:∀ a,(enc a).length=te.size)(hi:i=m)(hm:m<=xs.length):Qy P N H0 ⟨fF,fL⟩ (.slice T x (some y) none none) ty (.sl enc (xs.drop m)):=λF H L hab=>by
 have h1:=(hab.ev hx).sim
 have h2:=(hab.ev hy).sim
 have⟨k0,hs,hb⟩:=h1.slh
 have hsz:=(Eq_ ht hte).sz
 have⟨⟨a,c,hv,hc⟩,hall⟩:=hs
 have hs':SlH (RowE enc te.size) te.size H (.slice a xs.length c) xs:=by
   exact tA
 exact⟨_,Sim.simT (Sim.of_slh (slh_drop hs' hm) pL) Y,λH' L' _=>Qw_ m hv h2.inv_int.1 ((Eq_ ht hti).slc htk) hsz hi hm⟩
theorem lshi{α:Type}{tb:Tb}{ti te:TI}{e:TypeId}{enc:α->List PV}{xs:List α}{k:IntKind}{i:Int}(ht:tbB P tb=true)(m:Nat)(hx:evP fF x = .sl enc xs)(hy:evP fF y = .int k i)(hti:lkT tb T=some ti)(htk:ti.k = .slc e)(hte:lkT tb e=some te)(hw:∀ a,(enc a).length=te.size)(hi:i=m)(hm:m<=xs.length:=by exact qX):Qy P N H0 ⟨fF,fL⟩ (.slice T x none (some y) none) ty (.sl enc (xs.take m)):=λF H L hab=>by
 have h1:=(hab.ev hx).sim
 have h2:=(hab.ev hy).sim
 have⟨k0,hs,hb⟩:=h1.slh
 have hsz:=(Eq_ ht hte).sz
 have⟨⟨a,c,hv,hc⟩,hall⟩:=hs
 have hs':SlH (RowE enc te.size) te.size H (.slice a xs.length c) xs:=by
   exact tA
 have hr:=slh_take hs' hm
 have hlen:m=(xs.take m).length:=by simp;omega
 exact⟨_,Sim.simT (Sim.of_slh hr qX) Y,λH' L' _=>Qv_ m hv h2.inv_int.1 ((Eq_ ht hti).slc htk) hsz hi (AK hm hc)⟩
theorem lnil{α:Type}{tb:Tb}{ti:TI}{e:TypeId}{enc:α->List PV}{xs:List α}(ht:tbB P tb=true)(hx:evP fF x = .sl enc xs)(hy:evP fF y = .val (.slice none 0 0))(hti:lkT tb T=some ti)(htk:ti.k = .slc e)(hd:Nat.blt d n=true)(k:∀ b,(b=true->xs=[])->K ⟨updp fF d (.bool b),fL⟩):E1 P n N H0 all ⟨some d, .binOp .eql T x y T',ty,pos,af,none⟩ none ⟨fF,fL⟩ K:=λF H L ha=>by
 have h1:=(ha.ev hx).sim
 have h2:=(ha.ev hy).sim
 have⟨k0,hs,hb⟩:=h1.slh
 have⟨⟨a,c,hv,hc⟩,hall⟩:=id hs
 refine Q0_ hd (lo_sleq_nil hv h2.inv_val ((Eq_ ht hti).slc htk)) ⟨.refl H,λ_ _=>rfl,_,ha.put (p:= .bool a.isNone) d Sim.bool,k _ λe=>?_⟩
 rw[hv] at hs
 cases a with
 |none=>exact slh_none hs
 |some a=>cases e
theorem saeq{ps qs:List PV}{r:Bool}(hx:evP fF x = .agg ps)(hy:evP fF y = .agg qs)(hm:P.eqGuardType P.depth T=false)(h:∀ H vs us,Sims H ps vs->Sims H qs us->EqV P 10000 T (.agg vs.toArray) (.agg us.toArray) r):Qy P N H0 ⟨fF,fL⟩ (.binOp .eql T x y T') ty (.bool r):=λF H L ha=>by
 have⟨vs,e1,h1⟩:=(ha.ev hx).sim.inv_agg
 have⟨us,e2,h2⟩:=(ha.ev hy).sim.inv_agg
 exact⟨.bool r,Sim.bool,λH' L' _=>lo_aeql e1 e2 hm (h H vs us h1 h2)⟩
theorem sane{ps qs:List PV}{r:Bool}(hx:evP fF x = .agg ps)(hy:evP fF y = .agg qs)(hm:P.eqGuardType P.depth T=false)(h:∀ H vs us,Sims H ps vs->Sims H qs us->EqV P 10000 T (.agg vs.toArray) (.agg us.toArray) r):Qy P N H0 ⟨fF,fL⟩ (.binOp .neq T x y T') ty (.bool (!r)):=λF H L ha=>by
 have⟨vs,e1,h1⟩:=(ha.ev hx).sim.inv_agg
 have⟨us,e2,h2⟩:=(ha.ev hy).sim.inv_agg
 exact⟨.bool (!r),Sim.bool,λH' L' _=>lo_aneq e1 e2 hm (h H vs us h1 h2)⟩
theorem sb2s{tb:Tb}{ti td te:TI}{i e e':Nat}{u:Value}{enc:UInt8->List PV}{xs:Bs}(ht:tbB P tb=true)(hx:evP fF x = .osl i)(hb:fL i = .arr u 1 e enc xs)(henc:enc=u8c)(hti:lkT tb T=some ti)(htk:ti.k = .slc e')(hte:lkT tb e'=some te)(hek:te.k = .int .u8)(htd:lkT tb T'=some td)(hdk:td.k = .str)(hl:xs≠[])(hd:Nat.blt d n=true)(k:K ⟨updp fF d (.str xs),fL⟩):E1 P n N H0 all ⟨some d, .convert T T' x,ty,pos,af,none⟩ none ⟨fF,fL⟩ K:=λF H L ha=>by
 subst henc
 have h1:=ha.ev hx
 simp only[SimT,hb] at h1
 have h2:=ha.l i
 dsimp only at h2
 rw[hb] at h2
 have⟨cs,ho,hr,hm⟩:=h2
 have⟨hcl,ho⟩:=ho
 rcases ho with ⟨rfl,h0,_⟩|⟨b,cap,c,f,rfl,hL,hc,hle,htk',hff⟩
 . exact absurd (List.length_eq_zero_iff.1 h0) hl
 . obtain rfl :=hff Y
   simp only[AN,AE] at hL h1
   have hcs:cs=xs.map u8v:=rl_u8_inv hr
   have hst:xs.length<=9223372036854775807:=by omega
   have hlo:Lo P N (.convert T T' x) ty F H L (str xs):=λd pos af g w hmm=>by
     have :=run_convert_bytes_back (P:=P) w T T' e' ⟨b,0,none⟩ cap xs ((Eq_ ht hti).slc htk) ((Eq_ ht hte).int hek) ((Eq_ ht htd).str hdk) (λj hj=>by
       rw[G8_,B9]
       refine hmm.cellL hL ?_
       rw[hcs] at htk'
       have h5:(c.take (xs.length*1))[j]? = (xs.map u8v)[j]? :=by rw[htk']
       rw[BE,if_pos qX] at h5
       rw[h5]
       simp[hj,u8v])
     simp[execOp,h1,this,str]
   exact Q0_ hd hlo ⟨.refl H,λ_ _=>rfl,_,ha.put (p:= .str xs) d (Sim.str hst),k⟩
theorem ss2b{tb:Tb}{ti td te:TI}{e:Nat}{a:Bs}(ht:tbB P tb=true)(hx:evP fF x = .str a)(hti:lkT tb T=some ti)(htk:ti.k = .str)(htd:lkT tb T'=some td)(hdk:td.k = .slc e)(hte:lkT tb e=some te)(hek:te.k = .int .u8)(hl:a.length<=140737488355328)(hd:Nat.blt d n=true)(k:K ⟨updp fF d (.sl u8c a),fL⟩):E1 P n N H0 all ⟨some d, .convert T T' x,ty,pos,af,none⟩ none ⟨fF,fL⟩ K:=λF H L ha=>by
 refine op1_s2b (ha.ev hx).sim.inv_str.1 ((Eq_ ht hti).str htk) ((Eq_ ht htd).slc hdk) ((Eq_ ht hte).int hek) hd λb cap H' hh hs=>?_
 exact⟨hh,λ_ _=>rfl,_,(ha.mono hh).put (p:= .sl u8c a) d (Sim.of_slh (u8_row hs) hl),k⟩
theorem so_rt{t:Nat}{p':PV}(h:PLe (fF t) p')(hn:p'.noOsl=true)(k:Hd P n N H0 Q (.ops all rest) ks ⟨updp fF t p',fL⟩):Hd P n N H0 Q (.ops all rest) ks ⟨fF,fL⟩:=λF H L ha=>by
 refine k F H L ⟨ha.le,ha.g,λq=>?_,ha.l⟩
 by_cases e:q=t
 . subst e;simp only[Np_];exact (h H _ (ha.f q).sim).simT hn
 . exact sR
theorem Ga_{α:Type}{t k e:Nat}{c:Code}(i:Nat)(enc:α->List PV)(hF:fF t = .val (.slice none 0 0))(hno:fL i = .no)(kk:Hd P n N H0 Q (.code c) ks ⟨updp (N2_ i fF) t (.osl i),lups (Kt_ i fL) i (.arr (.slice none 0 0) k e enc [])⟩):Hd P n N H0 Q (.code c) ks ⟨fF,fL⟩:=λF H L ha=>by
 have hL0:Abs H0 ⟨fF,fL⟩ F H (lupd L i none):=⟨ha.le,ha.g,ha.f,λj=>by
   by_cases e:j=i
   . subst e;dsimp only;rw[hno];trivial
   . rw[Cx_ e];exact ha.l j⟩
 have h1:=(ha.f t).sim
 dsimp only at h1
 rw[hF] at h1
 have h2:=hL0.turn i (B:= .arr (.slice none 0 0) k e enc []) (x:=none) ⟨[],Ry_,rl_nil,by simp⟩
 have e2:lupd (lupd L i none) i none=lupd L i none:=by funext j;simp only[lupd];cases AR j i<;>rfl
 rw[e2] at h2
 refine cw_weaken (λw hm=>hm.clear i) (kk F H _ ⟨h2.le,h2.g,λq=>?_,h2.l⟩)
 by_cases e:q=t
 . subst e;simp only[Np_,SimT,D5_];exact h1.inv_val
 . simp only[Tp_ e];exact h2.f q
theorem H0_{tb:Tb}{ti td:TI}{k k':IntKind}{a:Int}(ht:tbB P tb=true)(hx:evP fF x = .int k a)(hti:lkT tb T=some ti)(htd:lkT tb T'=some td)(hk:td.k = .int k')(h:k'.min<=a/\a<=k'.max):Qy P N H0 ⟨fF,fL⟩ (.convert T T' x) ty (.int k' a):=λF H L ha=>
 ⟨_,Sim.int h.1 h.2,λ_ _ _=>lo_conv_in (ha.ev hx).sim.inv_int.1 (Eq_ ht hti).isSome ((Eq_ ht htd).int hk) h⟩
theorem rm{tb:Tb}{rs:List ResultVar}{res:PV}{b b' T:Nat}{post q ps:List PV}{as0 bs:List Nat}(h:Lr_ tb ⟨fF,fL⟩ rs=some (ps,as0,bs))(he:as0=bs)(hp:PLe (tupP ps) res)(hb:fL 0 = .box b' T q)(hbb:b'=b)(hn:Ds_ q=true)(hq:PLes q post):Hd P n N H0 (rmK tb rs res b T post) (.ex .ret) [] ⟨fF,fL⟩:=⟨⟨.inr Y,ps,as0,bs,h,he,hp⟩,q,by simp only[hb,hbb],hn,hq⟩
theorem rmn{tb:Tb}{rs:List ResultVar}{res:PV}{b b' T:Nat}{post q ps:List PV}{as0 bs:List Nat}(h:Lr_ tb ⟨fF,fL⟩ rs=some (ps,as0,bs))(he:as0=bs)(hp:PLe (tupP ps) res)(hb:fL 0 = .box b' T q)(hbb:b'=b)(hn:Ds_ q=true)(hq:PLes q post):Hd P n N H0 (rmK tb rs res b T post) (.ex .normal) [] ⟨fF,fL⟩:=⟨⟨.inl Y,ps,as0,bs,h,he,hp⟩,q,by simp only[hb,hbb],hn,hq⟩
theorem A3_{f:FuncId}{args pre post:List PV}{res:PV}{as0:Array Operand}{ats:Array TypeId}{i b b' T0 off:Nat}(h:Fm P H0.g f args T0 pre res post)(ha:argsP fF x as0.toList=some (f, .own i b off::args))(hoff:off=0)(hb:fL i = .box b' T0 pre)(hbb:b'=b)(hd:Nat.blt d n=true)(k:res.wf->PV.wfs post->K ⟨updp fF d res,lups fL i (.box b T0 post)⟩):E1 P n N H0 all ⟨some d, .call ⟨.value x,as0,ats⟩,ty,pos,af,none⟩ (some i) ⟨fF,fL⟩ K:=by
 intro F H L hab;subst hoff;subst hbb;have⟨us,h1,h2⟩:=Jk_ (ats:=ats) hab.f ha h.cb;obtain⟨v0,vs,rfl,h3,h4⟩:=h1.inv_cons;have h5:=h3.inv_own;subst h5;have h6:=hab.l i;dsimp only at h6;rw[hb] at h6;have⟨vc,hL,hsv⟩:=h6;intro a w hA hm;rw[if_pos pH];unfold BG;rw[hA.eval,h2];refine (h.run N H L w b' i vs vc hab.g h4 hL hsv.sims hm).mono λe' w' ⟨v,H',vc',he,hv,hp,hl,hm'⟩=>?_;subst he;refine⟨_,H',_,hA.put pI v,hm',hl,only,_,Abs.put (p:=res) ((hab.mono hl).turnB (B:= .box b' T0 post) i Z ⟨vc',rfl,Hz_ hp h.np⟩) d (hv.simT h.no),k hv.wf hp.wf⟩
theorem rb{tb:Tb}{rs:List ResultVar}{b b' j off T:Nat}{post q:List PV}(h:Lr_ tb ⟨fF,fL⟩ rs=some ([.own j b off],[],[]))(ho:off=0)(hb:fL j = .box b' T q)(hbb:b'=b)(hn:Ds_ q=true)(hq:PLes q post):Hd P n N H0 (rbK tb rs T post) (.ex .ret) [] ⟨fF,fL⟩:=⟨.inr Y,j,b,q,by simp only[h,ho],by simp only[hb,hbb],hn,hq⟩
theorem ecallb{f:FuncId}{args post:List PV}{as0:Array Operand}{ats:Array TypeId}{T0:Nat}(i:Nat)(h:Fb P H0.g f args T0 post)(ha:argsP fF x as0.toList=some (f,args))(hd:Nat.blt d n=true)(k:PV.wfs post->∀ b,K ⟨updp fF d (.own i b 0),lups fL i (.box b T0 post)⟩):E1 P n N H0 all ⟨some d, .call ⟨.value x,as0,ats⟩,ty,pos,af,none⟩ (some i) ⟨fF,fL⟩ K:=by
 intro F H L hab;have⟨us,h1,h2⟩:=Jk_ (ats:=ats) hab.f ha h.cb;intro a w hA hm;rw[if_pos pH];unfold BG;rw[hA.eval,h2];refine (h.run N H L w i us hab.g h1 hm).mono λe' w' ⟨b,H',vc',he,hp,hl,hm'⟩=>?_;subst he;refine⟨_,H',_,hA.put pI _,hm',hl,only,_,Abs.put (p:= .own i b 0) ((hab.mono hl).turnB (B:= .box b T0 post) i Z ⟨vc',rfl,Hz_ hp h.np⟩) d Sim.own,k hp.wf b⟩
theorem cndT{c:Operand}{x y:Code}{b:Bool}(hc:evP fF c = .bool b)(hb:b=true)(k:Hd P n N H0 Q (.code x) ks ⟨fF,fL⟩):Hd P n N H0 Q (.code (.cond c x y)) ks ⟨fF,fL⟩:=cnd hc (λ_=>k) (λe=>by rw[hb] at e;cases e)
theorem cndF{c:Operand}{x y:Code}{b:Bool}(hc:evP fF c = .bool b)(hb:b=false)(k:Hd P n N H0 Q (.code y) ks ⟨fF,fL⟩):Hd P n N H0 Q (.code (.cond c x y)) ks ⟨fF,fL⟩:=cnd hc (λe=>by rw[hb] at e;cases e) (λ_=>k)
theorem rt1{tb:Tb}{rs:List ResultVar}{res p:PV}{as0 bs:List Nat}(h:Lr_ tb ⟨fF,fL⟩ rs=some ([p],as0,bs))(he:as0=bs)(hp:PLe p res):Hd P n N H0 (rtK tb rs res) (.ex .ret) [] ⟨fF,fL⟩:=rt h he hp
theorem rt2{tb:Tb}{rs:List ResultVar}{res p q:PV}{as0 bs:List Nat}(h:Lr_ tb ⟨fF,fL⟩ rs=some ([p,q],as0,bs))(he:as0=bs)(hp:PLe (.tup [p,q]) res):Hd P n N H0 (rtK tb rs res) (.ex .ret) [] ⟨fF,fL⟩:=rt h he hp
theorem rt3{tb:Tb}{rs:List ResultVar}{res p q r:PV}{as0 bs:List Nat}(h:Lr_ tb ⟨fF,fL⟩ rs=some ([p,q,r],as0,bs))(he:as0=bs)(hp:PLe (.tup [p,q,r]) res):Hd P n N H0 (rtK tb rs res) (.ex .ret) [] ⟨fF,fL⟩:=rt h he hp
theorem freeze{i t b b' off T0:Nat}{cs:List PV}(hF:fF t = .own i b off)(hL:fL i = .box b' T0 cs)(hbb:b'=b)(hn:Ds_ cs=true)(k:Hd P n N H0 Q (.ops all rest) ks ⟨updp fF t (.el cs off),lups fL i .no⟩):Hd P n N H0 Q (.ops all rest) ks ⟨fF,fL⟩:=by
 intro F H L ha;exact ow_giveO i Y λH' hl hg=>k _ _ _ (ha.freeze hF hL hbb hn hl hg)
theorem freezec{i t b b' off T0:Nat}{cs:List PV}{c:Code}(hF:fF t = .own i b off)(hL:fL i = .box b' T0 cs)(hbb:b'=b)(hn:Ds_ cs=true)(k:Hd P n N H0 Q (.code c) ks ⟨updp fF t (.el cs off),lups fL i .no⟩):Hd P n N H0 Q (.code c) ks ⟨fF,fL⟩:=by
 intro F H L ha;exact cw_giveO i Y λH' hl hg=>k _ _ _ (ha.freeze hF hL hbb hn hl hg)
theorem qpeq{x y:Operand}{T T' ty i b o:Nat}{e:TypeId}(hT:P.underlying T=some (.pointer e))(hx:evP fF x = .own i b o)(hy:evP fF y = .val (.pointer none)):Qy P N H0 ⟨fF,fL⟩ (.binOp .eql T x y T') ty (.bool false):=λF H L ha=>
 ⟨_,Sim.bool,λ_ _ _=>lo_peq_nil (ha.ev hx).sim.inv_own (ha.ev hy).sim.inv_val hT⟩
theorem qpne{x y:Operand}{T T' ty i b o:Nat}{e:TypeId}(hT:P.underlying T=some (.pointer e))(hx:evP fF x = .own i b o)(hy:evP fF y = .val (.pointer none)):Qy P N H0 ⟨fF,fL⟩ (.binOp .neq T x y T') ty (.bool true):=λF H L ha=>
 ⟨_,Sim.bool,λ_ _ _=>lo_pne_nil (ha.ev hx).sim.inv_own (ha.ev hy).sim.inv_val hT⟩
theorem rm1{tb:Tb}{rs:List ResultVar}{res p:PV}{b b' T:Nat}{post q:List PV}{as0 bs:List Nat}(h:Lr_ tb ⟨fF,fL⟩ rs=some ([p],as0,bs))(he:as0=bs)(hp:PLe p res)(hb:fL 0 = .box b' T q)(hbb:b'=b)(hn:Ds_ q=true)(hq:PLes q post):Hd P n N H0 (rmK tb rs res b T post) (.ex .ret) [] ⟨fF,fL⟩:=rm h he hp hb hbb hn hq
theorem rm0n{tb:Tb}{rs:List ResultVar}{res:PV}{b b' T:Nat}{post q:List PV}{as0 bs:List Nat}(h:Lr_ tb ⟨fF,fL⟩ rs=some ([],as0,bs))(he:as0=bs)(hp:PLe (.tup []) res)(hb:fL 0 = .box b' T q)(hbb:b'=b)(hn:Ds_ q=true)(hq:PLes q post):Hd P n N H0 (rmK tb rs res b T post) (.ex .normal) [] ⟨fF,fL⟩:=rmn h he hp hb hbb hn hq
theorem V0_{f:FuncId}{args pre:List PV}{res:PV}{x:Operand}{xs:Array Operand}{ats:Array TypeId}{ty d j i b b' T0 off:Nat}{want g:Bool}{pos:String}{af:Array Edge}(hg:gOp ⟨fF,fL⟩ all j want=some g)(h:g=true->Fm P H0.g f args T0 pre res pre)(ha:argsP (strG (P5_ xs.toList) fF) x xs.toList=some (f, .own i b off::args))(hoff:off=0)(hb:fL i = .box b' T0 pre)(hbb:b'=b)(hno:Qa_ fF (P5_ xs.toList)=true)(hd:Nat.blt d n=true)(k:(g=true->res.wf)->Hd P n N H0 Q (.ops all rest) ks ⟨updp fF d (.gv g res),fL⟩)(hc:AllP (Vc_ fF g (P5_ xs.toList) []):=by exact aG):Hd P n N H0 Q (.ops all (⟨some d, .call ⟨.value x,xs,ats⟩,ty,pos,af,some (j,want)⟩::rest)) ks ⟨fF,fL⟩:=by
 intro F H L hab;subst hoff;subst hbb;have⟨c,bb,hy,hge⟩:=T1_ hab hg;refine ow_gd hy hd (λe=>?_) (λe=>?_);have hgt:=hge.trans e;have hF:=h hgt;have⟨us,h1,h2⟩:=Jk_ (ats:=ats) (Ri_ hab.f (λt ht c v e=>(Lv_ hc).2 t ht c v e hgt) (Kn_ hno)) ha hF.cb;obtain⟨v0,vs,rfl,h3,h4⟩:=h1.inv_cons;have h5:=h3.inv_own;subst h5;have h6:=hab.l i;dsimp only at h6;rw[hb] at h6;have⟨vc,hL,hsv⟩:=h6;intro a w hA hm;rw[if_pos pH];unfold BG;rw[hA.eval,h2];refine (hF.run N H L w b' i vs vc hab.g h4 hL hsv.sims hm).mono λe' w' ⟨v,H',vc',he,hv,hp,hl,hm'⟩=>?_;subst he;refine⟨_,_,_,hA.put pI v,hm',?_⟩;refine k (λ_=>hv.wf) _ _ _ ?_;have hab':=(hab.mono hl).turnB (B:= .box b' T0 pre) i Z (x:=some (b',bx T0 vc')) ⟨vc',rfl,Hz_ hp hF.np⟩;rw[lups_self hb] at hab';refine hab'.put d ?_;rw[hgt];exact Sim.gvt hv;exact xA
theorem M3_{α:Type}{f:FuncId}{args:List PV}{res:Value->PV}{k e:Nat}{enc:α->List PV}{xs:List α}{as0:Array Operand}{ats:Array TypeId}(i:Nat)(h:Fo P H0.g f args res k e enc xs)(ha:argsP fF x as0.toList=some (f,args))(hd:Nat.blt d n=true)(kk:∀ u,(res u).wf->K ⟨updp (N2_ i fF) d (res u),lups (Kt_ i fL) i (.arr u k e enc xs)⟩):E1 P n N H0 all ⟨some d, .call ⟨.value x,as0,ats⟩,ty,pos,af,none⟩ (some i) ⟨fF,fL⟩ K:=by
 intro F H L hab;have⟨us,h1,h2⟩:=Jk_ (ats:=ats) hab.f ha h.cb;intro a w hA hm;rw[if_pos pH];unfold BG;rw[hA.eval,h2];refine (h.run N H L w i us hab.g h1 hm).mono λe' w' ⟨v,H',en,u,he,hv,hB,hl,hm'⟩=>?_;subst he;exact⟨_,H',_,hA.put pI v,hm',hl,only,_,Abs.put (p:=res u) ((hab.mono hl).turn i (B:= .arr u k e enc xs) (x:=en) hB) d (hv.simT (h.no u)),kk u hv.wf⟩
theorem Nk_{α:Type}{t k e:Nat}{u:Value}{enc:α->List PV}{xs:List α}(i:Nat)(hF:fF t = .val u)(hL:fL i = .arr u k e enc xs)(kk:Hd P n N H0 Q (.ops all rest) ks ⟨updp fF t (.osl i),fL⟩):Hd P n N H0 Q (.ops all rest) ks ⟨fF,fL⟩:=λF H L ha=>kk F H L (val_osl ha hF hL)
theorem Zu_{α:Type}{t k e:Nat}{u:Value}{enc:α->List PV}{xs:List α}{c:Code}(i:Nat)(hF:fF t = .val u)(hL:fL i = .arr u k e enc xs)(kk:Hd P n N H0 Q (.code c) ks ⟨updp fF t (.osl i),fL⟩):Hd P n N H0 Q (.code c) ks ⟨fF,fL⟩:=λF H L ha=>kk F H L (val_osl ha hF hL)
theorem Io_{α:Type}{t i k e:Nat}{u:Value}{enc:α->List PV}{xs:List α}{c:Code}(hF:fF t = .osl i)(hL:fL i = .arr u k e enc xs)(kk:Hd P n N H0 Q (.code c) ks ⟨updp fF t (.val u),fL⟩):Hd P n N H0 Q (.code c) ks ⟨fF,fL⟩:=λF H L ha=>kk F H L (osl_val ha hF hL)
theorem ro1{α:Type}{tb:Tb}{rs:List ResultVar}{u:Value}{k e j:Nat}{enc:α->List PV}{xs xs':List α}{as0 bs:List Nat}(h:Lr_ tb ⟨fF,fL⟩ rs=some ([.val u],as0,bs))(he:as0=bs)(hL:fL j = .arr u k e enc xs')(hx:xs'=xs):Hd P n N H0 (foK tb rs (λu=> .val u) k e enc xs) (.ex .ret) [] ⟨fF,fL⟩:=⟨u,j,⟨.inr Y,_,as0,bs,h,he,ple Y⟩,by simp only[hL,hx]⟩
theorem qmaxN{as0:Array Operand}{k:IntKind}{z r:Int}(zs:List Int){ats:Array TypeId}(hx:evPs fF as0.toList=(z::zs).map (PV.int k))(hr:zs.foldl max z=r)(hq:k.min<=r/\r<=k.max):Qy P N H0 ⟨fF,fL⟩ (.call ⟨.builtin .max,as0,ats⟩) ty (.int k r):=λF H L hab=>by
 have h1:=evs_ints hab _ _ hx
 refine⟨_,Sim.int hq.1 hq.2,λH' L' _=>?_⟩
 have :=lo_maxN (P:=P) (N:=N) (F:=F) (H:=H') (L:=L') (ty:=ty) (ats:=ats) zs h1 hr
 exact sY
theorem ecallg{f:FuncId}{args:List PV}{res:PV}{x:Operand}{xs:Array Operand}{ats:Array TypeId}{ty d j:Nat}{want g:Bool}{pos:String}{af:Array Edge}(hg:gOp ⟨fF,fL⟩ all j want=some g)(h:g=true->Fn P H0.g f args res)(ha:argsP (strG (P5_ xs.toList) fF) x xs.toList=some (f,args))(hno:Qa_ fF (P5_ xs.toList)=true)(hd:Nat.blt d n=true)(k:(g=true->res.wf)->K ⟨updp fF d (.gv g res),fL⟩)(hc:AllP (Vc_ fF g (P5_ xs.toList) []):=by exact aG):E1 P n N H0 all ⟨some d, .call ⟨.value x,xs,ats⟩,ty,pos,af,some (j,want)⟩ none ⟨fF,fL⟩ K:=by
 intro F H L hab;have⟨c,b,hy,hge⟩:=T1_ hab hg;refine op1_gd3 hy hd (λe=>?_) (λe=>?_);have hgt:=hge.trans e;have hF:=h hgt;have⟨vs,h1,h2⟩:=Jk_ (ats:=ats) (Ri_ hab.f (λt ht c v e=>(Lv_ hc).2 t ht c v e hgt) (Kn_ hno)) ha hF.cb;refine op1_ph (hF.ph hab.g h1) h2 hd λv H' hv hl=>⟨hl,λ_ _=>rfl,_,(hab.mono hl).put (p:= .gv g res) d ?_,k λ_=>hv.wf⟩;rw[hgt];exact Sim.gvt hv;have hgf:=hge.trans e;refine⟨.refl H,λ_ _=>rfl,_,hab.put (p:= .gv g res) d ?_,k λe=>by rw[hgf] at e;cases e⟩
 rw[hgf];exact Sim.gvf
theorem ungd{od:Option Nat}{op:Op}{ty j:Nat}{pos:String}{af:Array Edge}{want g:Bool}(hg:gOp ⟨fF,fL⟩ all j want=some g)(ht:g=true)(k:Hd P n N H0 Q (.ops all (⟨od,op,ty,pos,af,none⟩::rest)) ks ⟨fF,fL⟩):Hd P n N H0 Q (.ops all (⟨od,op,ty,pos,af,some (j,want)⟩::rest)) ks ⟨fF,fL⟩:=by
 intro F H L hab;have⟨c,b,hy,hge⟩:=T1_ hab hg;have hgt:(c&&gOf b want)=true:=by rw[<- hge];exact ht
 cases c with
 |false=>cases hgt
 |true=>
   have hb:b=want:=by cases b<;>cases want<;>simp_all [gOf]
   intro a w ha hm
   have q:=k F H L hab a w ha hm
   unfold wpList at q ⊢
   have hy':yF all F j=some (.bool b):=hy
   rw[if_pos pH] at q
   rw[if_pos (by simp[Region.wanted,Lu_ ha hy',hb])]
   exact q
theorem ungs{op:Op}{ty j d:Nat}{pos:String}{af:Array Edge}{want g:Bool}(hg:gOp ⟨fF,fL⟩ all j want=some g)(ht:g=false)(hd:Nat.blt d n=true)(k:Hd P n N H0 Q (.ops all rest) ks ⟨updp fF d .junk,fL⟩):Hd P n N H0 Q (.ops all (⟨some d,op,ty,pos,af,some (j,want)⟩::rest)) ks ⟨fF,fL⟩:=by
 intro F H L hab;have⟨c,b,hy,hge⟩:=T1_ hab hg;refine ow_gd hy hd (λe=>?_) (λe=>?_);grind;exact k _ _ _ (hab.put d .junk)
theorem Wm_{tb:Tb}{ti:TI}{e:Nat}(ht:tbB P tb=true)(hx:evP fF x = .val (.slice none 0 0))(hti:lkT tb T=some ti)(htk:ti.k = .slc e):Qy P N H0 ⟨fF,fL⟩ (.call ⟨.builtin .len,#[x],#[T]⟩) ty (.int .i64 0):=λF H L ha=>by
 have h1:=(Dn_ ha.f x).sim
 rw[hx] at h1
 exact⟨.int .i64 0,Sim.int qZ qZ,λ_ _ _=>Uk_ h1.inv_val ((Eq_ ht hti).slc htk)⟩
theorem Wl_{tb:Tb}{ti:TI}{e:Nat}(ht:tbB P tb=true)(hx:evP fF x = .val (.slice none 0 0))(hti:lkT tb T=some ti)(htk:ti.k = .slc e):Qy P N H0 ⟨fF,fL⟩ (.call ⟨.builtin .cap,#[x],#[T]⟩) ty (.int .i64 0):=λF H L ha=>by
 have h1:=(Dn_ ha.f x).sim
 rw[hx] at h1
 exact⟨.int .i64 0,Sim.int qZ qZ,λ_ _ _=>lo_cap_sl h1.inv_val ((Eq_ ht hti).slc htk)⟩
theorem qcut0{tb:Tb}{ti te:TI}{e:Nat}{k:IntKind}{i:Int}(ht:tbB P tb=true)(hx:evP fF x = .val (.slice none 0 0))(hy:evP fF y = .int k i)(hti:lkT tb T=some ti)(htk:ti.k = .slc e)(hte:lkT tb e=some te)(hi:i=0:=by exact qX):Qy P N H0 ⟨fF,fL⟩ (.slice T x none (some y) none) ty (.val (.slice none 0 0)):=λF H L ha=>by
 have h1:=(Dn_ ha.f x).sim
 rw[hx] at h1
 have h2:=(Dn_ ha.f y).sim
 rw[hy] at h2
 exact⟨_,Sim.val,λ_ _ _=>V8_ h1.inv_val h2.inv_int.1 ((Eq_ ht hti).slc htk) (Eq_ ht hte).sz hi⟩
theorem appz{tb:Tb}(i:Nat){e m:Nat}{te ti t2:TI}{k1 k2:IntKind}{q:Int}(ht:tbB P tb=true)(hx:evP fF x = .val (.slice none 0 0))(hy:evP fF y = .int k1 q)(hti:lkT tb T=some ti)(htk:ti.k = .slc e)(ht2:lkT tb T2=some t2)(ht2k:t2.k = .int k2)(hte:lkT tb e=some te)(hz:te.zero.length=te.size)(hone:all1 te.zero=true)(hby:Nat.blt 0 te.bytes=true)(hq:q=(m:Int))(hm0:0<m)(hbd:m*te.bytes<=140737488355328)(hd:Nat.blt d n=true)(hno:fL i = .no)(kk:∀ u',K ⟨updp (N2_ i fF) d (.osl i),lups (Kt_ i fL) i (.arr u' te.size e (jrow te.size) (List.replicate m ()))⟩):E1 P n N H0 all ⟨some d, .call ⟨.builtin .append,#[x,y],#[T,T2]⟩,ty,pos,af,none⟩ (some i) ⟨fF,fL⟩ K:=by
 intro F H L ha;have h1:=(Dn_ ha.f x).sim;rw[hx] at h1;have h2:=(Dn_ ha.f y).sim;rw[hy] at h2;have⟨zv,hzv,hs⟩:=(Eq_ ht hte).zero;have hok:=Eq_ ht hte;have hby':0<te.bytes:=by simpa using hby
 have hall:=U8_ (hs H) hone;have hlen:m<=140737488355328:=AK (BQ _ hby') hbd;exact op1_appz2 i h1.inv_val h2.inv_int.1 ((Eq_ ht hti).slc htk) ((Eq_ ht ht2).int ht2k) hok.sz hok.by_ hby' (zs:=zv.cells.toList) (λw=>⟨zv,hzv w,by simp⟩) (by rw[(hs H).1,hz]) (λu hu=>List.all_eq_true.1 hall u hu) hq hm0 hbd hd λv' en' cs hv' hcs=>⟨.refl H,only,_,(ha.turn i (B:= .arr v' te.size e (jrow te.size) (AJ m ())) ⟨cs,by simpa using hv',rl_junk m cs hv'.1 hcs,by simpa using hlen⟩).put d oI,kk v'⟩
theorem ocut{α β:Type}{tb:Tb}{i e k:Nat}{u:Value}{enc:α->List PV}{xs:List α}{te ti:TI}{k1:IntKind}{q:Int}(enc':β->List PV)(ht:tbB P tb=true)(hx:evP fF x = .osl i)(hb:fL i = .arr u k e enc xs)(hy:evP fF y = .int k1 q)(hti:lkT tb T=some ti)(htk:ti.k = .slc e)(hte:lkT tb e=some te)(hd:Nat.blt d n=true)(kk:∀ u',K ⟨updp (N2_ i fF) d (.osl i),lups (Kt_ i fL) i (.arr u' k e enc' [])⟩)(hq:q=0:=by exact qX):E1 P n N H0 all ⟨some d, .slice T x none (some y) none,ty,pos,af,none⟩ (some i) ⟨fF,fL⟩ K:=by
 intro F H L ha;have h1:=Dn_ ha.f x;unfold Ok1 at h1;rw[hx] at h1;simp only[SimT,hb] at h1;have h2:=(Dn_ ha.f y).sim;rw[hy] at h2;have h3:=ha.l i;dsimp only at h3;rw[hb] at h3;have⟨cs,ho,hr,hm⟩:=h3;have⟨a,c,hv,ho'⟩:=ownV_cut ho;refine Q0_ hd (V8_ (h1.trans hv) h2.inv_int.1 ((Eq_ ht hti).slc htk) (Eq_ ht hte).sz hq) ?_;have hL:lupd L i (L i)=L:=by funext j;by_cases e:j=i;(subst e;exact C4_ _ _ _);exact Cx_ e
 have :=ha.turn i (B:= .arr (.slice a 0 c) k e enc' []) (x:=L i) ⟨[],by simpa using ho',rfl,by simp⟩;rw[hL] at this;exact yC
theorem ecallw{α:Type}{f:FuncId}{args:List PV}{res:Value->PV}{i k e k2 e2:Nat}{enc:α->List PV}{xs ys:List α}{u:Value}{as0:Array Operand}{ats:Array TypeId}(h:Fl P H0.g f args res k e enc xs ys)(hx:evP fF x = .fn f [] [])(ha:evPs fF as0.toList = .osl i::args)(hb:fL i = .arr u k2 e2 enc xs)(hk:k2=k)(he2:e2=e)(hd:Nat.blt d n=true)(kk:∀ u',(res u').wf->K ⟨updp (N2_ i fF) d (res u'),lups (Kt_ i fL) i (.arr u' k e enc ys)⟩):E1 P n N H0 all ⟨some d, .call ⟨.value x,as0,ats⟩,ty,pos,af,none⟩ (some i) ⟨fF,fL⟩ K:=by
 intro F H L hab;subst hk;subst he2;have h1:=(Dn_ hab.f x).sim;rw[hx] at h1;have⟨v1,v2,ex,h2,h3⟩:=h1.inv_fn
 cases h2.inv_nil
 cases h3.inv_nil
 have hsT:=Xf_ (Ls:=fL) (H:=H) (F:=F) (G:=fF) (xs:=as0.toList) λy _=>Dn_ hab.f y;rw[ha] at hsT;have hB:=hab.l i;dsimp only at hB;rw[hb] at hB
 cases hev:evs F as0.toList with
 |nil=>have :=hsT.1;rw[hev] at this;simp at this
 |cons v0 vs=>
   rw[hev] at hsT
   have h4:=hsT.2 0 _ _ Y Y
   simp only[SimT,hb] at h4
   subst h4
   have h5:Sims H args vs:=by
     have⟨q,r,e3,_,q2⟩:=hsT.sims.inv_cons
     cases e3;exact q2
   have hen:En P (.call ⟨.value x,as0,ats⟩) F f (v0::vs).toArray:=by
     exact yO
   intro a w hA hm
   rw[if_pos pH]
   unfold BG
   rw[hA.eval,hen]
   refine (h.run N H L w i v0 vs hab.g hB h5 hm).mono λe' w' ⟨v,H',en,u',he,hv,hB',hl,hm'⟩=>?_
   subst he
   exact⟨_,H',_,hA.put pI v,hm',hl,only,_,Abs.put (p:=res u') ((hab.mono hl).turn i (B:= .arr u' k2 e2 enc ys) (x:=en) hB') d (hv.simT (h.no u')),kk u' hv.wf⟩
theorem next{ι:Type _}{keep kL:List Nat}{G:Nat->PV}{GL:Nat->Blk}{lv:ι->List (Nat×PV)}{lL:ι->List (Nat×Blk)}{Φ:ι->Prop}{μ:ι->Nat}{m:Nat}{ks:List Kt}{Q:Qs}(x':ι)(h1:keep.map fF=keep.map G)(h2:kL.map fL=kL.map GL)(h3:AllF fF (lv x'))(h4:AllL fL (lL x'))(hm:μ x'<m)(hΦ:Φ x'):Hd P n N H0 Q (.ex .normal) (.lp (LJ (λx=>⟨mkF (lv x) keep G,mkL (lL x) kL GL⟩) Φ μ m)::ks) ⟨fF,fL⟩:=⟨x',hΦ,hm,mk_le (s:=⟨fF,fL⟩) h1 h2 h3 h4⟩
theorem go{tb:Tb}(ht:tbB P tb=true)(k:Nat){c c':Cf}{ks':List Kt}{F':Nat->PV}{L':Nat->Blk}{ps:List Prop}{as0 bs:List Nat}(h:run tb n k c ks fF fL [] [] []=some ⟨c',ks',F',L',ps,as0,bs⟩)(he:as0=bs)(hp:AllP ps)(next :Hd P n N H0 Q c' ks' ⟨F',L'⟩):Hd P n N H0 Q c ks ⟨fF,fL⟩:=SW.go ht k h he hp next
theorem gov{tb:Tb}(ht:tbB P tb=true)(order:List Nat)(f:Nat){xs:Option (List Nat)}{fuel:Nat}{listed:Array Bool}{F':Nat->PV}{L':Nat->Blk}{ps:List Prop}{as0 bs:List Nat}(hf:fuel=f+order.length)(hc:chkV n all order listed=true)(h:runV tb xs all order fF fL [] [] []=some ⟨F',L',ps,as0,bs⟩)(he:as0=bs)(hp:AllP ps)(next :Hv P n N H0 Q xs all f (lst listed order) ks ⟨F',L'⟩):Hv P n N H0 Q xs all fuel listed ks ⟨fF,fL⟩:=SW.gov ht order f hf hc h he hp next
end Go.SW.V
namespace Go.SW
theorem T4_{i:In}{n:Int}(h:(F6_ i n).2.err=0):i.err=0/\((F6_ i n).1.length:Int)=max n 0/\i.s=(F6_ i n).1++(F6_ i n).2.s:=by
 unfold F6_ at *
 split at h
 . rename_i hc
   rw[if_pos hc]
   exact yR
 . rename_i hc
   rw[if_neg hc]
   split at h
   . cases h
   . rename_i hl
     rw[if_neg hl]
     exact yR
theorem Pk_{i:In}{b:Int}(h:(Ah_ i b).2.err=0):i.err=0/\(i.s.length:Int)=max (min b 8) 0+(Ah_ i b).2.s.length:=by
 have⟨h1,h2,h3⟩:=T4_ (i:=i) (n:=min b 8) h;refine⟨h1,?_⟩;have :=congrArg E5 h3;rw[A4] at this;simp only[Ah_];omega
theorem Ly_{i:In}{c:Int}(hc:c≠0)(h:(B1_ i c).err=0):False:=by
 unfold B1_ at h
 split at h
 exact hc h
 . rename_i hn;exact hn ⟨h,hc⟩
theorem Or_{i:In}{m:Int}(h:(Ag_ i m).2.err=0):i.err=0/\(i.s.length:Int)=2+(Ag_ i m).1.length+(Ag_ i m).2.s.length/\((Ag_ i m).1.length:Int)<=max m 0:=by
 unfold Ag_ at *;have⟨h1,h2,h3⟩:=T4_ h
 split at h1
 exact zE
 . rename_i hm
   rw[if_neg hm] at h2 h3 ⊢
   have⟨k1,k2⟩:=Pk_ h1
   have hr:=B9_ i 2
   have :=congrArg E5 h3
   rw[A4] at this
   refine⟨k1,by omega,by omega⟩
theorem C7_(i:In)(m:Int):((Ag_ i m).1.length:Int)<=65535:=by
 have h:=Xs_ (if m<(Ah_ i 2).1 then B1_ (Ah_ i 2).2 5 else (Ah_ i 2).2) (Ah_ i 2).1
 have hr:=B9_ i 2;unfold Ag_;omega
structure Feed where
 rest:Bs
 err:Int
def Feed.cells(f:Feed):List Value:=[str f.rest, .int .i64 f.err]
def mt:List Bs->List Bs->Bool
 |[],k=>k.isEmpty
 |w::p,k=>if w=[35] then (List.range (k.length+1)).any (λf=>mt p (k.drop f)) else match k with
   |[]=>false
   |x::r=>(decide (w=[42]) || decide (w=x))&&mt p r
theorem Vq_{p k:List Bs}:mt ([35]::p) k=true↔∃ f,mt p (k.drop f)=true:=by
 simp only[mt,if_true,List.any_eq_true,G6];constructor;rintro⟨f,_,h⟩;exact⟨f,h⟩;rintro⟨f,h⟩;by_cases hf:f<k.length+1;exact⟨f,hf,h⟩;refine⟨k.length,by omega,?_⟩;rw[A9 qX] at h;rw[A9 qX];exact h
theorem Ys_{w:Bs}{p k:List Bs}(hw:w≠[35]):mt (w::p) k=true↔∃ x r,k=x::r/\(w=[42]\/w=x)/\mt p r=true:=by
 simp only[mt,if_neg hw]
 cases k with
 |nil=>simp
 |cons x r=>
   constructor
   . intro h;simp at h;exact⟨x,r,rfl,h.1,h.2⟩
   . rintro⟨x',r',e,h1,h2⟩;cases e;simp[h1,h2]
structure MI(p k:List Bs)(i j:Nat)(b:Int)(f:Nat):Prop where
 hi:i<=p.length
 hj:j<=k.length
 hf:f<=j
 hb:-1<=b
 hbi:b<=i
 no:b<0->(mt p k=true↔mt (p.drop i) (k.drop j)=true)
 seg:0<=b->j=f+(i-b.toNat)
 go:0<=b->(mt p k=true↔∃ g,f<=g/\mt (p.drop b.toNat) (k.drop g)=true)
 fw:0<=b->∀ g,mt (p.drop b.toNat) (k.drop g)=true->mt (p.drop i) (k.drop (g+(i-b.toNat)))=true
 bw:0<=b->mt (p.drop i) (k.drop j)=true->mt (p.drop b.toNat) (k.drop f)=true
theorem MI.start(p k:List Bs):MI p k 0 0 (-1) 0:=
 ⟨Nat.zero_le _,B5 _,B5 _,by omega,by omega,λ_=>by simp,λh=>absurd h qZ,λh=>absurd h qZ,λh=>absurd h qZ,λh=>absurd h qZ⟩
theorem MI.hash{p k:List Bs}{i j f:Nat}{b:Int}(h:MI p k i j b f)(hp:p[i]? = some [35]):MI p k (i+1) j ((i:Int)+1) j:=by
 have hi:i<p.length:=(List.getElem?_eq_some_iff.1 hp).1;have hd:=D9_ hp;have e1:((i:Int)+1).toNat=i+1:=by omega
 refine⟨hi,h.hj,AX _,by omega,by omega,λq=>absurd q qX,λ_=>by omega,λ_=>?_,λ_ g hg=>?_,λ_ hg=>?_⟩;rw[e1];by_cases hb:b<0;rw[h.no hb,hd,Vq_];constructor;rintro⟨g,hg⟩;rw[BZ] at hg;exact⟨j+g,by omega,hg⟩;rintro⟨g,hle,hg⟩;exact uZ;have hs:=h.seg qX;rw[h.go qX];constructor;rintro⟨g,hle,hg⟩;have :=h.fw qX g hg;rw[hd,Vq_] at this;have⟨f',hf'⟩:=this;rw[BZ] at hf';exact⟨_,by omega,hf'⟩;rintro⟨g,hle,hg⟩;refine⟨f,AX _,h.bw qX ?_⟩;rw[hd,Vq_];exact uZ;rw[e1] at hg ⊢;rw[D3];exact hg;rw[e1];exact hg
theorem MI.step{p k:List Bs}{i j f:Nat}{b:Int}{w x:Bs}(h:MI p k i j b f)(hp:p[i]? = some w)(hk:k[j]? = some x)(hw:w≠[35])(hm:w=[42]\/w=x):MI p k (i+1) (j+1) b f:=by
 have hi:i<p.length:=(List.getElem?_eq_some_iff.1 hp).1;have hj:j<k.length:=(List.getElem?_eq_some_iff.1 hk).1;have hd:=D9_ hp;have hkd:=D9_ hk;have hbi:=h.hbi;have one:mt (p.drop i) (k.drop j)=true↔mt (p.drop (i+1)) (k.drop (j+1))=true:=by
   rw[hd,hkd,Ys_ hw]
   constructor
   . rintro⟨x',r,e,_,hr⟩;cases e;exact hr
   . intro hr;exact⟨_,_,rfl,hm,hr⟩
 refine⟨hi,hj,by have :=h.hf;omega,h.hb,by omega,λq=>(h.no q).trans one,λq=>by have :=h.seg q;omega,h.go,λq g hg=>?_,λq hg=>h.bw q (one.2 hg)⟩;have :=h.fw q g hg;rw[hd,Ys_ hw] at this;have⟨x',r,e,_,hr⟩:=this;have e2:k.drop (g+(i+1-b.toNat))=r:=by
   rw[show g+(i+1-b.toNat)=(g+(i-b.toNat))+1 by omega,<- BZ,e];rfl
 rw[e2];exact hr
theorem MI.bad{p k:List Bs}{i j f:Nat}{b:Int}{x:Bs}(_:MI p k i j b f)(hk:k[j]? = some x)(hm:∀ w,p[i]? = some w->w≠[35]/\w≠[42]/\w≠x):mt (p.drop i) (k.drop j)=false:=by
 rw[D9_ hk]
 cases hp:p[i]? with
 |none=>
   have :p.length<=i:=List.getElem?_eq_none_iff.1 hp
   rw[A9 this];rfl
 |some w=>
   have⟨h1,h2,h3⟩:=hm w hp
   rw[D9_ hp]
   cases q:mt (w::p.drop (i+1)) (x::k.drop (j+1)) with
   |false=>rfl
   |true=>
     have⟨x',r,e,hh,_⟩:=(Ys_ h1).1 q
     cases e
     rcases hh with hh|hh
     . exact absurd hh h2
     . exact absurd hh h3
theorem MI.back{p k:List Bs}{i j f:Nat}{b:Int}{x:Bs}(h:MI p k i j b f)(hk:k[j]? = some x)(hb:0<=b)(hm:∀ w,p[i]? = some w->w≠[35]/\w≠[42]/\w≠x):MI p k b.toNat (f+1) b (f+1):=by
 have hj:j<k.length:=(List.getElem?_eq_some_iff.1 hk).1;have hbad:=h.bad hk hm;have h1:=h.hf;have h2:=h.hi;have h3:=h.hbi;refine⟨by omega,by omega,AX _,h.hb,by omega,λq=>absurd q qX,λ_=>by omega,λ_=>?_,λ_ g hg=>?_,λ_ hg=>hg⟩;rw[h.go hb];constructor;rintro⟨g,hle,hg⟩;by_cases e:g=f
 . subst e
   have :=h.fw hb g hg
   rw[<- h.seg hb,hbad] at this;cases this
 exact⟨g,by omega,hg⟩;rintro⟨g,hle,hg⟩;exact⟨g,by omega,hg⟩;rw[D3];exact hg
theorem MI.none{p k:List Bs}{i j f:Nat}{b:Int}{x:Bs}(h:MI p k i j b f)(hk:k[j]? = some x)(hb:b<0)(hm:∀ w,p[i]? = some w->w≠[35]/\w≠[42]/\w≠x):mt p k=false:=by
 have hbad:=h.bad hk hm
 cases q:mt p k with
 |false=>rfl
 |true=>rw[(h.no hb).1 q] at hbad;cases hbad
theorem MI.fin{p k:List Bs}{i j f:Nat}{b:Int}(h:MI p k i j b f)(hj:k.length<=j):mt p k=mt (p.drop i) []:=by
 rw[AU];have e:k.drop j=[]:=A9 hj;by_cases hb:b<0;rw[h.no hb,e];have hs:=h.seg qX;rw[h.go qX];constructor;rintro⟨g,hle,hg⟩;have :=h.fw qX g hg;have e2:k.drop (g+(i-b.toNat))=[]:=A9 qX;rw[e2] at this;exact this;intro hg;exact⟨f,AX _,h.bw qX (by rw[e];exact hg)⟩
theorem mt_end{p:List Bs}{i:Nat}{m:Bool}(h:m=mt (p.drop i) [])(hp:p[i]? = some [35]):m=mt (p.drop (i+1)) []:=by
 rw[h,D9_ hp,AU,Vq_];simp
theorem mt_endN{p:List Bs}{i:Nat}{w:Bs}(hp:p[i]? = some w)(hw:w≠[35]):mt (p.drop i) []=false:=by
 rw[D9_ hp];simp only[mt,if_neg hw]
def mmu(p k:List Bs)(j:Nat)(b:Int)(f:Nat):Nat:=(p.length+1-(b+1).toNat)*((k.length+1)*(k.length+1))+(k.length-f)*(k.length+1)+(k.length-j)
theorem mmu_hash{p k:List Bs}{i j f:Nat}{b:Int}(h:MI p k i j b f)(hi:i<p.length):mmu p k j ((i:Int)+1) j<mmu p k j b f:=by
 have h1:=h.hbi;have h2:=h.hb;unfold mmu;have e:p.length+1-(b+1).toNat=(p.length+1-((i:Int)+1+1).toNat)+1+(p.length+1-(b+1).toNat-((p.length+1-((i:Int)+1+1).toNat)+1)):=by omega
 have h3:(k.length-j)*(k.length+1)<=k.length*(k.length+1):=BP _ (Nat.sub_le _ _);have h4:(k.length+1)*(k.length+1)=k.length*(k.length+1)+(k.length+1):=by rw[D7]
 generalize (k.length+1)*(k.length+1)=q at *;rw[e,AV,AV,EA];omega
theorem mmu_step{p k:List Bs}{j f:Nat}{b:Int}(hj:j<k.length):mmu p k (j+1) b f<mmu p k j b f:=by
 unfold mmu;omega
theorem mmu_back{p k:List Bs}{j f:Nat}{b:Int}(hf:f<=j)(hj:j<k.length):mmu p k (f+1) b (f+1)<mmu p k j b f:=by
 unfold mmu;have e:(k.length-f)*(k.length+1)=(k.length-(f+1))*(k.length+1)+(k.length+1):=by
   rw[show k.length-f=(k.length-(f+1))+1 by omega,D7]
 rw[e];omega
theorem beN_app(a b:Bs):beN (a++b)=beN a*256 ^ b.length+beN b:=by
 have key:∀ (b:Bs) (x:Nat),b.foldl (λn c=>n*256+c.toNat) x=x*256 ^ b.length+b.foldl (λn c=>n*256+c.toNat) 0:=by
   intro b
   induction b with
   |nil=>intro x;simp
   |cons c r ih=>
     intro x
     rw[BU,BU,ih (x*256+c.toNat),ih (0*256+c.toNat),A2,D2]
     rw[AV,EL,CJ 256 (256 ^ r.length),EB,B9]
     omega
 unfold beN;rw[FL,key]
theorem beN_numB:∀ (k n:Nat),beN (numB k n)=n%256 ^ k
 |0,n=>by simp[numB,beN,Nat.mod_one]
 |k+1,n=>by
   have ih:=beN_numB k n
   have e:numB (k+1) n=[D6 (n/256 ^ k)]++numB k n:=rfl
   rw[e,beN_app,ih,V_]
   have h1:beN [D6 (n/256 ^ k)]=n/256 ^ k%256:=by simp[beN,BR]
   rw[h1,D2,Nat.mod_mul,CJ]
   omega
theorem numB_beN:∀ (l:Bs),numB l.length (beN l)=l
 |[]=>rfl
 |c::r=>by
   have ih:=numB_beN r
   have hlt:=beN_lt r
   have e:beN (c::r)=c.toNat*256 ^ r.length+beN r:=by
     have :=beN_app [c] r
     simpa [beN] using this
   have hm:∀ (k n m:Nat),k<=m->numB k (n%256 ^ m)=numB k n:=by
     intro k
     induction k with
     |zero=>intros;rfl
     |succ k ih'=>
       intro n m hk
       simp only[numB]
       rw[ih' n m qX]
       congr 1
       apply UInt8.toNat_inj.1
       simp only[BR]
       obtain⟨d,rfl⟩:∃ d,m=k+1+d:=⟨m-(k+1),by omega⟩
       rw[Nat.pow_add,D2,EL,Nat.mod_mul_right_div_self]
       have :(2:Nat) ^ 8=256:=rfl
       rw[this,Nat.mod_mul_right_mod]
   show numB (r.length+1) (beN (c::r))=c::r
   simp only[numB]
   have h1:beN (c::r)/256 ^ r.length=c.toNat:=by
     rw[e,CJ,Nat.mul_add_div (Nat.pow_pos qX),Nat.div_eq_of_lt hlt];rfl
   have h2:beN (c::r)%256 ^ r.length=beN r:=by
     rw[e,CJ,Nat.mul_add_mod,D0 hlt]
   rw[h1,<- hm r.length (beN (c::r)) r.length (AX _),h2,ih]
   simp
theorem Vj_{i:In}{k:Nat}(hk:1<=k)(h8:k<=8)(h:(Ah_ i k).2.err=0):i.err=0/\i.s=numB k (Ah_ i k).1.toNat++(Ah_ i k).2.s:=by
 have⟨h1,h2,h3⟩:=T4_ (i:=i) (n:=min (k:Int) 8) h;have e:min (k:Int) 8=k:=by omega
 rw[e] at h2 h3;refine⟨h1,?_⟩;simp only[Ah_,e];have hl:(F6_ i k).1.length=k:=by omega
 have :=numB_beN (F6_ i k).1;rw[hl] at this;rw[A7,this];exact h3
theorem M6_{i:In}(h:(Ah_ i 1).2.err=0):i.err=0/\i.s=numB 1 (Ah_ i 1).1.toNat++(Ah_ i 1).2.s:=Vj_ (k:=1) qX qX h
theorem inNum_back8{i:In}(h:(Ah_ i 8).2.err=0):i.err=0/\i.s=numB 8 (Ah_ i 8).1.toNat++(Ah_ i 8).2.s:=Vj_ (k:=8) qX qX h
theorem Pl_{i:In}{m:Int}(h:(Ag_ i m).2.err=0):i.err=0/\i.s=numB 2 (Ag_ i m).1.length++((Ag_ i m).1++(Ag_ i m).2.s)/\((Ag_ i m).1.length:Int)<=max m 0/\((Ag_ i m).1.length:Int)<=65535:=by
 have hlen:=C7_ i m;unfold Ag_ at *;have⟨h1,h2,h3⟩:=T4_ h
 split at h1
 exact zE
 . rename_i hm
   rw[if_neg hm] at h2 h3 ⊢
   have⟨k1,k2⟩:=Vj_ (k:=2) qX qX h1
   have hr:=B9_ i 2
   refine⟨k1,?_,by omega,by omega⟩
   rw[k2]
   have e:(Ah_ i ((2:Nat):Int)).1.toNat=(F6_ (Ah_ i 2).2 (Ah_ i 2).1).1.length:=by
     show (Ah_ i 2).1.toNat=_
     omega
   rw[e]
   congr 1
theorem Lz_{r:Bs}{n:Int}{k:Nat}(h8:k<=8)(h0:0<=n)(hn:n<256 ^ k)(hk:1<=k):Ah_ ⟨numB k n.toNat++r,0⟩ k=(n,⟨r,0⟩):=by
 have e:min (k:Int) 8=k:=by omega
 have hl:=V_ k n.toNat;unfold Ah_ F6_;rw[e];have c1:¬((0:Int)≠0\/(k:Int)<=0):=by omega
 have c2:¬(((numB k n.toNat++r).length:Int)<(k:Int)):=by simp[hl];omega
 simp only[if_neg c1,if_neg c2];have e1:(numB k n.toNat++r).take ((k:Int).toNat)=numB k n.toNat:=by
   rw[A7,List.take_append,hl,D3,AZ qX];simp
 have e2:(numB k n.toNat++r).drop ((k:Int).toNat)=r:=by
   rw[A7]
   rw[List.drop_append,hl,D3,A9 qX];rfl
 rw[e1,e2,beN_numB]
 have :n.toNat%256 ^ k=n.toNat:=D0 (by
   have h2:((n.toNat:Nat):Int)<((256 ^ k:Nat):Int):=by
     rw[BD h0];simpa using hn
   exact Int.ofNat_lt.1 h2)
 rw[this,BD h0]
theorem My_{r:Bs}{n:Int}(h0:0<=n)(hn:n<256):Ah_ ⟨numB 1 n.toNat++r,0⟩ 1=(n,⟨r,0⟩):=Lz_ (k:=1) qX h0 qX qX
theorem inNum_fwd4{r:Bs}{n:Int}(h0:0<=n)(hn:n<4294967296):Ah_ ⟨numB 4 n.toNat++r,0⟩ 4=(n,⟨r,0⟩):=Lz_ (k:=4) qX h0 qX qX
theorem Ip_{r:Bs}{n:Int}(h0:0<=n)(hn:n<18446744073709551616):Ah_ ⟨numB 8 n.toNat++r,0⟩ 8=(n,⟨r,0⟩):=Lz_ (k:=8) qX h0 qX qX
theorem Ro_{s r:Bs}{m:Int}(h1:(s.length:Int)<=m)(h2:(s.length:Int)<=65535):Ag_ ⟨numB 2 s.length++(s++r),0⟩ m=(s,⟨r,0⟩):=by
 have e:=Lz_ (r:=s++r) (n:=s.length) (k:=2) qX qX qX qX;rw[A7] at e;unfold Ag_;have e':Ah_ ⟨numB 2 s.length++(s++r),0⟩ 2=((s.length:Int),⟨s++r,0⟩):=e;rw[e'];simp only;rw[if_neg qX];unfold F6_;by_cases hz:s=[];subst hz;simp;have hp:0<s.length:=List.length_pos_iff.2 hz;have c1:¬((0:Int)≠0\/(s.length:Int)<=0):=by omega
 have c2:¬(((s++r).length:Int)<(s.length:Int)):=by simp;omega
 simp only[if_neg c1,if_neg c2];simp
def Bx_(i:In):Pair×In:=
 let a:=Ag_ i 16
 let b:=Ah_ a.2 1
 if b.1=0 then (⟨a.1,0,A0 .i64 (Ah_ b.2 8).1,[]⟩,(Ah_ b.2 8).2)
 else if b.1=1 then (⟨a.1,1,0,(Ag_ b.2 64).1⟩,(Ag_ b.2 64).2)
 else if b.1=2 then (⟨a.1,2,A0 .i64 (Ah_ b.2 1).1,[]⟩,(Ah_ b.2 1).2)
 else (⟨a.1,b.1,0,[]⟩,B1_ b.2 8)
def Iy_:Nat->In->List Pair->List Pair×In
 |0,i,h=>(h,i)
 |k+1,i,h=>
   let p:=Bx_ i
   let j:=if p.2.err=0 then B1_ p.2 (Du_ p.1 h) else p.2
   if j.err≠0 then ([],j) else Iy_ k j (h++[p.1])
def Cd_(i:In):List Pair×In:=Iy_ (Ah_ i 1).1.toNat (if 8<(Ah_ i 1).1 then B1_ (Ah_ i 1).2 6 else (Ah_ i 1).2) []
def Mail.zero:Mail:=⟨0,[],[],[],[],0,0⟩
def Reply.zero:Reply:=⟨0,0,0,0,false,[],Mail.zero⟩
structure RIn where
 s:Bs
 pos:Int
 code:Int
def RIn.cells(i:RIn):List Value:=[str i.s, .int .i64 i.pos, .int .i64 i.code]
def txtB(s:Bs):Bs:=numB 2 s.length++s
def Jo_(p:Pair):Bs:=txtB p.key++(numB 1 p.kind.toNat++(if p.kind=0 then numB 8 (A0 .u64 p.num).toNat else if p.kind=1 then txtB p.text else numB 1 (A0 .u64 p.num).toNat))
theorem Cz_{o:Out}{s:Bs}(h:(s.length:Int)<=65535):O_ o s=⟨o.s++txtB s,o.err⟩:=by
 unfold O_;rw[if_neg qX];have e:numK 2=2:=by decide
 simp[A5_,D_,e,txtB]
theorem outNum_s{o:Out}{n:Int}{k:Nat}(h:k<=8):D_ o n k=⟨o.s++numB k n.toNat,o.err⟩:=by
 simp only[D_,numK];grind
theorem Hb_{o:Out}{n:Int}:D_ o n 1=⟨o.s++numB 1 n.toNat,o.err⟩:=outNum_s (k:=1) qX
theorem Mg_{o:Out}{n:Int}:D_ o n 8=⟨o.s++numB 8 n.toNat,o.err⟩:=outNum_s (k:=8) qX
theorem outNum4{o:Out}{n:Int}:D_ o n 4=⟨o.s++numB 4 n.toNat,o.err⟩:=outNum_s (k:=4) qX
theorem pairOut_s{o:Out}{p:Pair}(h:p.key.length<=16/\p.kind<=2/\(p.kind=1->p.text.length<=64))(h0:0<=p.kind):Is_ o p=⟨o.s++Jo_ p,o.err⟩:=by
 have⟨h1,h2,h3⟩:=h;have hk:((p.key.length:Nat):Int)<=65535:=by omega
 unfold Is_ Jo_;by_cases e0:p.kind=0;rw[if_pos e0,if_pos e0,Cz_ hk,Hb_,Mg_];simp;rw[if_neg e0,if_neg e0];by_cases e1:p.kind=1;have :=h3 e1;rw[if_pos e1,if_pos e1,Cz_ hk,Hb_,Cz_ qX];simp;rw[if_neg e1,if_neg e1,if_pos qX,Cz_ hk,Hb_,Hb_];simp
theorem T0_:∀ {l:List Pair} {o:Out},(∀ p∈l,(p.key.length<=16/\p.kind<=2/\(p.kind=1->p.text.length<=64))/\0<=p.kind)->l.foldl Is_ o=⟨o.s++l.flatMap Jo_,o.err⟩
 |[],o,_=>by simp
 |p::r,o,h=>by
   have hp:=h p pC
   rw[BU,pairOut_s hp.1 hp.2,T0_ (λq hq=>h q oA)]
   simp
theorem S3_{h:List Pair}(e:Dz_ h=0)(h0:∀ p∈h,0<=p.kind):Bv_ h=numB 1 h.length++h.flatMap Jo_:=by
 have⟨h1,h2⟩:=Mm_ e;unfold Bv_ Xo_;rw[if_pos e,T0_ (λp hp=>⟨h2 p hp,h0 p hp⟩),Hb_];simp
theorem wrap_i64u{n:Int}(h0:0<=n)(h1:n<=18446744073709551615):IntKind.wrap .u64 (IntKind.wrap .i64 n)=n:=by
 exact sW
theorem wrap_u64i{n:Int}(h0:-9223372036854775808<=n)(h1:n<=9223372036854775807):IntKind.wrap .i64 (IntKind.wrap .u64 n)=n:=by
 exact sW
theorem Gb_{n:Int}(h0:-9223372036854775808<=n:=by exact qX)(h1:n<=9223372036854775807:=by exact qX):IntKind.wrap .i64 n=n:=by
 exact sW
theorem readOne_back{i:In}(h:(Bx_ i).2.err=0):i.err=0/\i.s=Jo_ (Bx_ i).1++(Bx_ i).2.s/\0<=(Bx_ i).1.kind:=by
 unfold Bx_ at *;simp only at *;have hr:=B9_ (Ag_ i 16).2 1;by_cases e0:(Ah_ (Ag_ i 16).2 1).1=0;rw[if_pos e0] at h ⊢;have⟨a1,a2⟩:=inNum_back8 h;have⟨b1,b2⟩:=M6_ a1;have⟨c1,c2,c3,c4⟩:=Pl_ b1;refine⟨c1,?_,by simp⟩;rw[c2,b2,a2];have hr8:=B9_ (Ah_ (Ag_ i 16).2 1).2 8;simp only[Jo_,txtB,if_true];rw[e0,wrap_i64u qX qX];simp;rw[if_neg e0] at h ⊢;by_cases e1:(Ah_ (Ag_ i 16).2 1).1=1;rw[if_pos e1] at h ⊢;have⟨a1,a2,_,_⟩:=Pl_ h;have⟨b1,b2⟩:=M6_ a1;have⟨c1,c2,c3,c4⟩:=Pl_ b1;refine⟨c1,?_,by simp⟩;rw[c2,b2,a2];rw[e1];simp[Jo_,txtB];rw[if_neg e1] at h ⊢;by_cases e2:(Ah_ (Ag_ i 16).2 1).1=2;rw[if_pos e2] at h ⊢;have⟨a1,a2⟩:=M6_ h;have⟨b1,b2⟩:=M6_ a1;have⟨c1,c2,c3,c4⟩:=Pl_ b1;refine⟨c1,?_,by simp⟩;rw[c2,b2,a2];have hr8:=B9_ (Ah_ (Ag_ i 16).2 1).2 1;rw[e2];simp only[Jo_,txtB];rw[if_neg qZ,if_neg qZ,wrap_i64u qX qX];simp;rw[if_neg e2] at h;exact (Ly_ qZ h).elim
theorem Zj_:∀ {k:Nat} {i:In} {h:List Pair},(Iy_ k i h).2.err=0->i.err=0/\∃ r,(Iy_ k i h).1=h++r/\r.length=k/\i.s=r.flatMap Jo_++(Iy_ k i h).2.s/\Iv_ h r=0/\∀ p∈r,0<=p.kind
 |0,i,h,e=>⟨e,[],by simp[Iy_],rfl,by simp[Iy_],rfl,λp hp=>by cases hp⟩
 |k+1,i,h,e=>by
   simp only[Iy_] at e ⊢
   by_cases e1:(Bx_ i).2.err=0
   . rw[if_pos e1] at e ⊢
     by_cases e2:Du_ (Bx_ i).1 h=0
     . have hf:B1_ (Bx_ i).2 (Du_ (Bx_ i).1 h)=(Bx_ i).2:=by unfold B1_;rw[if_neg (by simp[e2])]
       rw[hf] at e ⊢
       rw[if_neg (by simpa using e1)] at e ⊢
       have⟨_,r,r1,r2,r3,r4,r5⟩:=Zj_ e
       have⟨q1,q2,q3⟩:=readOne_back e1
       refine⟨q1,(Bx_ i).1::r,by rw[r1];simp,by simp[r2],?_,?_,?_⟩
       . rw[q2,r3];simp
       . simp only[Iv_];rw[if_neg (by simpa using e2)];exact r4
       . intro p hp
         rcases List.mem_cons.1 hp with rfl|hp
         . exact q3
         . exact r5 p hp
     . have hf:B1_ (Bx_ i).2 (Du_ (Bx_ i).1 h)=⟨[],Du_ (Bx_ i).1 h⟩:=by unfold B1_;rw[if_pos ⟨e1,e2⟩]
       rw[hf] at e
       rw[if_pos e2] at e
       exact absurd e e2
   . rw[if_neg e1] at e
     rw[if_pos e1] at e
     exact absurd e e1
theorem headRead_back{i:In}(h:(Cd_ i).2.err=0):i.err=0/\i.s=Bv_ (Cd_ i).1++(Cd_ i).2.s/\Dz_ (Cd_ i).1=0:=by
 unfold Cd_ at *;have⟨h1,r,r1,r2,r3,r4,r5⟩:=Zj_ h;have hr:=B9_ i 1
 split at h1
 exact zE
 . rename_i h8
   rw[if_neg h8] at r1 r3 ⊢
   have⟨b1,b2⟩:=M6_ h1
   simp only[AN] at r1
   have hE:Dz_ r=0:=by
     unfold Dz_
     grind
   rw[r1]
   refine⟨b1,?_,hE⟩
   rw[S3_ hE r5,b2,r3,r2]
   simp
theorem readOne_fwd{p:Pair}{r:Bs}(h:p.key.length<=16/\p.kind<=2/\(p.kind=1->p.text.length<=64))(h0:0<=p.kind)(hn:-9223372036854775808<=p.num/\p.num<=9223372036854775807)(h2:p.kind=2->p.num=0\/p.num=1)(h1:p.kind=1->p.num=0)(ht:p.kind≠1->p.text=[]) :
   Bx_ ⟨Jo_ p++r,0⟩=(p,⟨r,0⟩):=by
 have⟨hk,hk2,hk1⟩:=h;have⟨key,kind,num,text⟩:=p;simp only at *;unfold Bx_ Jo_;simp only;have e1:Ag_ ⟨txtB key++(numB 1 kind.toNat++(if kind=0 then numB 8 (A0 .u64 num).toNat else if kind=1 then txtB text else numB 1 (A0 .u64 num).toNat))++r,0⟩ 16=(key,⟨(numB 1 kind.toNat++(if kind=0 then numB 8 (A0 .u64 num).toNat else if kind=1 then txtB text else numB 1 (A0 .u64 num).toNat))++r,0⟩):=by
   unfold txtB
   rw[A6,A6]
   exact Ro_ qX qX
 rw[e1];simp only;have e2:∀ z:Bs,Ah_ ⟨numB 1 kind.toNat++z,0⟩ 1=(kind,⟨z,0⟩):=λz=>Lz_ (k:=1) qX h0 qX qX;rw[A6,e2];simp only;have hw:=Fv_ num;by_cases c0:kind=0;subst c0;simp only[if_true];have e3:Ah_ ⟨numB 8 (A0 .u64 num).toNat++r,0⟩ 8=(A0 .u64 num,⟨r,0⟩):=Lz_ (k:=8) qX qX qX qX;rw[e3];simp only;rw[wrap_u64i hn.1 hn.2,ht qZ];rw[if_neg c0,if_neg c0];by_cases c1:kind=1;subst c1;simp only[if_true];have e3:Ag_ ⟨txtB text++r,0⟩ 64=(text,⟨r,0⟩):=by
   unfold txtB
   rw[A6]
   have :=hk1 Y
   exact Ro_ qX qX
 grind;rw[if_neg c1,if_neg c1];have c2:kind=2:=by omega
 subst c2;rw[if_pos rfl];have hv:A0 .u64 num=num:=by
   rcases h2 rfl with e|e<;>rw[e]<;>decide
 have e3:Ah_ ⟨numB 1 (A0 .u64 num).toNat++r,0⟩ 1=(num,⟨r,0⟩):=by
   rw[hv]
   exact Lz_ (k:=1) qX (by rcases h2 rfl with e|e<;>omega) (by rcases h2 rfl with e|e<;>omega) qX
 rw[e3];simp only;rw[Gb_ (h0:=hn.1) (h1:=hn.2),ht qZ]
theorem Yx_{p:Pair}{ahead:List Pair}(h:Du_ p ahead=0):(p.kind=2->p.num=0\/p.num=1)/\(p.kind=1->p.num=0)/\(p.kind≠1->p.text=[]):=by
 unfold Du_ at h;grind
theorem readGo_fwd:∀ {l h:List Pair} {r:Bs},Iv_ h l=0->(∀ p∈l,p.wf)->Iy_ l.length ⟨l.flatMap Jo_++r,0⟩ h=(h++l,⟨r,0⟩)
 |[],h,r,_,_=>by simp[Iy_]
 |p::l,h,r,e,hw=>by
   have e1:=Xn_ e p pC
   simp only[Iv_] at e
   split at e
   . contradiction
   . rename_i e0
     have e0':=Decidable.not_not.1 e0
     have⟨q1,q2,q3⟩:=Yx_ e0'
     have⟨w1,w2,_⟩:=hw p pC
     have ho:=readOne_fwd (r:=l.flatMap Jo_++r) e1 w1.1 w2 q1 q2 q3
     have es:(p::l).flatMap Jo_++r=Jo_ p++(l.flatMap Jo_++r):=by simp
     simp only[A2,Iy_]
     rw[es,ho]
     simp only[if_true]
     have hf:B1_ ⟨l.flatMap Jo_++r,0⟩ (Du_ p h)=⟨l.flatMap Jo_++r,0⟩:=by unfold B1_;rw[if_neg (by simp[e0'])]
     rw[hf]
     simp only[ne_eq,not_true_eq_false,if_false]
     rw[readGo_fwd e (λq hq=>hw q oA)]
     simp
theorem V4_{l:List Pair}{r:Bs}(e:Dz_ l=0)(hw:∀ p∈l,p.wf):Cd_ ⟨Bv_ l++r,0⟩=(l,⟨r,0⟩):=by
 have hl:=(Mm_ e).1;have e':=e;unfold Dz_ at e';rw[if_neg qX] at e';rw[S3_ e (λp hp=>(hw p hp).1.1),A6];unfold Cd_;have e1:Ah_ ⟨numB 1 l.length++(l.flatMap Jo_++r),0⟩ 1=((l.length:Int),⟨l.flatMap Jo_++r,0⟩):=by
   have :=Lz_ (r:=l.flatMap Jo_++r) (n:=(l.length:Int)) (k:=1) qX qX qX qX
   grind
 rw[e1];simp only;rw[if_neg qX,A7,readGo_fwd e' hw];simp
section
variable{α:Type}[DecidableEq α]{a b ra rb:List α}{x y:α}{k:Nat}
theorem Xd_(h:¬(a.length:Int)=b.length):decide (a=b)=false:=by
 rw[decide_eq_false_iff_not];rintro rfl;exact h Y
theorem Tw_(h:decide (a=b) = decide (a.drop k=b.drop k))(ha:a.drop k=x::ra)(hb:b.drop k=y::rb)(e:x=y):decide (a=b) = decide (ra=rb):=by
 rw[h,ha,hb,AU];simp[e]
theorem Tv_(h:decide (a=b) = decide (a.drop k=b.drop k))(ha:a.drop k=x::ra)(hb:b.drop k=y::rb)(e:¬x=y):decide (a=b)=false:=by
 rw[h,ha,hb,AU];simp[e]
theorem Xc_(h:decide (a=b) = decide (a.drop k=b.drop k))(ha:a.length<=k)(hb:b.length<=k):decide (a=b)=true:=by
 rw[h,A9 ha,A9 hb];simp
end
section
variable{α:Type}{p:α->Bool}{a r:List α}{x:α}{k:Nat}
theorem all_step(h:a.all p=(a.drop k).all p)(ha:a.drop k=x::r)(e:p x=true):a.all p=r.all p:=by rw[h,ha];simp[e]
theorem all_miss(h:a.all p=(a.drop k).all p)(ha:a.drop k=x::r)(e:p x=false):a.all p=false:=by rw[h,ha];simp[e]
theorem all_end(h:a.all p=(a.drop k).all p)(ha:a.length<=k):a.all p=true:=by rw[h,A9 ha];rfl
end
theorem Mail.eq_iff{a b:Mail}:a=b↔a.id=b.id/\a.Al_=b.Al_/\a.key=b.key/\a.head=b.head/\a.body=b.body/\a.due=b.due/\a.hops=b.hops:=by
 cases a;cases b;simp
def lightP(p:Pair):Bool:=decide (p.key.length<=40) && decide (p.text.length<=100)
def P8_(h:List Pair):Bool:=decide (h.length<=12)&&h.all lightP
def lightR(r:Reply):Bool:=decide (max (r.name.length:Int) (r.P_.Al_.length:Int)<=40) && decide ((r.P_.key.length:Int)<=100)&&P8_ r.P_.head && decide ((r.P_.body.length:Int)<=300)
theorem dots_none:∀ {t:Bs},(∀ c∈t,¬c=46)->dots t=[t]
 |[],_=>rfl
 |c::r,h=>by
   have ih:=dots_none (t:=r) (λx hx=>h x pR)
   unfold dots
   rw[if_neg (h c pC),ih]
theorem dots_at:∀ {m:Nat} {t:Bs},(∀ c∈t.take m,¬c=46)->t[m]? = some 46->dots t=t.take m::dots (t.drop (m+1))
 |0,[],_,h=>by simp at h
 |0,c::r,_,h=>by
   have :c=46:=by simpa using h
   subst this
   rfl
 |m+1,[],_,h=>by simp at h
 |m+1,c::r,hn,h=>by
   have ih:=dots_at (m:=m) (t:=r) (λx hx=>hn x pR) pT
   rw[dots,if_neg (hn c pC),ih]
   rfl
def noDot(s:Bs)(f k:Nat):Prop:=∀ j,f<=j->j<k->¬s.getD j 0=46
theorem noDot_mem{s:Bs}{f k:Nat}(h:noDot s f k):∀ c∈(s.drop f).take (k-f),¬c=46:=λc hc=>by
 obtain⟨j,hj,rfl⟩:=List.getElem_of_mem hc
 rw[List.length_take,D5] at hj
 have :=h (f+j) qX qX
 rw[List.getElem_take,List.getElem_drop]
 rw[AB,AA qX] at this
 exact this
theorem split_hit{s:Bs}{f k:Nat}{out:List Bs}(h:dots s=out++dots (s.drop f))(hn:noDot s f k)(hf:f<=k)(hk:k<s.length)(hc:s.getD k 0=46):dots s=(out++[(s.drop f).take (k-f)])++dots (s.drop (k+1)):=by
 rw[h];have hg:(s.drop f)[k-f]? = some 46:=by
   rw[List.getElem?_drop,show f+(k-f)=k by omega,AA hk]
   rw[AB,AA hk] at hc
   exact congrArg some hc
 rw[dots_at (noDot_mem hn) hg,BZ,show f+(k-f+1)=k+1 by omega];simp
theorem split_end{s:Bs}{f k:Nat}{out:List Bs}(h:dots s=out++dots (s.drop f))(hn:noDot s f k)(hk:s.length<=k):dots s=out++[s.drop f]:=by
 rw[h];have :=noDot_mem hn;rw[AZ (by rw[D5];omega)] at this;rw[dots_none this]
theorem noDot_step{s:Bs}{f k:Nat}(h:noDot s f k)(hc:¬s.getD k 0=46):noDot s f (k+1):=λj h1 h2=>by
 by_cases e:j=k
 . subst e;exact hc
 . exact h j h1 qX
theorem noDot_nil{s:Bs}{f:Nat}:noDot s f f:=λj h1 h2=>by omega
theorem byteEq{c:UInt8}{n:Nat}(hn:n<256)(h:(c.toNat:Int)=n):c=UInt8.ofNat n:=by
 apply UInt8.toNat_inj.1
 rw[BR];exact yL
theorem byteNe{c:UInt8}{n:Nat}(hn:n<256)(h:¬(c.toNat:Int)=n):¬c=UInt8.ofNat n:=by
 rintro rfl;rw[BR] at h;exact yL
def E1_(pattern:Bool):List Bs:=if pattern=true then [[42],[35]] else []
theorem Vk_{s:Bs}{k:Nat}(hk:k<s.length):(s.drop k).all (λc=>letter c.toNat)=(letter (s.getD k 0).toNat&&(s.drop (k+1)).all (λc=>letter c.toNat)):=by
 rw[M2_ hk,EN]
theorem isBad_doc{p b:Bool}{w:Bs}(h:(decide ((w.length:Int)=0)||!plain w)=b):S5_ (E1_ p) w=(b&&!(p&&(decide (w=[42]) || decide (w=[35])))):=by
 subst h;have e:(w==[]) = decide ((w.length:Int)=0):=by
   cases w with
   |nil=>rfl
   |cons c r=>simp;omega
 unfold S5_ E1_;rw[e]
 cases p
 simp;simp[Bool.and_comm]
theorem numB_snoc:∀ (k n:Nat),numB (k+1) n=numB k (n/256)++[UInt8.ofNat (n%256)]
 |0,n=>by
   simp only[numB,Nat.pow_zero,Nat.div_one,AN,List.cons.injEq,and_true]
   apply UInt8.toNat_inj.1
   simp only[BR]
   exact yL
 |k+1,n=>by
   have ih:=numB_snoc k n
   have e:numB (k+2) n=D6 (n/256 ^ (k+1))::numB (k+1) n:=rfl
   rw[e,ih]
   simp only[numB,List.cons_append]
   rw[Nat.div_div_eq_div_mul,D2,CJ]
theorem numK_pred{b:Int}(h:1<=b)(h8:b<=8):numK b=numK (b-1)+1:=by unfold numK;omega
theorem Vs_{n b:Int}(h0:0<=n)(h:1<=b)(h8:b<=8):numB (numK b) n.toNat=numB (numK (b-1)) (n/256).toNat++[UInt8.ofNat (n%256).toNat]:=by
 rw[numK_pred h h8,numB_snoc];have e1:(n/256).toNat=n.toNat/256:=by omega
 have e2:(n%256).toNat=n.toNat%256:=by omega
 rw[e1,e2]
theorem E8_(b:Int):numK b<=8:=by unfold numK;omega
theorem Ii_(s:Bs):(txtB s).length=s.length+2:=by simp[txtB,V_];omega
def Zn_(h:List Pair):Prop:=h.length<=1000/\∀ p∈h,p.key.length<=1000/\p.text.length<=1000
theorem Ob_{h:List Pair}(e:P8_ h=true):Zn_ h:=by
 simp only[P8_,A3,decide_eq_true_eq,CC,lightP] at e;exact⟨by omega,λp hp=>by have :=e.2 p hp;omega⟩
theorem P3_{r:Reply}(e:lightR r=true):Zn_ r.P_.head:=by
 simp only[lightR,A3] at e;exact Ob_ e.1.2
theorem Un_{p:Pair}(h:p.key.length<=1000/\p.text.length<=1000):(Jo_ p).length<=2100:=by
 unfold Jo_;simp only[A4,txtB,V_]
 split
 rw[V_];omega
 . split
   simp only[A4,V_];omega
   rw[V_];omega
def r9B(h:List Pair):Bs:=numB 1 h.length++h.flatMap Jo_
theorem J2_(p:Pair)(ahead:List Pair):Du_ p ahead = if C6_ p.key≠0 then C6_ p.key else if 2<p.kind then 8 else if p.kind=1/\(64:Int)<p.text.length then 5 else if p.kind=2/\(p.num<0\/1<p.num) then 7 else if p.kind=1/\p.num≠0\/p.kind≠1/\p.text≠[] then 4 else if (K7_ ahead p.key).isSome then 9 else 0:=by
 unfold Du_;have e:(p.kind=2/\p.num≠0/\p.num≠1)↔(p.kind=2/\(p.num<0\/1<p.num)):=by omega
 simp only[e]
theorem wr_i64(z:Int):-9223372036854775808<=IntKind.wrap .i64 z/\IntKind.wrap .i64 z<=9223372036854775807:=by
 exact sH
theorem readOne_wf(i:In):(Bx_ i).1.wf:=by
 have h1:=C7_ i 16;have h2:=B9_ (Ag_ i 16).2 1;have h3:=C7_ (Ah_ (Ag_ i 16).2 1).2 64;have h4:=wr_i64 (Ah_ (Ah_ (Ag_ i 16).2 1).2 8).1;have h5:=wr_i64 (Ah_ (Ah_ (Ag_ i 16).2 1).2 1).1;unfold Bx_;simp only
 repeat' split
 all_goals simp only[Pair.wf]
 all_goals refine⟨by omega,by omega,by omega,?_⟩
 all_goals first|omega|(simp;done)
theorem readGo_len:∀ (k:Nat) (i:In) (h:List Pair),(Iy_ k i h).1.length<=h.length+k
 |0,i,h=>by simp[Iy_]
 |k+1,i,h=>by
   simp only[Iy_]
   generalize (if (Bx_ i).2.err=0 then B1_ (Bx_ i).2 (Du_ (Bx_ i).1 h) else (Bx_ i).2)=j
   by_cases e:j.err=0
   . rw[if_neg pW]
     have :=readGo_len k j (h++[(Bx_ i).1])
     simp at this;omega
   . rw[if_pos e];simp
theorem Qs_(i:In):(Cd_ i).1.length<=255:=by
 have :=readGo_len (Ah_ i 1).1.toNat (if 8<(Ah_ i 1).1 then B1_ (Ah_ i 1).2 6 else (Ah_ i 1).2) []
 have hr:=B9_ i 1;unfold Cd_;simp at this;omega
theorem P2_{k:Nat}{i:In}{h:List Pair}{p:Pair}{q:In}(e:Bx_ i=(p,q)):Iy_ (k+1) i h = if (if q.err=0 then B1_ q (Du_ p h) else q).err≠0 then ([],if q.err=0 then B1_ q (Du_ p h) else q) else Iy_ k (if q.err=0 then B1_ q (Du_ p h) else q) (h++[p]):=by
 simp only[Iy_];rw[e]
theorem readGo_ok{k:Nat}{i:In}{h:List Pair}{p:Pair}{q:In}(e:Bx_ i=(p,q))(hq:q.err=0)(hz:(B1_ q (Du_ p h)).err=0):Iy_ (k+1) i h=Iy_ k (B1_ q (Du_ p h)) (h++[p]):=by
 rw[P2_ e];simp only[if_pos hq];rw[if_neg (by simpa using hz)]
theorem Si_{k:Nat}{i:In}{h:List Pair}{p:Pair}{q:In}(e:Bx_ i=(p,q))(hq:q.err=0)(hz:¬(B1_ q (Du_ p h)).err=0):Iy_ (k+1) i h=([],B1_ q (Du_ p h)):=by
 rw[P2_ e];simp only[if_pos hq];rw[if_pos hz]
theorem Sh_{k:Nat}{i:In}{h:List Pair}{p:Pair}{q:In}(e:Bx_ i=(p,q))(hq:¬q.err=0):Iy_ (k+1) i h=([],q):=by
 rw[P2_ e];simp only[if_neg hq];rw[if_pos hq]
theorem r9B_len{h:List Pair}(hs:Zn_ h):(r9B h).length<=1+2100*h.length:=by
 have key:∀ l:List Pair,(∀ p∈l,p.key.length<=1000/\p.text.length<=1000)->(l.flatMap Jo_).length<=2100*l.length:=by
   intro l
   induction l with
   |nil=>intro _;simp
   |cons p r ih=>
     intro hp
     have a:=ih (λq hq=>hp q oA)
     have b:=Un_ (hp p pC)
     simp only[List.flatMap_cons,A4,A2];omega
 have :=key h hs.2;unfold r9B;rw[A4,V_];omega
structure Rule where
 sort:Int
 key:Bs
 want:List Pair
 all:Bool
deriving DecidableEq
abbrev bF:Rule:=⟨2,[97,46,35],[],false⟩
def Rule.cells(r:Rule)(a:Option Addr)(c:Nat):List Value:=[.int .u8 r.sort,str r.key, .slice a r.want.length c, .bool r.all]
def Rule.wf(r:Rule):Prop:=(0<=r.sort/\r.sort<=255)/\r.key.length<=9223372036854775807/\r.want.length<=9223372036854775807
theorem Rule.eq_iff{a b:Rule}:a=b↔a.sort=b.sort/\a.key=b.key/\a.want=b.want/\a.all=b.all:=by
 cases a;cases b;simp
def patB:List Bs:=[[42],[35]]
def Qk_(r:Rule):Int:=
 if 3<r.sort then 8
 else if r.sort=0 then (if keyE [] r.key≠0 then keyE [] r.key else Dz_ r.want)
 else if keyE patB r.key≠0 then keyE patB r.key else Dz_ r.want
def hasP(h:List Pair)(p:Pair):Bool:=(K7_ h p.key).isSome && decide ((K7_ h p.key).getD Pair.zero=p)
def Ki_(all:Bool)(h:List Pair):List Pair->Bool
 |[]=>all
 |p::l=>if hasP h p then (if all then Ki_ all h l else true) else if all then false else Ki_ all h l
def Qr_(r:Rule)(key:Bs)(h:List Pair):Bool:=
 if r.sort=0 then decide (key=r.key) else if r.sort=2 then mt (C0_ r.key) (C0_ key) else if r.sort=3 then Ki_ r.all h r.want else true
structure Method where
 channel:Int
 kind:Int
 name:Bs
 other:Bs
 key:Bs
 head:List Pair
 body:Bs
 n:Int
 m:Int
 yes:Bool
deriving DecidableEq
def Method.cells(m:Method)(a:Option Addr)(c:Nat):List Value:=[.int .u8 m.channel, .int .u8 m.kind,str m.name,str m.other,str m.key, .slice a m.head.length c,str m.body, .int .u64 m.n, .int .u64 m.m, .bool m.yes]
def Method.wf(m:Method):Prop:=(0<=m.channel/\m.channel<=255)/\(0<=m.kind/\m.kind<=255)/\(0<=m.n/\m.n<=18446744073709551615)/\(0<=m.m/\m.m<=18446744073709551615)/\m.name.length<=9223372036854775807/\m.other.length<=9223372036854775807/\m.key.length<=9223372036854775807/\m.head.length<=9223372036854775807/\m.body.length<=9223372036854775807
theorem headGo_r:∀ (l a:List Pair),0<=Iv_ a l/\Iv_ a l<=15
 |[],a=>by simp[Iv_]
 |p::l,a=>by
   have h1:=Q1_ p a
   have h2:=headGo_r l (a++[p])
   simp only[Iv_]
   split<;>omega
theorem Xl_(h:List Pair):0<=Dz_ h/\Dz_ h<=15:=by
 have :=headGo_r h [];unfold Dz_
 split<;>omega
def D6_(m:Mail):Int:=
 if C6_ m.Al_≠0 then C6_ m.Al_ else if keyE [] m.key≠0 then keyE [] m.key else if Dz_ m.head≠0 then Dz_ m.head else if (256:Int)<m.body.length then 5 else if 4<m.hops then 7 else 0
theorem keyE_r(b:List Bs)(s:Bs):0<=keyE b s/\keyE b s<=15:=by
 unfold keyE;exact tC
theorem Kk_(m:Mail):0<=D6_ m/\D6_ m<=15:=by
 have h1:=Of_ m.Al_;have h2:=keyE_r [] m.key;have h3:=Xl_ m.head;unfold D6_;exact tC
theorem Ix_{m:Mail}(h:D6_ m=0):m.Al_.length<=16/\m.key.length<=64/\Dz_ m.head=0/\m.body.length<=256/\m.hops<=4:=by
 unfold D6_ at h;have h1:C6_ m.Al_=0:=by
   by_cases e:C6_ m.Al_=0
   . exact e
   . exact tY
 rw[if_neg qX] at h;have h2:keyE [] m.key=0:=by
   by_cases e:keyE [] m.key=0
   . exact e
   . exact tY
 rw[if_neg qX] at h;have h3:Dz_ m.head=0:=by
   by_cases e:Dz_ m.head=0
   . exact e
   . exact tY
 rw[if_neg qX] at h;have a:=Jg_ h1;have b:=keyE_ok h2
 split at h
 . cases h
 . split at h
   . cases h
   exact⟨a,b,h3,by omega,by omega⟩
def Yp_(m:Mail):Out:=D_ (D_ (O_ (A5_ (O_ (O_ (D_ ⟨[],0⟩ m.id 8) m.Al_) m.key) (Bv_ m.head)) m.body) m.due 8) m.hops 1
def Br_(m:Mail):Bs:=if D6_ m=0 then (Yp_ m).s else []
def Kl_(s:Bs):Int:=if s=[] then 0 else C6_ s
theorem Pq_(s:Bs):0<=Kl_ s/\Kl_ s<=15:=by
 have :=Of_ s;unfold Kl_
 split<;>omega
def Dd_(b:Bool)(e:Int):Int:=if b=true then e else 0
def bitN(b:Bool):Int:=if b=true then 1 else 0
structure X_ where
 name:Bs
 sort:Int
 to':Bs
deriving DecidableEq
abbrev bG:X_:=⟨[97],1,[]⟩
abbrev aR:X_:=⟨[],0,[]⟩
def X_.cells(x:X_):List Value:=[str x.name, .int .u8 x.sort,str x.to']
def X_.wf(x:X_):Prop:=x.name.length<=9223372036854775807/\(0<=x.sort/\x.sort<=255)/\x.to'.length<=9223372036854775807
structure Aa_ where
 name:Bs
 most:Int
 life:Int
 dead:Bs
deriving DecidableEq
abbrev bQ:Aa_:=⟨[113],4,0,[]⟩
abbrev aO:Aa_:=⟨[],0,0,[]⟩
def Aa_.cells(x:Aa_):List Value:=[str x.name, .int .u64 x.most, .int .u64 x.life,str x.dead]
def Aa_.wf(x:Aa_):Prop:=x.name.length<=9223372036854775807/\(0<=x.most/\x.most<=18446744073709551615)/\(0<=x.life/\x.life<=18446744073709551615)/\x.dead.length<=9223372036854775807
structure R_ where
 Al_:Bs
 to':Bs
 up:Bool
 key:Bs
 want:List Pair
 all:Bool
deriving DecidableEq
abbrev bJ:R_:=⟨[97],[113],false,[120],[],false⟩
abbrev bH:R_:=⟨[97],[113],false,[],[],false⟩
abbrev aS:R_:=⟨[],[],false,[],[],false⟩
def R_.cells(x:R_)(a:Option Addr)(c:Nat):List Value:=[str x.Al_,str x.to', .bool x.up,str x.key, .slice a x.want.length c, .bool x.all]
def R_.wf(x:R_):Prop:=x.Al_.length<=9223372036854775807/\x.to'.length<=9223372036854775807/\x.key.length<=9223372036854775807/\x.want.length<=9223372036854775807
theorem R_.eq_iff{a b:R_}:a=b↔a.Al_=b.Al_/\a.to'=b.to'/\a.up=b.up/\a.key=b.key/\a.want=b.want/\a.all=b.all:=by
 cases a;cases b;simp
structure T_ where
 kind:Int
 tick:Int
 Al_:X_
 queue:Aa_
 bind:R_
 name:Bs
 id:Int
 how:Int
 frm:Int
 code:Int
 number:Int
 P_:Mail
 text:Bs
deriving DecidableEq
abbrev bM:T_:=⟨6,0,aR,aO,aS,[],0,0,0,0,0,(⟨0,[97],[],[],[120],0,0⟩:Mail),[]⟩
abbrev bK:T_:=⟨11,1,aR,aO,aS,[],0,0,0,0,0,aK,[]⟩
abbrev aX:T_:=⟨4,0,aR,aO,bH,[],0,0,0,0,0,aK,[]⟩
abbrev aY:T_:=⟨2,0,aR,bQ,aS,[],0,0,0,0,0,aK,[]⟩
abbrev aZ:T_:=⟨0,0,bG,aO,aS,[],0,0,0,0,0,aK,[]⟩
def T_.cells(d:T_)(a:Option Addr)(c:Nat)(a':Option Addr)(c':Nat):List Value:=
 [.int .u8 d.kind, .int .u64 d.tick,str d.Al_.name, .int .u8 d.Al_.sort,str d.Al_.to',str d.queue.name, .int .u64 d.queue.most, .int .u64 d.queue.life,str d.queue.dead,
  str d.bind.Al_,str d.bind.to', .bool d.bind.up,str d.bind.key, .slice a d.bind.want.length c, .bool d.bind.all,str d.name, .int .u64 d.id, .int .u8 d.how, .int .u8 d.frm, .int .u8 d.code, .int .u64 d.number,
  .int .u64 d.P_.id,str d.P_.Al_,str d.P_.key, .slice a' d.P_.head.length c',str d.P_.body, .int .u64 d.P_.due, .int .u8 d.P_.hops,str d.text]
def T_.wf(d:T_):Prop:=(0<=d.kind/\d.kind<=255)/\(0<=d.tick/\d.tick<=18446744073709551615)/\d.Al_.wf/\d.queue.wf/\d.bind.wf/\d.name.length<=9223372036854775807/\(0<=d.id/\d.id<=18446744073709551615)/\(0<=d.how/\d.how<=255)/\(0<=d.frm/\d.frm<=255)/\(0<=d.code/\d.code<=255)/\(0<=d.number/\d.number<=18446744073709551615)/\d.P_.wf/\d.text.length<=9223372036854775807
theorem T_.eq_iff{a b:T_}:a=b↔a.kind=b.kind/\a.tick=b.tick/\a.Al_=b.Al_/\a.queue=b.queue/\a.bind=b.bind/\a.name=b.name/\a.id=b.id/\a.how=b.how/\a.frm=b.frm/\a.code=b.code/\a.number=b.number/\a.P_=b.P_/\a.text=b.text:=by
 cases a;cases b;simp
def X_.zero:X_:=⟨[],0,[]⟩
def Aa_.zero:Aa_:=⟨[],0,0,[]⟩
def R_.zero:R_:=⟨[],[],false,[],[],false⟩
def Ht_(d:T_):T_:=
 ⟨d.kind,d.tick,if d.kind=0 then d.Al_ else .zero,if d.kind=2 then d.queue else .zero,if d.kind=4\/d.kind=5 then d.bind else .zero,
  if d.kind=1\/d.kind=3\/d.kind=7\/d.kind=8 then d.name else [],if d.kind=8 then d.id else 0,if d.kind=8 then d.how else 0,if d.kind=10 then d.frm else 0,if d.kind=12 then d.code else 0,if d.kind=10 then d.number else 0,
  if d.kind=6\/d.kind=10 then d.P_ else .zero,if d.kind=12 then d.text else []⟩
def Do_:List Int->Int
 |[]=>0
 |a::l=>if a≠0 then a else Do_ l
theorem firstE_r:∀ (l:List Int),(∀ a∈l,0<=a/\a<=15)->0<=Do_ l/\Do_ l<=15
 |[],_=>⟨Int.le_refl _,by simp[Do_]⟩
 |a::l,h=>by
   unfold Do_
   split
   . exact h a (B8 ..)
   . exact firstE_r l λb hb=>h b (AI _ hb)
def Dl_(d:T_):Int:=
 if 12<d.kind then 8 else if d≠Ht_ d then 4
 else if d.kind=0 then Do_ [C6_ d.Al_.name,Dd_ (decide (4<d.Al_.sort)) 8,Kl_ d.Al_.to']
 else if d.kind=2 then Do_ [C6_ d.queue.name,Kl_ d.queue.dead]
 else if d.kind=4\/d.kind=5 then Do_ [C6_ d.bind.Al_,C6_ d.bind.to',Dd_ (decide ((64:Int)<d.bind.key.length)) 5,Dz_ d.bind.want]
 else if d.kind=6\/d.kind=10 then D6_ d.P_
 else if d.kind=9\/d.kind=11 then 0
 else if d.kind=12 then Dd_ (decide ((64:Int)<d.text.length)) 5
 else Do_ [C6_ d.name,Dd_ (decide (2<d.how)) 7]
theorem Tu_{b:Bool}{e:Int}(he:e≠0)(h:Dd_ b e=0):b=false:=by
 cases b with
 |false=>rfl
 |true=>exact absurd h he
theorem Eh_{a:Int}{l:List Int}(h:Do_ (a::l)=0):a=0/\Do_ l=0:=by
 unfold Do_ at h
 split at h
 . rename_i q;exact absurd h q
 . rename_i q;exact⟨by omega,h⟩
theorem maybeE_ok{s:Bs}(h:Kl_ s=0):s.length<=16:=by
 unfold Kl_ at h
 split at h
 . rename_i q;subst q;simp
 exact Jg_ h
theorem Wo_{b:Bool}{e:Int}(h:0<=e/\e<=15):0<=Dd_ b e/\Dd_ b e<=15:=by
 unfold Dd_;split<;>omega
theorem deedE_r(d:T_):0<=Dl_ d/\Dl_ d<=15:=by
 have hb:∀ b,0<=Dd_ b 8/\Dd_ b 8<=15:=λb=>Wo_ qX;have hb5:∀ b,0<=Dd_ b 5/\Dd_ b 5<=15:=λb=>Wo_ qX;have hb7:∀ b,0<=Dd_ b 7/\Dd_ b 7<=15:=λb=>Wo_ qX;unfold Dl_
 repeat' split
 all_goals first
   |omega
   |exact Kk_ _
   |exact hb5 _
   | (refine firstE_r _ λa ha=>?_
      simp only[EG,DO,or_false] at ha
      first
        |(rcases ha with rfl|rfl|rfl|rfl<;>first|exact Of_ _|exact Pq_ _|exact Xl_ _|exact hb _|exact hb5 _|exact hb7 _)
        |(rcases ha with rfl|rfl|rfl<;>first|exact Of_ _|exact Pq_ _|exact Xl_ _|exact hb _|exact hb5 _|exact hb7 _)
        |(rcases ha with rfl|rfl<;>first|exact Of_ _|exact Pq_ _|exact Xl_ _|exact hb _|exact hb5 _|exact hb7 _))
theorem P6_{d:T_}:d=Ht_ d↔(d.kind≠0->d.Al_=⟨[],0,[]⟩)/\(d.kind≠2->d.queue=⟨[],0,0,[]⟩)/\(d.kind≠4->d.kind≠5->d.bind=⟨[],[],false,[],[],false⟩)/\(d.kind≠1->d.kind≠3->d.kind≠7->d.kind≠8->d.name=[])/\(d.kind≠8->d.id=0)/\(d.kind≠8->d.how=0)/\(d.kind≠10->d.frm=0)/\(d.kind≠10->d.number=0)/\(d.kind≠12->d.code=0)/\(d.kind≠12->d.text=[])/\(d.kind≠6->d.kind≠10->d.P_=⟨0,[],[],[],[],0,0⟩):=by
 rw[T_.eq_iff];simp only[Ht_,X_.zero,Aa_.zero,R_.zero,Mail.zero];constructor;rintro⟨_,_,h1,h2,h3,h4,h5,h6,h7,h8,h9,h10,h11⟩;refine⟨λk=>?_,λk=>?_,λk k'=>?_,λk k' q q'=>?_,λk=>?_,λk=>?_,λk=>?_,λk=>?_,λk=>?_,λk=>?_,λk k'=>?_⟩;rw[if_neg k] at h1;exact h1;rw[if_neg k] at h2;exact h2;rw[if_neg qX] at h3;exact h3;rw[if_neg qX] at h4;exact h4;rw[if_neg k] at h5;exact h5;rw[if_neg k] at h6;exact h6;rw[if_neg k] at h7;exact h7;rw[if_neg k] at h9;exact h9;rw[if_neg k] at h8;exact h8;rw[if_neg k] at h11;exact h11;rw[if_neg qX] at h10;exact h10;rintro⟨h1,h2,h3,h4,h5,h6,h7,h8,h9,h10,h11⟩;refine⟨trivial,trivial,?_,?_,?_,?_,?_,?_,?_,?_,?_,?_,?_⟩<;>split<;>first|rfl|(apply_assumption<;>omega)
theorem spare_t{p:Prop}[Decidable p](h:¬p):true=!decide p:=by simp[h]
structure DeedOk(d:T_):Prop where
 told:d=Ht_ d
 kind:d.kind<=12
 sname:d.Al_.name.length<=16
 sto:d.Al_.to'.length<=16
 ssort:d.Al_.sort<=4
 qname:d.queue.name.length<=16
 qdead:d.queue.dead.length<=16
 bshop:d.bind.Al_.length<=16
 bto:d.bind.to'.length<=16
 bkey:d.bind.key.length<=64
 bwant:Dz_ d.bind.want=0
 name:d.name.length<=16
 how:d.how<=2
 mshop:d.P_.Al_.length<=16
 mkey:d.P_.key.length<=64
 mhead:Dz_ d.P_.head=0
 mbody:d.P_.body.length<=256
 mhops:d.P_.hops<=4
 text:d.text.length<=64
theorem deedE_ok{d:T_}(hk:0<=d.kind)(h:Dl_ d=0):DeedOk d:=by
 unfold Dl_ at h;by_cases k:12<d.kind;rw[if_pos k] at h;exact absurd h qZ;rw[if_neg k] at h;by_cases t:d=Ht_ d
 case neg=>rw[if_pos t] at h;exact absurd h qZ
 rw[if_neg (by simpa using t)] at h;have hc:d.kind=0\/d.kind=1\/d.kind=2\/d.kind=3\/d.kind=4\/d.kind=5\/d.kind=6\/d.kind=7\/d.kind=8\/d.kind=9\/d.kind=10\/d.kind=11\/d.kind=12:=by omega
 have e1:d.Al_=(Ht_ d).Al_:=congrArg T_.Al_ t;have e2:d.queue=(Ht_ d).queue:=congrArg T_.queue t;have e3:d.bind=(Ht_ d).bind:=congrArg T_.bind t;have e4:d.name=(Ht_ d).name:=congrArg T_.name t;have e5:d.how=(Ht_ d).how:=congrArg T_.how t;have e6:d.P_=(Ht_ d).P_:=congrArg T_.P_ t;have e7:d.text=(Ht_ d).text:=congrArg T_.text t;simp only[Ht_] at e1 e2 e3 e4 e5 e6 e7;have zs:∀ {s:X_},s = .zero->s.name.length<=16/\s.to'.length<=16/\s.sort<=4:=λe=>by subst e;decide
 have zq:∀ {s:Aa_},s = .zero->s.name.length<=16/\s.dead.length<=16:=λe=>by subst e;decide
 have zb:∀ {s:R_},s = .zero->s.Al_.length<=16/\s.to'.length<=16/\s.key.length<=64/\Dz_ s.want=0:=λe=>by subst e;decide
 have zm:∀ {s:Mail},s = .zero->s.Al_.length<=16/\s.key.length<=64/\Dz_ s.head=0/\s.body.length<=256/\s.hops<=4:=λe=>by subst e;decide
 have zn:∀ {s:Bs},s=[]->s.length<=16:=λe=>by subst e;decide
 have zt:∀ {s:Bs},s=[]->s.length<=64:=λe=>by subst e;decide
 have zh:∀ {s:Int},s=0->s<=2:=λe=>by subst e;decide
 have mk:(d.Al_.name.length<=16/\d.Al_.to'.length<=16/\d.Al_.sort<=4)->(d.queue.name.length<=16/\d.queue.dead.length<=16)->(d.bind.Al_.length<=16/\d.bind.to'.length<=16/\d.bind.key.length<=64/\Dz_ d.bind.want=0)->d.name.length<=16->d.how<=2 ->
     (d.P_.Al_.length<=16/\d.P_.key.length<=64/\Dz_ d.P_.head=0/\d.P_.body.length<=256/\d.P_.hops<=4)->d.text.length<=64->DeedOk d:=
   λa b c e f g i=>⟨t,by omega,a.1,a.2.1,a.2.2,b.1,b.2,c.1,c.2.1,c.2.2.1,c.2.2.2,e,f,g.1,g.2.1,g.2.2.1,g.2.2.2.1,g.2.2.2.2,i⟩
 rcases hc with q|q|q|q|q|q|q|q|q|q|q|q|q<;>simp only[q] at e1 e2 e3 e4 e5 e6 e7 h<;>simp (config:={failIfUnchanged:=false}) at e1 e2 e3 e4 e5 e6 e7 h
 have⟨h1,h⟩:=Eh_ h;have⟨h2,h⟩:=Eh_ h;have⟨h3,h⟩:=Eh_ h;have :=Tu_ qZ h2;exact mk ⟨Jg_ h1,maybeE_ok h3,by have :=of_decide_eq_false this;omega⟩ (zq e2) (zb e3) (zn e4) (zh e5) (zm e6) (zt e7);exact zJ;have⟨h1,h⟩:=Eh_ h;exact mk (zs e1) ⟨Jg_ h1,maybeE_ok (Eh_ h).1⟩ (zb e3) (zn e4) (zh e5) (zm e6) (zt e7);exact zJ;exact xK;exact xK;exact zK;exact zJ;have⟨h1,h⟩:=Eh_ h;have :=of_decide_eq_false (Tu_ qZ (Eh_ h).1);exact mk (zs e1) (zq e2) (zb e3) (Jg_ h1) qX (zm e6) (zt e7);exact zL;exact zK;exact zL;have :=of_decide_eq_false (Tu_ qZ h);exact mk (zs e1) (zq e2) (zb e3) (zn e4) (zh e5) (zm e6) qX
def Jl_(d:T_):Out:=
 if d.kind=0 then O_ (D_ (O_ (D_ (D_ ⟨[],0⟩ d.kind 1) d.tick 8) d.Al_.name) d.Al_.sort 1) d.Al_.to'
 else if d.kind=2 then O_ (D_ (D_ (O_ (D_ (D_ ⟨[],0⟩ d.kind 1) d.tick 8) d.queue.name) d.queue.most 8) d.queue.life 8) d.queue.dead
 else if d.kind=4\/d.kind=5 then D_ (A5_ (O_ (D_ (O_ (O_ (D_ (D_ ⟨[],0⟩ d.kind 1) d.tick 8) d.bind.Al_) d.bind.to') (bitN d.bind.up) 1) d.bind.key) (Bv_ d.bind.want)) (bitN d.bind.all) 1
 else if d.kind=6 then A5_ (D_ (D_ ⟨[],0⟩ d.kind 1) d.tick 8) (Br_ d.P_)
 else if d.kind=1\/d.kind=3\/d.kind=7 then O_ (D_ (D_ ⟨[],0⟩ d.kind 1) d.tick 8) d.name
 else if d.kind=8 then D_ (D_ (O_ (D_ (D_ ⟨[],0⟩ d.kind 1) d.tick 8) d.name) d.id 8) d.how 1
 else if d.kind=10 then A5_ (D_ (D_ (D_ (D_ ⟨[],0⟩ d.kind 1) d.tick 8) d.frm 1) d.number 8) (Br_ d.P_)
 else if d.kind=12 then O_ (D_ (D_ (D_ ⟨[],0⟩ d.kind 1) d.tick 8) d.code 1) d.text
 else D_ (D_ ⟨[],0⟩ d.kind 1) d.tick 8
def Cw_(d:T_):Bs:=if Dl_ d=0 then (Jl_ d).s else []
def Qg_(m:Mail):Bs:=numB 8 m.id.toNat++(txtB m.Al_++(txtB m.key++(r9B m.head++(txtB m.body++(numB 8 m.due.toNat++numB 1 m.hops.toNat)))))
def deedB(d:T_):Bs:=
 numB 1 d.kind.toNat++(numB 8 d.tick.toNat++(
 if d.kind=0 then txtB d.Al_.name++(numB 1 d.Al_.sort.toNat++txtB d.Al_.to')
 else if d.kind=2 then txtB d.queue.name++(numB 8 d.queue.most.toNat++(numB 8 d.queue.life.toNat++txtB d.queue.dead))
 else if d.kind=4\/d.kind=5 then txtB d.bind.Al_++(txtB d.bind.to'++(numB 1 (bitN d.bind.up).toNat++(txtB d.bind.key++(r9B d.bind.want++numB 1 (bitN d.bind.all).toNat))))
 else if d.kind=6 then Qg_ d.P_
 else if d.kind=8 then txtB d.name++(numB 8 d.id.toNat++numB 1 d.how.toNat)
 else if d.kind=9\/d.kind=11 then []
 else if d.kind=10 then numB 1 d.frm.toNat++(numB 8 d.number.toNat++Qg_ d.P_)
 else if d.kind=12 then numB 1 d.code.toNat++txtB d.text
 else txtB d.name))
def Em_(i:In):Mail×In:=
 let a:=Ah_ i 8
 let b:=Ag_ a.2 16
 let c:=Ag_ b.2 64
 let h:=Cd_ c.2
 let e:=Ag_ h.2 256
 let f:=Ah_ e.2 8
 let g:=Ah_ f.2 1
 let m:Mail:=⟨a.1,b.1,c.1,h.1,e.1,f.1,g.1⟩
 let j:=if g.2.err=0 then B1_ g.2 (D6_ m) else g.2
 if j.err=0 then (m,j) else (Mail.zero,j)
theorem F0_(m:Mail):(Br_ m).length<=3000:=by
 unfold Br_
 split
 . rename_i h
   have⟨h1,h2,h3,h4,_⟩:=Ix_ h
   have :=Gm_ m.head
   have a1:=Ad_ ⟨[],0⟩ m.id 8
   have a2:=Be_ (D_ ⟨[],0⟩ m.id 8) m.Al_
   have a3:=Be_ (O_ (D_ ⟨[],0⟩ m.id 8) m.Al_) m.key
   have a4:=Ew_ (O_ (O_ (D_ ⟨[],0⟩ m.id 8) m.Al_) m.key) (Bv_ m.head)
   have a5:=Be_ (A5_ (O_ (O_ (D_ ⟨[],0⟩ m.id 8) m.Al_) m.key) (Bv_ m.head)) m.body
   have a6:=Ad_ (O_ (A5_ (O_ (O_ (D_ ⟨[],0⟩ m.id 8) m.Al_) m.key) (Bv_ m.head)) m.body) m.due 8
   have a7:=Ad_ (D_ (O_ (A5_ (O_ (O_ (D_ ⟨[],0⟩ m.id 8) m.Al_) m.key) (Bv_ m.head)) m.body) m.due 8) m.hops 1
   simp only[Yp_,AE] at *
   omega
 simp
theorem M5_{h:List Pair}(e:Dz_ h=0)(h0:∀ p∈h,0<=p.kind):Bv_ h=r9B h:=by
 rw[S3_ e h0];rfl
theorem M9_{m:Mail}(h:D6_ m=0)(h0:∀ p∈m.head,0<=p.kind):Br_ m=Qg_ m:=by
 have⟨h1,h2,h3,h4,_⟩:=Ix_ h;have e1:∀ o,O_ o m.Al_=⟨o.s++txtB m.Al_,o.err⟩:=λo=>Cz_ qX;have e2:∀ o,O_ o m.key=⟨o.s++txtB m.key,o.err⟩:=λo=>Cz_ qX;have e3:∀ o,O_ o m.body=⟨o.s++txtB m.body,o.err⟩:=λo=>Cz_ qX;unfold Br_;rw[if_pos h];simp only[Yp_,Qg_,e1,e2,e3,A5_,Hb_,Mg_,M5_ h3 h0,AN,A6]
theorem deedBytes_s{d:T_}(hk:0<=d.kind)(h:Dl_ d=0)(hb:∀ p∈d.bind.want,0<=p.kind)(hm:∀ p∈d.P_.head,0<=p.kind):Cw_ d=deedB d:=by
 have ok:=deedE_ok hk h;have⟨k1,k2,k3,k4,k5,k6,k7,k8,k9,k10,k11,k12,k13,k14,k15,k16,k17,k18,k19⟩:=ok;have e1:∀ o,O_ o d.Al_.name=⟨o.s++txtB d.Al_.name,o.err⟩:=λo=>Cz_ qX;have e2:∀ o,O_ o d.Al_.to'=⟨o.s++txtB d.Al_.to',o.err⟩:=λo=>Cz_ qX;have e3:∀ o,O_ o d.queue.name=⟨o.s++txtB d.queue.name,o.err⟩:=λo=>Cz_ qX;have e4:∀ o,O_ o d.queue.dead=⟨o.s++txtB d.queue.dead,o.err⟩:=λo=>Cz_ qX;have e5:∀ o,O_ o d.bind.Al_=⟨o.s++txtB d.bind.Al_,o.err⟩:=λo=>Cz_ qX;have e6:∀ o,O_ o d.bind.to'=⟨o.s++txtB d.bind.to',o.err⟩:=λo=>Cz_ qX;have e7:∀ o,O_ o d.bind.key=⟨o.s++txtB d.bind.key,o.err⟩:=λo=>Cz_ qX;have e8:∀ o,O_ o d.name=⟨o.s++txtB d.name,o.err⟩:=λo=>Cz_ qX;have e9:∀ o,O_ o d.text=⟨o.s++txtB d.text,o.err⟩:=λo=>Cz_ qX;have hmail:d.kind=6\/d.kind=10->Br_ d.P_=Qg_ d.P_:=λq=>by
   refine M9_ ?_ hm
   unfold Dl_ at h
   rw[if_neg qX,if_neg (λq=>q k1),if_neg qX,if_neg qX,if_neg qX,if_pos q] at h
   exact h
 have hc:d.kind=0\/d.kind=1\/d.kind=2\/d.kind=3\/d.kind=4\/d.kind=5\/d.kind=6\/d.kind=7\/d.kind=8\/d.kind=9\/d.kind=10\/d.kind=11\/d.kind=12:=by omega
 unfold Cw_;rw[if_pos h];unfold Jl_ deedB
 rcases hc with q|q|q|q|q|q|q|q|q|q|q|q|q<;>
   simp only[q,e1,e2,e3,e4,e5,e6,e7,e8,e9,A5_,Hb_,Mg_,M5_ k11 hb,AN,A6]<;>simp (config:={failIfUnchanged:=false}) [hmail,q]
theorem r9B_le{h:List Pair}(e:Dz_ h=0)(h0:∀ p∈h,0<=p.kind):(r9B h).length<=1000:=by
 rw[<- M5_ e h0];exact Gm_ h
theorem Ul_{m:Mail}(h:D6_ m=0)(h0:∀ p∈m.head,0<=p.kind):(Qg_ m).length<=3000:=by
 rw[<- M9_ h h0];exact F0_ m
theorem deedBytes_len{d:T_}(hk:0<=d.kind):(Cw_ d).length<=5000:=by
 by_cases h:Dl_ d=0
 . have ok:=deedE_ok hk h
   have⟨k1,k2,k3,k4,k5,k6,k7,k8,k9,k10,k11,k12,k13,k14,k15,k16,k17,k18,k19⟩:=ok
   have e1:∀ o,O_ o d.Al_.name=⟨o.s++txtB d.Al_.name,o.err⟩:=λo=>Cz_ qX
   have e2:∀ o,O_ o d.Al_.to'=⟨o.s++txtB d.Al_.to',o.err⟩:=λo=>Cz_ qX
   have e3:∀ o,O_ o d.queue.name=⟨o.s++txtB d.queue.name,o.err⟩:=λo=>Cz_ qX
   have e4:∀ o,O_ o d.queue.dead=⟨o.s++txtB d.queue.dead,o.err⟩:=λo=>Cz_ qX
   have e5:∀ o,O_ o d.bind.Al_=⟨o.s++txtB d.bind.Al_,o.err⟩:=λo=>Cz_ qX
   have e6:∀ o,O_ o d.bind.to'=⟨o.s++txtB d.bind.to',o.err⟩:=λo=>Cz_ qX
   have e7:∀ o,O_ o d.bind.key=⟨o.s++txtB d.bind.key,o.err⟩:=λo=>Cz_ qX
   have e8:∀ o,O_ o d.name=⟨o.s++txtB d.name,o.err⟩:=λo=>Cz_ qX
   have e9:∀ o,O_ o d.text=⟨o.s++txtB d.text,o.err⟩:=λo=>Cz_ qX
   have :=Gm_ d.bind.want
   have :=F0_ d.P_
   unfold Cw_
   rw[if_pos h]
   unfold Jl_
   repeat' split
   all_goals
     simp only[e1,e2,e3,e4,e5,e6,e7,e8,e9,A5_,Hb_,Mg_,A4,V_,Ii_,AE]
     omega
 unfold Cw_;rw[if_neg h];simp
theorem Xm_:∀ {l a:List Pair},Iv_ a l=0->∀ p∈l,∃ ah,Du_ p ah=0
 |[],_,_,_,hp=>by cases hp
 |q::r,a,h,p,hp=>by
   unfold Iv_ at h
   split at h
   . contradiction
   . rename_i e
     rcases List.mem_cons.1 hp with rfl|hp
     . exact⟨a,by omega⟩
     . exact Xm_ h p hp
theorem headE_each{h:List Pair}(e:Dz_ h=0):∀ p∈h,∃ ah,Du_ p ah=0:=by
 unfold Dz_ at e
 split at e
 . cases e
 exact Xm_ e
theorem Pb_{h:List Pair}(e:Dz_ h=0):Zn_ h:=by
 have⟨h1,h2⟩:=Mm_ e;refine⟨by omega,λp hp=>?_⟩;have⟨a,b,c⟩:=h2 p hp;have⟨ah,q⟩:=headE_each e p hp;have⟨_,_,q3⟩:=Yx_ q;refine⟨by omega,?_⟩;by_cases k:p.kind=1;have :=c k;omega;rw[q3 k];simp
theorem bindE_r(b:R_):0<=Do_ [C6_ b.Al_,C6_ b.to',Dd_ (decide ((64:Int)<b.key.length)) 5,Dz_ b.want]/\Do_ [C6_ b.Al_,C6_ b.to',Dd_ (decide ((64:Int)<b.key.length)) 5,Dz_ b.want]<=15:=by
 refine firstE_r _ λa ha=>?_;simp only[EG,DO,or_false] at ha
 rcases ha with rfl|rfl|rfl|rfl
 exact Of_ _;exact Of_ _;exact Wo_ qX;exact Xl_ _
def Vl_(m:Mail):Bool:=decide ((m.Al_.length:Int)<=40) && decide ((m.key.length:Int)<=100)&&P8_ m.head && decide ((m.body.length:Int)<=300)
theorem lightH_le{h:List Pair}(e:P8_ h=true):h.length<=12:=by
 simp only[P8_,A3,decide_eq_true_eq] at e;omega
theorem Yc_{m:Mail}(e:Vl_ m=true):m.Al_.length<=40/\m.key.length<=100/\m.head.length<=12/\m.body.length<=300/\P8_ m.head=true:=by
 simp only[Vl_,A3,decide_eq_true_eq] at e;have :=lightH_le e.1.2;exact⟨by omega,by omega,this,by omega,e.1.2⟩
def Ud_(d:T_):Bool:=
 decide ((max (max (max (max (max (max (d.Al_.name.length:Int) (d.Al_.to'.length:Int)) (d.queue.name.length:Int)) (d.queue.dead.length:Int)) (d.bind.Al_.length:Int)) (d.bind.to'.length:Int)) (d.name.length:Int))<=40) && decide ((max (d.bind.key.length:Int) (d.text.length:Int))<=100)&&P8_ d.bind.want&&Vl_ d.P_
theorem lightD_len(d:T_)(e:Ud_ d=true):d.bind.want.length<=12/\d.P_.head.length<=12/\d.name.length<=40/\Vl_ d.P_=true:=by
 simp only[Ud_,A3,decide_eq_true_eq] at e;have h1:=lightH_le e.1.2;have h2:=Yc_ e.2;exact⟨h1,h2.2.2.1,by omega,e.2⟩
structure Ai_ where
 Ae_:List X_
 binds:List R_
deriving DecidableEq
abbrev aW:Ai_:=⟨[],[]⟩
def Ai_.cells(x:Ai_)(a1:Option Addr)(c1:Nat)(a2:Option Addr)(c2:Nat):List Value:=[.slice a1 x.Ae_.length c1, .slice a2 x.binds.length c2]
def Ai_.wf(x:Ai_):Prop:=x.Ae_.length<=9223372036854775807/\x.binds.length<=9223372036854775807
def Ai_.zero:Ai_:=⟨[],[]⟩
def idxF{α:Type}(p:α->Bool):Nat->List α->Int
 |_,[]=>-1
 |k,x::r=>if p x then k else idxF p (k+1) r
def idxP{α:Type}(p:α->Bool)(l:List α):Int:=idxF p 0 l
theorem Mn_{α:Type}{p:α->Bool}{l r:List α}{c:α}{k:Nat}(h:idxP p l=idxF p k (l.drop k))(e:l.drop k=c::r)(hc:p c=false):idxP p l=idxF p (k+1) r:=by
 rw[h,e,idxF,hc];rfl
theorem Pj_{α:Type}{p:α->Bool}{l r:List α}{c:α}{k:Nat}(h:idxP p l=idxF p k (l.drop k))(e:l.drop k=c::r)(hc:p c=true):idxP p l=k:=by
 rw[h,e,idxF,hc];rfl
theorem Pi_{α:Type}{p:α->Bool}{l:List α}{k:Nat}(h:idxP p l=idxF p k (l.drop k))(hk:l.length<=k):idxP p l = -1:=by
 rw[h,A9 hk];rfl
theorem idxF_r{α:Type}(p:α->Bool):∀ (l:List α) (k:Nat),idxF p k l = -1\/(k:Int)<=idxF p k l/\idxF p k l<k+l.length
 |[],k=> .inl Y
 |x::r,k=>by
   unfold idxF
   split
   . right;simp;omega
   . rcases idxF_r p r (k+1) with h|h
     . exact .inl h
     . right;exact sM
theorem idxP_r{α:Type}(p:α->Bool)(l:List α):-1<=idxP p l/\idxP p l<(l.length:Int)\/idxP p l = -1:=by
 have :=idxF_r p l 0;unfold idxP;omega
theorem idxF_any{α:Type}(p:α->Bool):∀ (l:List α) (k:Nat),(0<=idxF p k l)=(l.any p=true)
 |[],k=>by simp[idxF]
 |x::r,k=>by
   unfold idxF
   cases h:p x with
   |true=>simp[h]
   |false=>simp only[CT,if_false,List.any_cons,h,Bool.false_or];exact idxF_any p r (k+1)
theorem idxP_any{α:Type}(p:α->Bool)(l:List α):(0<=idxP p l)=(l.any p=true):=idxF_any p l 0
def D7_(l:List X_)(n:Bs):Option X_:=l.find? λs=>decide (s.name=n)
theorem shopOf_hit{l r:List X_}{c:X_}{n:Bs}{k:Nat}(h:D7_ l n=D7_ (l.drop k) n)(e:l.drop k=c::r)(hc:c.name=n):D7_ l n=some c:=by
 rw[h,e];simp[D7_,hc]
theorem shopOf_miss{l r:List X_}{c:X_}{n:Bs}{k:Nat}(h:D7_ l n=D7_ (l.drop k) n)(e:l.drop k=c::r)(hc:¬c.name=n):D7_ l n=D7_ r n:=by
 rw[h,e];simp[D7_,hc]
def Kh_(x:X_):Int:=if C6_ x.name≠0 then C6_ x.name else if 4<x.sort then 8 else if x.sort=4 then C6_ x.to' else if x.to'≠[] then 4 else 0
theorem shopE_r(x:X_):0<=Kh_ x/\Kh_ x<=15:=by
 have :=Of_ x.name;have :=Of_ x.to';unfold Kh_;exact tC
def Hd_(x:R_)(sort:Int):Rule:=⟨sort,x.key,x.want,x.all⟩
theorem Yq_(i:In):(Em_ i).1.wf:=by
 unfold Em_;simp only;have a:=B9_ i 8;have b:=C7_ (Ah_ i 8).2 16;have c:=C7_ (Ag_ (Ah_ i 8).2 16).2 64;have h:=Qs_ (Ag_ (Ag_ (Ah_ i 8).2 16).2 64).2;have e:=C7_ (Cd_ (Ag_ (Ag_ (Ah_ i 8).2 16).2 64).2).2 256;have f:=B9_ (Ag_ (Cd_ (Ag_ (Ag_ (Ah_ i 8).2 16).2 64).2).2 256).2 8;have g:=B9_ (Ah_ (Ag_ (Cd_ (Ag_ (Ag_ (Ah_ i 8).2 16).2 64).2).2 256).2 8).2 1
 repeat' split
 all_goals simp only[Mail.wf,Mail.zero]
 all_goals first|omega|(simp;done)
theorem Ok_{s r:Bs}{m:Int}(h1:(s.length:Int)<=m:=by exact qX)(h2:(s.length:Int)<=65535:=by exact qX):Ag_ ⟨txtB s++r,0⟩ m=(s,⟨r,0⟩):=by
 unfold txtB;rw[A6];exact Ro_ h1 h2
theorem head_fwd{l:List Pair}{r:Bs}(e:Dz_ l=0)(hw:∀ p∈l,p.wf):Cd_ ⟨r9B l++r,0⟩=(l,⟨r,0⟩):=by
 rw[<- M5_ e (λp hp=>(hw p hp).1.1)];exact V4_ e hw
theorem Wt_(i:In):B1_ i 0=i:=by unfold B1_;rw[if_neg (λh=>h.2 rfl)]
theorem mailRead_fwd{m:Mail}{r:Bs}(hw:m.wf)(hh:∀ p∈m.head,p.wf)(h:D6_ m=0):Em_ ⟨Qg_ m++r,0⟩=(m,⟨r,0⟩):=by
 have⟨k1,k2,k3,k4,k5⟩:=Ix_ h;have⟨w1,w2,w3,_⟩:=hw;unfold Em_ Qg_;simp only[A6];rw[Ip_ w1.1 qX];simp only;rw[Ok_];simp only;rw[Ok_];simp only;rw[head_fwd k3 hh];simp only;rw[Ok_];simp only;rw[Ip_ w2.1 qX];simp only;rw[My_ w3.1 qX];simp only[if_true];rw[show (⟨m.id,m.Al_,m.key,m.head,m.body,m.due,m.hops⟩:Mail)=m from rfl,h,Wt_];rfl
theorem Jn_{n:Nat}{r:Bs}(h:n<=255):Ah_ ⟨numB 1 n++r,0⟩ 1=((n:Int),⟨r,0⟩):=by
 have :=My_ (r:=r) (n:=(n:Int)) qX qX;grind
theorem readGo_pw:∀ (k:Nat) (i:In) (h:List Pair),(∀ p∈h,p.wf)->∀ p∈(Iy_ k i h).1,p.wf
 |0,_,h,hw=>hw
 |k+1,i,h,hw=>by
   rw[P2_ (p:=(Bx_ i).1) (q:=(Bx_ i).2) rfl]
   have key:∀ p∈h++[(Bx_ i).1],p.wf:=λp hp=>by
     rcases List.mem_append.1 hp with q|q
     . exact hw p q
     . rw[List.mem_singleton.1 q];exact readOne_wf i
   repeat' split
   all_goals first
     |exact readGo_pw k _ _ key
     |exact λp hp=>absurd hp DO
theorem headRead_pw{i:In}:∀ p∈(Cd_ i).1,p.wf:=readGo_pw _ _ _ (λ_ h=>by cases h)
structure Tr_ where
 l:List T_
deriving DecidableEq
def Tr_.cells(x:Tr_)(a1:Option Addr)(c1:Nat):List Value:=[.slice a1 x.l.length c1]
def Tr_.wf(x:Tr_):Prop:=x.l.length<=9223372036854775807
def Tr_.zero:Tr_:=⟨[]⟩
abbrev aA:=PV.int .i64
abbrev aB:=PV.int .u64
def Feed.pc(x:Feed):List PV:=[.str x.rest,aA x.err]
instance :Inhabited Feed:=⟨⟨[],0⟩⟩
def Out.pc(x:Out):List PV:=[.str x.s,aA x.err]
instance :Inhabited Out:=⟨⟨[],0⟩⟩
def In.pc(x:In):List PV:=[.str x.s,aA x.err]
instance :Inhabited In:=⟨⟨[],0⟩⟩
def RIn.pc(x:RIn):List PV:=[.str x.s,aA x.pos,aA x.code]
instance :Inhabited RIn:=⟨⟨[],0,0⟩⟩
def Pair.pc(x:Pair):List PV:=[.str x.key, .int .u8 x.kind,aA x.num, .str x.text]
abbrev Pair.ag(x:Pair):PV:=.agg x.pc
instance :Inhabited Pair:=⟨⟨[],0,0,[]⟩⟩
theorem Pair.pwf{x:Pair}(h:PV.wfs (Pair.pc x)):Pair.wf x:=by
 simp only[Pair.pc,PV.wfs,PV.wf] at h;simp only[Pair.wf];omega
def Frame.pc(x:Frame):List PV:=[.int .u8 x.channel, .int .u8 x.kind, .str x.body]
instance :Inhabited Frame:=⟨⟨0,0,[]⟩⟩
def X_.pc(x:X_):List PV:=[.str x.name, .int .u8 x.sort, .str x.to']
abbrev X_.ag(x:X_):PV:=.agg x.pc
instance :Inhabited X_:=⟨⟨[],0,[]⟩⟩
theorem X_.pwf{x:X_}(h:PV.wfs (X_.pc x)):X_.wf x:=by
 simp only[X_.pc,PV.wfs,PV.wf] at h;simp only[X_.wf];omega
def Aa_.pc(x:Aa_):List PV:=[.str x.name,aB x.most,aB x.life, .str x.dead]
instance :Inhabited Aa_:=⟨⟨[],0,0,[]⟩⟩
def R_.pc(x:R_):List PV:=[.str x.Al_, .str x.to', .bool x.up, .str x.key, .sl Pair.pc x.want, .bool x.all]
abbrev R_.ag(x:R_):PV:=.agg x.pc
instance :Inhabited R_:=⟨⟨[],[],false,[],[],false⟩⟩
theorem R_.pwf{x:R_}(h:PV.wfs (R_.pc x)):R_.wf x:=by
 simp only[R_.pc,PV.wfs,PV.wf] at h;simp only[R_.wf];omega
theorem R_.kd4{x:R_}(h:PV.wfs (R_.pc x)):∀ p∈x.want,0<=p.kind:=λp hp=>by
 have q:=Pair.pwf (h.2.2.2.2.1.2 p hp)
 exact sP
def Rule.pc(x:Rule):List PV:=[.int .u8 x.sort, .str x.key, .sl Pair.pc x.want, .bool x.all]
abbrev Rule.ag(x:Rule):PV:=.agg x.pc
instance :Inhabited Rule:=⟨⟨0,[],[],false⟩⟩
theorem Rule.pwf{x:Rule}(h:PV.wfs (Rule.pc x)):Rule.wf x:=by
 simp only[Rule.pc,PV.wfs,PV.wf] at h;simp only[Rule.wf];omega
theorem Rule.kd2{x:Rule}(h:PV.wfs (Rule.pc x)):∀ p∈x.want,0<=p.kind:=λp hp=>by
 have q:=Pair.pwf (h.2.2.1.2 p hp)
 exact sP
def Mail.pc(x:Mail):List PV:=[aB x.id, .str x.Al_, .str x.key, .sl Pair.pc x.head, .str x.body,aB x.due, .int .u8 x.hops]
abbrev Mail.ag(x:Mail):PV:=.agg x.pc
instance :Inhabited Mail:=⟨⟨0,[],[],[],[],0,0⟩⟩
theorem Mail.pwf{x:Mail}(h:PV.wfs (Mail.pc x)):Mail.wf x:=by
 simp only[Mail.pc,PV.wfs,PV.wf] at h;simp only[Mail.wf];omega
theorem Mail.kd3{x:Mail}(h:PV.wfs (Mail.pc x)):∀ p∈x.head,0<=p.kind:=λp hp=>by
 have q:=Pair.pwf (h.2.2.2.1.2 p hp)
 exact sP
def Reply.pc(x:Reply):List PV:=[.int .u8 x.channel, .int .u8 x.kind,aB x.n,aB x.m, .bool x.yes, .str x.name,aB x.P_.id, .str x.P_.Al_, .str x.P_.key, .sl Pair.pc x.P_.head, .str x.P_.body,aB x.P_.due, .int .u8 x.P_.hops]
instance :Inhabited Reply:=⟨⟨0,0,0,0,false,[],⟨0,[],[],[],[],0,0⟩⟩⟩
def Method.pc(x:Method):List PV:=[.int .u8 x.channel, .int .u8 x.kind, .str x.name, .str x.other, .str x.key, .sl Pair.pc x.head, .str x.body,aB x.n,aB x.m, .bool x.yes]
instance :Inhabited Method:=⟨⟨0,0,[],[],[],[],[],0,0,false⟩⟩
def T_.pc(x:T_):List PV:=[.int .u8 x.kind,aB x.tick, .str x.Al_.name, .int .u8 x.Al_.sort, .str x.Al_.to', .str x.queue.name,aB x.queue.most,aB x.queue.life, .str x.queue.dead, .str x.bind.Al_, .str x.bind.to', .bool x.bind.up, .str x.bind.key, .sl Pair.pc x.bind.want, .bool x.bind.all, .str x.name,aB x.id, .int .u8 x.how, .int .u8 x.frm, .int .u8 x.code,aB x.number,aB x.P_.id, .str x.P_.Al_, .str x.P_.key, .sl Pair.pc x.P_.head, .str x.P_.body,aB x.P_.due, .int .u8 x.P_.hops, .str x.text]
abbrev T_.ag(x:T_):PV:=.agg x.pc
instance :Inhabited T_:=⟨⟨0,0,⟨[],0,[]⟩,⟨[],0,0,[]⟩,⟨[],[],false,[],[],false⟩,[],0,0,0,0,0,⟨0,[],[],[],[],0,0⟩,[]⟩⟩
theorem T_.pwf{x:T_}(h:PV.wfs (T_.pc x)):T_.wf x:=by
 simp only[T_.pc,PV.wfs,PV.wf] at h;simp only[T_.wf,X_.wf,Aa_.wf,R_.wf,Mail.wf];omega
theorem T_.kd13{x:T_}(h:PV.wfs (T_.pc x)):∀ p∈x.bind.want,0<=p.kind:=λp hp=>by
 have q:=Pair.pwf (h.2.2.2.2.2.2.2.2.2.2.2.2.2.1.2 p hp)
 exact sP
theorem T_.kd24{x:T_}(h:PV.wfs (T_.pc x)):∀ p∈x.P_.head,0<=p.kind:=λp hp=>by
 have q:=Pair.pwf (h.2.2.2.2.2.2.2.2.2.2.2.2.2.2.2.2.2.2.2.2.2.2.2.2.1.2 p hp)
 exact sP
def Ai_.pc(x:Ai_):List PV:=[.sl X_.pc x.Ae_, .sl R_.pc x.binds]
abbrev Ai_.ag(x:Ai_):PV:=.agg x.pc
instance :Inhabited Ai_:=⟨⟨[],[]⟩⟩
def Tr_.pc(x:Tr_):List PV:=[.sl T_.pc x.l]
instance :Inhabited Tr_:=⟨⟨[]⟩⟩
theorem idxF_b{α:Type}(p:α->Bool):∀ (l:List α) (k:Nat),idxF p k l = -1\/((k:Int)<=idxF p k l/\idxF p k l<k+l.length)
 |[],k=> .inl (by simp[idxF])
 |a::r,k=>by
   simp only[idxF]
   split
   . right;exact sM
   . rcases idxF_b p r (k+1) with h|h
     . exact .inl h
     . right;exact sM
theorem Jj_{α:Type}(p:α->Bool)(l:List α):-1<=idxP p l/\idxP p l<l.length:=by
 rcases idxF_b p l 0 with h|h<;>simp only[idxP]<;>omega
theorem Xr_{α:Type}(p:α->Bool):∀ (l:List α) (k:Nat),(idxF p k l<0->l.find? p=none)/\(0<=idxF p k l->∀ c,l[(idxF p k l).toNat-k]? = some c->p c=true/\l.find? p=some c)
 |[],k=>⟨λ_=>rfl,λh=>by simp[idxF] at h⟩
 |a::r,k=>by
   have⟨h1,h2⟩:=Xr_ p r (k+1)
   have hr:=idxF_b p r (k+1)
   simp only[idxF]
   by_cases ha:p a=true
   . simp only[ha,if_true]
     refine⟨λh=>by omega,λ_ c hc=>?_⟩
     have :((k:Int)).toNat-k=0:=by omega
     rw[this] at hc
     simp at hc
     subst hc
     exact⟨ha,by simp[ha]⟩
   . have hf:p a=false:=by simpa using ha
     simp only[hf,if_false,CT,List.find?_cons]
     refine⟨h1,λh0 c hc=>?_⟩
     refine h2 h0 c ?_
     have e:(idxF p (k+1) r).toNat-k=((idxF p (k+1) r).toNat-(k+1))+1:=by omega
     rw[e] at hc
     simpa using hc
theorem Ph_{α:Type}{p:α->Bool}{l:List α}(h:idxP p l<0):l.find? p=none:=(Xr_ p l 0).1 h
theorem idxP_get{α:Type}{p:α->Bool}{l:List α}{c:α}(h0:¬idxP p l<0)(h:l[(idxP p l).toNat]? = some c):p c=true/\l.find? p=some c:=(Xr_ p l 0).2 (by simp only[idxP] at h0;omega) c (by simpa [idxP] using h)
theorem getJ{α:Type}[Inhabited α](xs:List α)(m:Nat):∃ c,(m<xs.length->xs[m]? = some c):=by
 by_cases h:m<xs.length
 . simp_all
 exact⟨default,λq=>absurd q h⟩
end Go.SW
namespace Go.SW.V
open Go.SW
def lt{α β:Type}(a:α)(f:α->β):β:=f a
theorem Df_{α β:Type}{a r:α}{f:α->β}(h:r=a):lt a f=f r:=by subst h;rfl
theorem condT{α:Type}{c:Bool}{a b:α}(h:c=true):(bif c then a else b)=a:=by rw[h];rfl
theorem condF{α:Type}{c:Bool}{a b:α}(h:c=false):(bif c then a else b)=b:=by rw[h];rfl
inductive Lo(σ ρ:Type) where
 |fin (s:σ)
 |ret (r:ρ)
def lp0{ρ β:Type}(o:Lo Unit ρ)(f:β)(g:ρ->β):β:=match o with
 | .fin _=>f
 | .ret r=>g r
theorem Yi_{ρ β:Type}{l:β}{o:Lo Unit ρ}{f:β}{g:ρ->β}(h:l=lp0 o f g)(k:o = .fin ()):l=f:=by subst k;exact h
theorem Mf_{ρ β:Type}{l:β}{o:Lo Unit ρ}{f:β}{g:ρ->β}{r:ρ}(h:l=lp0 o f g)(k:o = .ret r):l=g r:=by subst k;exact h
theorem Qy_{ρ β:Type}{l:β}{X:Lo Unit ρ}{f:β}{g:ρ->β}(h:l=lp0 X f g):∃ o,o=X/\l=lp0 o f g:=⟨_,rfl,h⟩
def lp1{σ1 ρ β:Type}(o:Lo (σ1) ρ)(f:σ1->β)(g:ρ->β):β:=match o with
 | .fin s=>f s
 | .ret r=>g r
theorem lp1_fin{σ1 ρ β:Type}{l:β}{o:Lo (σ1) ρ}{f:σ1->β}{g:ρ->β}{a1:σ1}(h:l=lp1 o f g)(k:o = .fin a1):l=f a1:=by subst k;exact h
theorem lp1_ret{σ1 ρ β:Type}{l:β}{o:Lo (σ1) ρ}{f:σ1->β}{g:ρ->β}{r:ρ}(h:l=lp1 o f g)(k:o = .ret r):l=g r:=by subst k;exact h
theorem Yj_{σ1 ρ β:Type}{l:β}{X:Lo (σ1) ρ}{f:σ1->β}{g:ρ->β}(h:l=lp1 X f g):∃ o,o=X/\l=lp1 o f g:=⟨_,rfl,h⟩
def lt1{σ1 β:Type}(s:σ1)(f:σ1->β):β:=f s
theorem Fq_{σ1 β:Type}{l:β}{o:σ1}{f:σ1->β}{a1:σ1}(h:l=lt1 o f)(k:o=a1):l=f a1:=by subst k;exact h
theorem Dm_{σ1 β:Type}{l:β}{X:σ1}{f:σ1->β}(h:l=lt1 X f):∃ o,o=X/\l=lt1 o f:=⟨_,rfl,h⟩
def lp2{σ1 σ2 ρ β:Type}(o:Lo (σ1×σ2) ρ)(f:σ1->σ2->β)(g:ρ->β):β:=match o with
 | .fin s=>f s.1 s.2
 | .ret r=>g r
theorem lp2_fin{σ1 σ2 ρ β:Type}{l:β}{o:Lo (σ1×σ2) ρ}{f:σ1->σ2->β}{g:ρ->β}{a1:σ1}{a2:σ2}(h:l=lp2 o f g)(k:o = .fin (a1,a2)):l=f a1 a2:=by subst k;exact h
theorem Po_{σ1 σ2 ρ β:Type}{l:β}{o:Lo (σ1×σ2) ρ}{f:σ1->σ2->β}{g:ρ->β}{r:ρ}(h:l=lp2 o f g)(k:o = .ret r):l=g r:=by subst k;exact h
theorem Yk_{σ1 σ2 ρ β:Type}{l:β}{X:Lo (σ1×σ2) ρ}{f:σ1->σ2->β}{g:ρ->β}(h:l=lp2 X f g):∃ o,o=X/\l=lp2 o f g:=⟨_,rfl,h⟩
def lt2{σ1 σ2 β:Type}(s:σ1×σ2)(f:σ1->σ2->β):β:=f s.1 s.2
theorem lt2_fin{σ1 σ2 β:Type}{l:β}{o:σ1×σ2}{f:σ1->σ2->β}{a1:σ1}{a2:σ2}(h:l=lt2 o f)(k:o=(a1,a2)):l=f a1 a2:=by subst k;exact h
theorem lt2_split{σ1 σ2 β:Type}{l:β}{X:σ1×σ2}{f:σ1->σ2->β}(h:l=lt2 X f):∃ o,o=X/\l=lt2 o f:=⟨_,rfl,h⟩
def lt3{σ1 σ2 σ3 β:Type}(s:σ1×σ2×σ3)(f:σ1->σ2->σ3->β):β:=f s.1 s.2.1 s.2.2
theorem lt3_fin{σ1 σ2 σ3 β:Type}{l:β}{o:σ1×σ2×σ3}{f:σ1->σ2->σ3->β}{a1:σ1}{a2:σ2}{a3:σ3}(h:l=lt3 o f)(k:o=(a1,a2,a3)):l=f a1 a2 a3:=by subst k;exact h
theorem lt3_split{σ1 σ2 σ3 β:Type}{l:β}{X:σ1×σ2×σ3}{f:σ1->σ2->σ3->β}(h:l=lt3 X f):∃ o,o=X/\l=lt3 o f:=⟨_,rfl,h⟩
def lt4{σ1 σ2 σ3 σ4 β:Type}(s:σ1×σ2×σ3×σ4)(f:σ1->σ2->σ3->σ4->β):β:=f s.1 s.2.1 s.2.2.1 s.2.2.2
theorem lt4_fin{σ1 σ2 σ3 σ4 β:Type}{l:β}{o:σ1×σ2×σ3×σ4}{f:σ1->σ2->σ3->σ4->β}{a1:σ1}{a2:σ2}{a3:σ3}{a4:σ4}(h:l=lt4 o f)(k:o=(a1,a2,a3,a4)):l=f a1 a2 a3 a4:=by subst k;exact h
theorem lt4_split{σ1 σ2 σ3 σ4 β:Type}{l:β}{X:σ1×σ2×σ3×σ4}{f:σ1->σ2->σ3->σ4->β}(h:l=lt4 X f):∃ o,o=X/\l=lt4 o f:=⟨_,rfl,h⟩
def gt{α:Type}[Inhabited α](xs:List α)(k:Nat):α:=xs.getD k default
theorem getG{α:Type}[Inhabited α]{xs:List α}{k:Nat}(h:k<xs.length):xs[k]? = some (gt xs k):=by
 rw[gt,AB,AA h];rfl
theorem S2_{α:Type}[Inhabited α]{xs:List α}{k:Nat}(h:k<xs.length):xs.drop k=gt xs k::xs.drop (k+1):=D9_ (getG h)
theorem dropN{α:Type}{xs:List α}{k:Nat}(h:¬k<xs.length):xs.drop k=[]:=A9 qX
theorem Wh_{α τ:Type}{l:τ}{xs ys:List α}{f:List α->τ}{v:τ}(e:l=f xs)(h:xs=ys)(k:f ys=v):l=v:=by subst h;exact e.trans k
theorem An_{α:Type}{p:PV}{a v:α}(f:α->PV)(e:a=v)(h:PLe p (f v)):PLe p (f a):=by subst e;exact h
theorem Q2_{α:Type}{ps:List PV}{a v:α}(f:α->List PV)(e:a=v)(h:PLes ps (f v)):PLes ps (f a):=by subst e;exact h
variable{P:Program}{n:Nat}{N:Rest}{H0:Env}{all rest:List Oper}{Q:Qs}{ks:List Kt}{fF:Nat->PV}{fL:Nat->Blk}{T T' T2 ty d:Nat}{pos:String}{af:Array Edge}{x y z:Operand}{K:St->Prop}{op:Op}{p:PV}
theorem Fp_{ι:Type}{X:Code}(keep kL:List Nat)(lv:ι->List (Nat×PV))(lL:ι->List (Nat×Blk))(Φ:ι->Prop)(h:Hd P n N H0 Q (.code X) (.lp (LJ (λx=>⟨mkF (lv x) keep fF,mkL (lL x) kL fL⟩) Φ (λ_=>0) 1)::ks) ⟨fF,fL⟩)(k:∀ x,Φ x->Hd P n N H0 Q (.ex .normal) ks ⟨mkF (lv x) keep fF,mkL (lL x) kL fL⟩):Hd P n N H0 Q (.code X) ks ⟨fF,fL⟩:=by
 intro F H L ha;refine Lb_ (λe F' H' L' hq=>?_) (h F H L ha);have⟨s',ha',hq'⟩:=hq
 cases e with
 |normal=>have⟨x,h1,_,h3⟩:=hq';exact⟨_,h3 _ _ _ _ ha',k x h1⟩
 |_=>exact⟨s',ha',hq'⟩
theorem callv{α:Type}(g:α)(res:α->PV){f:FuncId}{args:List PV}{xs:Array Operand}{ats:Array TypeId}(h:Fn P H0.g f args (res g))(ha:argsP fF x xs.toList=some (f,args))(hd:Nat.blt d n=true)(k:∀ r,r=g->(res r).wf->Hd P n N H0 Q (.ops all rest) ks ⟨updp fF d (res r),fL⟩):Hd P n N H0 Q (.ops all (⟨some d, .call ⟨.value x,xs,ats⟩,ty,pos,af,none⟩::rest)) ks ⟨fF,fL⟩:=call h ha hd (k g Y)
theorem lj_le{ι:Type}{S:ι->St}{Φ:ι->Prop}{μ:ι->Nat}{m:Nat}{s s':St}(h:StLe s s')(k:Hd P n N H0 Q (.ex .normal) (.lp (LJ S Φ μ m)::ks) s'):Hd P n N H0 Q (.ex .normal) (.lp (LJ S Φ μ m)::ks) s:=by
 have⟨x,h1,h2,h3⟩:=k;exact⟨x,h1,h2,h.trans h3⟩
theorem st_rt{t:Nat}{p':PV}(h:PLe (fF t) p')(hn:p'.noOsl=true):StLe ⟨fF,fL⟩ ⟨updp fF t p',fL⟩:=λH0 F H L ha=>by
 refine⟨ha.le,ha.g,λt'=>?_,ha.l⟩
 by_cases e:t'=t
 . subst e;simp only[Np_];exact (h H _ (ha.f t').sim).simT hn
 . simp only[Tp_ e];exact ha.f t'
theorem lj_rt{ι:Type}{S:ι->St}{Φ:ι->Prop}{μ:ι->Nat}{m t:Nat}(p':PV)(h:PLe (fF t) p')(hn:p'.noOsl=true)(k:Hd P n N H0 Q (.ex .normal) (.lp (LJ S Φ μ m)::ks) ⟨updp fF t p',fL⟩):Hd P n N H0 Q (.ex .normal) (.lp (LJ S Φ μ m)::ks) ⟨fF,fL⟩:=lj_le (st_rt h hn) k
theorem lj_osl{α:Type}{ι:Type}{S:ι->St}{Φ:ι->Prop}{μ:ι->Nat}{m t k e:Nat}{u:Value}{enc:α->List PV}{xs:List α}(i:Nat)(hF:fF t = .val u)(hL:fL i = .arr u k e enc xs)(kk:Hd P n N H0 Q (.ex .normal) (.lp (LJ S Φ μ m)::ks) ⟨updp fF t (.osl i),fL⟩):Hd P n N H0 Q (.ex .normal) (.lp (LJ S Φ μ m)::ks) ⟨fF,fL⟩:=lj_le (λ_ _ _ _ ha=>val_osl ha hF hL) kk
theorem bcase{p:Prop}(b:Bool)(ht:b=true->p)(hf:b=false->p):p:=by cases b;exact hf Y;exact ht Y
theorem ple_gv{c:Bool}{p:PV}(h:c=true):PLe (.gv c p) p:=by
 subst h;intro H v hv
 rcases hv.inv_gv with ⟨_,h⟩|⟨h,_⟩
 exact h
 . cases h
theorem eweak{o:Oper}{i:Nat}(h:E1 P n N H0 all o none ⟨fF,fL⟩ K):E1 P n N H0 all o (some i) ⟨fF,fL⟩ K:=λF H L ha=>(h F H L ha).imp λF' H' L' ⟨x,y,z⟩=>⟨x,λq _=>y q pC,z⟩
theorem Zx_{α:Type}{e k:Nat}{u:Value}{enc:α->List PV}{xs:List α}{o:Oper}(i:Nat)(hb:fL i = .arr u k e enc xs)(h:E1 P n N H0 all o (some i) ⟨giveF i enc xs fF,giveL i enc xs fL⟩ K):E1 P n N H0 all o (some i) ⟨fF,fL⟩ K:=by
 intro F H L ha a w hA hm;have⟨H1,hl1,hg1,hm1⟩:=hm.giveO (i:=i) Y;have ha1:=ha.give hb hl1 hg1;exact (h F H1 (lupd L i none) ha1).imp (λF' H' L' ⟨x,y,z⟩=>⟨hl1.trans x,λq hq=>(y q hq).trans (Cx_ λe=>hq pP),z⟩) a w hA hm1
end Go.SW.V
namespace Go.SW
end Go.SW
namespace Go.SW.V
open Go.SW
theorem Ci_{α:Type}{xs:List (List α)}{k:Nat}{c:List α}(h:xs[k]? = some c):(xs.take (k+1)).flatten=(xs.take k).flatten++c:=by
 rw[takeE h,F9];simp
theorem El_{α:Type}(xs:List (List α))(k:Nat):(xs.take k).flatten.length<=xs.flatten.length:=by
 have :=congrArg (λl:List (List α)=>l.flatten.length) (AL k xs);simp only[F9,A4] at this;omega
theorem Op_{α:Type}{xs:List (List α)}{k:Nat}(h:xs.length<=k):(xs.take k).flatten=xs.flatten:=by rw[AZ h]
end Go.SW.V
namespace Go.SW
open Go.ChangeShapes Go.WideShapes Go.ChangeAt Go.RowKit
def hp(w:World):Hp:=λb=>w.heap[b]?
def rest0(w:World):Rest:=⟨λ_=>none,w.os,w.tape,w.output⟩
theorem mem0(w:World):Mem (rest0 w) (hp w) l0 w:=
 {os:=rfl,tape:=rfl,output:=rfl,n:=λ_ _ h=>oE,h:=λ_ _ h=>h,l:=λ_ _ _ h=>oE,nh:=λ_ _ h=>oE,nl:=λ_ _ _ h=>oE,ll:=λ_ _ _ _ _ h=>oE}
theorem mem0_below{w w':World}{L:Ls}(h:Mem (rest0 w) (hp w) L w'):Below w.heap.size w w':=by
 have hb:∀ k,k<w.heap.size->w'.heap[k]? = w.heap[k]? :=λk hk=>by
   have e:w.heap[k]? = some w.heap[k]:=E8 hk
   rw[e];exact h.h k _ e
 refine⟨h.os,h.tape,h.output,?_,hb⟩;by_cases z:w.heap.size=0;omega;have :=hb (w.heap.size-1) qX;rw[E8 (show w.heap.size-1<w.heap.size by omega)] at this;have :=(Array.getElem?_eq_some_iff.1 this).1;omega
section
variable{Ht:Type}{enc:TypeId×Value->Ht}{P:Program}{w:World}{base fuel:Nat}{spare:Nat->Bool}{held:Bool}{cs:List Value}{x:DataW Ht×List MemPlace}{t:TypeId}
theorem rd_int{k:IntKind}(ht:P.underlying t=some (.int k))(h:DataW.trod enc P w base spare held fuel t cs=some x):∃ z:Int,cs=[.int k z]/\k.min<=z/\z<=k.max:=by
 have⟨z,h1,_,h2⟩:=DataW.trod_int ht h;refine⟨z,h1,?_⟩;simp only[Lit.wf,A3,decide_eq_true_eq] at h2;exact h2
theorem rd_bool(ht:P.underlying t=some .bool)(h:DataW.trod enc P w base spare held fuel t cs=some x):∃ z:Bool,cs=[.bool z]:=by
 have⟨z,h1,_⟩:=DataW.trod_bool ht h;exact⟨z,h1⟩
theorem rd_str(ht:P.underlying t=some .string)(h:DataW.trod enc P w base spare held fuel t cs=some x):∃ s:Bs,cs=[str s]/\s.length<=9223372036854775807:=by
 have⟨s,h1,_,h2⟩:=DataW.trod_string ht h;refine⟨s.data.toList,by rw[h1,str_of],?_⟩;have :s.data.toList.length=s.size:=DA;rw[this];exact h2
theorem list_of{α:Type}{Q:Nat->α->Prop}:∀ n,(∀ i,i<n->∃ r,Q i r)->∃ rs:List α,rs.length=n/\∀ i (h:i<rs.length),Q i rs[i]
 |0,_=>⟨[],rfl,λi h=>by cases h⟩
 |n+1,hq=>by
   have⟨rs,hl,hr⟩:=list_of n (λi hi=>hq i qX)
   have⟨r,hr0⟩:=hq n qX
   refine⟨rs++[r],by simp[hl],λi hi=>?_⟩
   by_cases e:i<rs.length
   . rw[List.getElem_append_left e];exact hr i e
   . have :i=rs.length:=by simp at hi;omega
     subst this
     rw[List.getElem_append_right (AX _)]
     simp only[D3,List.getElem_cons_zero]
     rw[hl];exact hr0
theorem rd_fld{fs:Array Field}{xs:List (DataW Ht×List MemPlace)}{n i o k:Nat}{f:Field}{ft:TypeId}(hf:∀ (i:Nat) (f:Field),fs[i]? = some f->DataW.trod enc P w base spare held n f.type ((cs.drop f.offset).take (P.cellsOf f.type))=xs[i]?)(hl:xs.length=fs.size)
   (hi:fs[i]? = some f) (ho:f.offset=o) (ht:f.type=ft) (hk:P.cellsOf ft=k):∃ y,DataW.trod enc P w base spare held n ft ((cs.drop o).take k)=some y:=by
 have h:=hf i f hi;have hlt:i<fs.size:=(Array.getElem?_eq_some_iff.1 hi).1;rw[ho,ht,hk,AA qX] at h;exact⟨_,h⟩
end
theorem rd_agg{Ht:Type}{enc:TypeId×Value->Ht}{P:Program}{w:World}{r:Reach}{b0 base:Nat}{spare:Nat->Bool}{held:Bool}{t:TypeId}{fs:Array Field}{v:Value}{d:DataW Ht}{p:List MemPlace}(hs:P.underlying t=some (.struct fs))(hv:Value.okWide P w r b0 t v)
   (h:DataW.Trod enc P w base spare held t v d p):∃ (l:List Value) (fuel:Nat),v = .agg l.toArray/\DataW.trod enc P w base spare held fuel t l=some (d,p):=by
 obtain⟨cs,rfl,_⟩:=okWide_struct hs hv;have⟨fuel,hf⟩:=h;exact⟨cs.toList,fuel,rfl,hf⟩
theorem params_ok{P:Program}{ts:Array TypeId}(h:(ts.toList.all λt=>P.readableRec t && decide (t<P.types.size))=true):∀ t∈ts.toList,P.readableRec t=true/\t<P.types.size:=λt ht=>by
 have :=List.all_eq_true.1 h t ht
 exact sY
theorem rd_one_int{Ht:Type}{enc:TypeId×Value->Ht}{P:Program}{w:World}{r:Reach}{b0 base:Nat}{spare:Nat->Bool}{held:Bool}{t:TypeId}{k:IntKind}{v:Value}{d:DataW Ht}{p:List MemPlace}(hs:P.underlying t=some (.int k))(hv:Value.okWide P w r b0 t v)
   (h:DataW.Trod enc P w base spare held t v d p):∃ z:Int,v = .int k z/\k.min<=z/\z<=k.max:=by
 obtain⟨z,rfl,_,_,hw⟩:=open_int hs hv h;refine⟨z,rfl,?_⟩;simp only[Lit.wf,A3,decide_eq_true_eq] at hw;exact hw
def flatD:Nat->DataW Unit->List Value
 |_, .lit (.int k n)=>[.int k n]
 |_, .lit (.string s)=>[.string ⟨s.toArray⟩]
 |_, .lit (.bool b)=>[.bool b]
 |n+1, .agg l=>l.flatMap (flatD n)
 |_,_=>[]
def layD(d:DataW Unit):Obj->Obj
 | .cells _ t frozen=> .cells (flatD 5 d).toArray t frozen
 |o=>o
theorem trodAll_stays{Ht:Type}{enc:TypeId×Value->Ht}{P:Program}(hl:laidOutB P=true){W W':World}(hb:Below W.heap.size W W'){sp:Nat->Bool}:∀ {ts:List TypeId} {vs:List Value} {ds:List (DataW Ht)} {ps:List MemPlace},(∀ t∈ts,P.readableRec t=true/\t<P.types.size) ->
   DataW.TrodAll enc P W 0 (λ_=>true) true ts vs ds ps->(∀ x∈ps,x.block<W.heap.size)->(∀ x∈ps,sp x.block=true)->DataW.TrodAll enc P W' 0 sp true ts vs ds ps:=by
 intro ts
 induction ts with
 |nil=>intro vs ds ps _ h _ _;cases vs<;>cases ds<;>first|exact h|exact h.elim
 |cons t ts ih=>
   intro vs ds ps hr h hlt hsp
   obtain⟨v,vs',d,ds',p,q,rfl,rfl,rfl,h1,h2⟩:=trodAll_cons h
   exact trodAll_cons_mk (WideElems.Trod_stays hl (hr t pC).1 (hr t pC).2 h1 (λx hx=>hb.same (hlt x pR)) (λx hx=>hsp x pR)) (ih (λu hu=>hr u (by simp[hu])) h2 (λx hx=>hlt x pR) (λx hx=>hsp x pR))
section
variable{Ht:Type}{enc:TypeId×Value->Ht}{P:Program}
theorem law_post{f:Func}{s:ChangeSpec}{apart fresh again:Bool}{W W':World}{args:Array Value}{ds:List (DataW Ht)}{before:List MemPlace}{tb:TypeId}(hvars:s.vars=[])
   (hW:DataW.Whole enc P f.params.toList s.vars apart W args.toList ds [] before) (hb:Below W.heap.size W W') (hl:laidOutB P=true) (hr:∀ t∈f.params.toList,P.readableRec t=true/\t<P.types.size)
   (hres:f.resultTypes = #[tb]) (hu:P.underlying tb=some .bool) (hfn:s.fn Ht (ds++[])={results:=[.lit (.bool true)],args:=ds}):s.post enc P f apart fresh false again W args (.bool true) W':=by
 have hlt:∀ p∈before,p.block<W.heap.size:=λp hp=>hW.lt p hp;have hold:∀ p∈before,(λb=>decide (b<W.heap.size)) p.block=true:=λp hp=>by simpa using hlt p hp
 have hW0:=hW;obtain⟨p,q,hA,hV,rfl,hz,hn⟩:=hW0;have hq:q=[]:=by
   rw[hvars] at hV
   exact (trodVars_none hV).2
 subst hq;rw[List.append_nil] at hlt hold hz hn hW;have hA0:EC enc P W 0 (λ_=>true) true f.params.toList args.toList ds p:=hA;have hargs:∀ sp:Nat->Bool,(∀ x∈p,sp x.block=true)->EC enc P W' 0 sp true f.params.toList args.toList ds p:=λsp hs=>trodAll_stays hl hb hr hA0 hlt hs;have hvs:∀ sp:Nat->Bool,DataW.TrodVars enc P W' sp s.vars ([]:List (DataW Ht)) []:=λsp=>by rw[hvars];rfl
 have hR:∀ (b:Nat) (sp:Nat->Bool) (hd:Bool),EC enc P W' b sp hd f.resultTypes.toList ((GN true).resultList f.resultTypes.size) [.lit (.bool true)] []:=λb sp hd=>by
   rw[hres]
   exact trodAll_mk1 (shut_bool hu true)
 have hok:∀ (j:Nat) (t:TypeId) (r:Value),f.resultTypes[j]? = some t->((GN true).resultList f.resultTypes.size)[j]? = some r->GB P W' .any 0 t r:=ok_one hres Y (okWide_bool_mk hu true);refine⟨ds,[],p,[],p,[],hW,?_,?_,?_,World.keptBut_mono (λx hx=>⟨hx,Or.inr (by simpa using hx)⟩) (hb.frame (· ∈ p)),λ_=>?_⟩;rw[hfn];exact hR _ _ _;rw[hfn];exact hargs _ hold;rw[hfn];exact hvs _;refine⟨hok,_,_,([]++p)++[],⟨[]++p,[],trodAll_append (hargs _ (λ_ _=>rfl)) (hR _ _ _),hvs _,rfl,?_,?_⟩,?_⟩;intro b off hp;have hin:MemPlace.cell b off∈p:=by simpa using hp
 rw[hb.frozen (hlt _ hin)];exact hz b off hin;intro ha;have :=hn ha;exact sY;intro x hx _;simpa using hx
theorem gint_of_shape{w:World}{g:Nat}{t:TypeId}{zero:Array Value}(h:w.ShapedOpen P)(hg:g<P.globals.size)
   (h0:((begin P (λ_ _=>0) default).world.heap[g]?).bind Obj.row?=some (zero,t)) (hz:zero.size=1)
   (hb:P.buildable t=true) (hc:P.cellTypes P.depth t=some [t]) (hu:P.underlying t=some (.int .i64)):GInt (hp w) g:=by
 have⟨cs,hh,hs,hr⟩:=h.1 g zero t hg h0;have⟨ts,hts,_,hall⟩:=hr hb;rw[hc] at hts
 cases hts
 have h1:0<cs.size:=by omega
 have⟨u,hu',hok⟩:=hall 0 cs[0] (by simp[h1]);have :u=t:=by simpa using hu'.symm
 subst this;unfold Cell.ok at hok;rw[hu] at hok;have hv:∃ m,cs[0] = .int .i64 m:=by
   cases hv:cs[0]<;>rw[hv] at hok<;>first|exact⟨_,by rw[hok.1]⟩|simp at hok
 have⟨m,hm⟩:=hv;refine⟨m,u,(0,0),?_⟩;show w.heap[g]? = _;rw[hh];have e:cs = #[.int .i64 m]:=by
   apply Array.ext
   . simp;omega
   . intro i hi1 hi2
     have :i=0:=by simp at hi2;omega
     subst this
     simpa using hm
 rw[e]
theorem gtab_of{w:World}{g n:Nat}{name:String}{k:IntKind}{zs:List Int}{rest:List (String×DataW Unit)}{t e:TypeId}(hg:P.globalNamed name=some g)(hty:(P.globals[g]?).map (·.type)=some t)(ht:P.underlying t=some (.array n e))(he:P.underlying e=some (.int k))(hce:P.cellsOf e=1)(hct:P.cellsOf t=n)
   (h:laidMet P ((name,Lib.tabData k zs)::rest) w):∃ T fr,hp w g=some (.cells (zs.map (Value.int k)).toArray T fr):=by
 have hT:=Lib.tabIs_of_head hg hty ht he hce hct h;unfold Lib.TabIs World.var? at hT;rw[hg] at hT;simp only[Option.bind_some] at hT
 split at hT
 . rename_i cs T fr hh
   cases hT
   exact⟨T,fr,hh⟩
 . cases hT
end
variable{P:Program}
theorem dat_slice{Ht:Type}{enc:TypeId×Value->Ht}{w:World}{base fuel:Nat}{spare:Nat->Bool}{held:Bool}{a:Option Addr}{l c:Nat}{x:DataW Ht×List MemPlace}{t e:TypeId}(ht:P.underlying t=some (.slice e))
   (h:DataW.trod enc P w base spare held fuel t [.slice a l c]=some x):x.1 = .nil/\l=0\/∃ el sp,x.1 = .slice el sp/\el.length=l:=by
 rcases EU ht h with ⟨h1,h2⟩|⟨a',len,cap,m,nf,D,Pl,h1,_,hl,hm,hmm,hx,_⟩
 . cases h1;subst h2;exact .inl ⟨rfl,rfl⟩
 . cases h1;subst hx;exact .inr ⟨_,_,rfl,by simp⟩
theorem rd_one_slice{w:World}{r:Reach}{b0:Nat}{t e:TypeId}{v:Value}{a:Option Addr}{l c:Nat}(hs:P.underlying t=some (.slice e))(hv:Value.okWide P w r b0 t v)(he:v.cells.toList=[.slice a l c]):v = .slice a l c:=by
 unfold GB at hv;rw[hs] at hv;simp only at hv;unfold Cell.okWide at hv;rw[hs] at hv
 cases v with
 |agg cs=>simp[Cell.ok,hs] at hv
 |_=>exact (List.cons.inj he).1
def Rdv{α:Type}(P:Program)(t:TypeId)(en:α->List PV)(k:Nat):Prop:=
 ∀ (Ht:Type) (enc:TypeId×Value->Ht) (w:World) (base:Nat) (spare:Nat->Bool) (held:Bool) (fuel:Nat) (cs:List Value) (x:DataW Ht×List MemPlace),
   DataW.trod enc P w base spare held fuel t cs=some x->(∀ n∈x.1.weights P t,n<=reachBytes)->∃ r:α,RowE en k (hp w) r cs
theorem rowE1{α:Type}{en:α->List PV}{H:Hp}{r:α}{p:PV}{v:Value}(he:en r=[p])(h:Sim H p v)(ho:v.oneCell'=true):RowE en 1 H r [v]:=
 ⟨by rw[he];rfl,by rw[he];exact Sims.nil.cons h,λu hu=>by rw[List.mem_singleton.1 hu];exact ho⟩
theorem Gf_{k:IntKind}{t:TypeId}(ht:P.underlying t=some (.int k)):Rdv P t (λz:Int=>[.int k z]) 1:=λ_ _ _ _ _ _ _ _ _ h _=>by
 obtain⟨z,rfl,h1,h2⟩:=rd_int ht h
 exact⟨z,rowE1 Y (.int h1 h2) Y⟩
theorem rdv_bool{t:TypeId}(ht:P.underlying t=some .bool):Rdv P t (λz:Bool=>[.bool z]) 1:=λ_ _ _ _ _ _ _ _ _ h _=>by
 obtain⟨z,rfl⟩:=rd_bool ht h
 exact⟨z,rowE1 Y .bool Y⟩
theorem Ka_{t:TypeId}(ht:P.underlying t=some .string):Rdv P t (λs:Bs=>[.str s]) 1:=λ_ _ _ _ _ _ _ _ _ h _=>by
 obtain⟨s,rfl,h1⟩:=rd_str ht h
 exact⟨s,rowE1 Y (.str h1) Y⟩
theorem Sz_{H:Type}{e:TypeId}:∀ {ds:List (DataW H)} {d:DataW H} {n:Nat},d∈ds->n∈d.weights P e->n∈DataW.weightsAll P e ds
 |[],_,_,h,_=>by cases h
 |d0::r,d,n,h,hn=>by
   simp only[DataW.weightsAll,FX]
   rcases List.mem_cons.1 h with rfl|q
   . exact .inl hn
   . exact .inr (Sz_ q hn)
theorem Rb_{α:Type}{en:α->List PV}{k:Nat}{t e:TypeId}(ht:P.underlying t=some (.slice e))(hk:P.cellsOf e=k)(h0:0<k)(hb:0<P.bytesOf e)(he:Rdv P e en k):Rdv P t (λxs:List α=>[.sl en xs]) 1:=λHt enc w base spare held fuel cs x h hw=>by
 have hlen:∀ {a:Option Addr} {l c:Nat},cs=[.slice a l c]->l<=140737488355328:=λ{a l c} hcs=>by
   subst hcs
   rcases dat_slice ht h with ⟨_,rfl⟩|⟨el,sp,hx,rfl⟩
   . exact B5 _
   . have :=hw ((el.length+sp.length)*P.bytesOf e) (by rw[hx];simp[ED,ht])
     have h1:el.length<=(el.length+sp.length)*P.bytesOf e:=AK (Nat.le_add_right _ _) (BQ _ hb)
     have h2:reachBytes=140737488351232:=by decide
     omega
 rcases EU ht h with ⟨h1,_⟩|⟨a,len,cap,m,nf,D,Pl,h1,_,hl,hm,hmm,hx,hi⟩
 . subst h1
   exact⟨[],rowE1 Y (Sim.of_slh (k:=0) slh_nil pC) rfl⟩
 . have hs0:0<len->a=⟨a.block,a.off,none⟩:=by
     intro hl0
     have⟨cs',hc,hT⟩:=hi 0 (by rw[hmm];split<;>omega)
     rw[hk,EB] at hc
     have⟨_,hcl,hat⟩:=FG hc
     have ha0:=hat 0 h0
     rw[AA qX] at ha0
     have⟨ab,ao,asp⟩:=a
     cases asp with
     |none=>rfl
     |some z=>
       exfalso
       unfold CB at ha0
       simp only[Addr.add] at ha0
       grind
   have hwD:∀ i,i<len->∀ n∈(D i).weights P e,n<=reachBytes:=λi hil n hn=>by
     refine hw n ?_
     rw[hx]
     simp only[ED,ht,EG,FX]
     exact .inr (.inl (Sz_ (List.mem_map.2 ⟨i,List.mem_range.2 hil,rfl⟩) hn))
   have key:∀ i,i<len->∃ r:α,∃ cs',RowE en k (hp w) r cs'/\SlAt (hp w) (.slice (some a) len cap) k i cs':=by
     intro i hil
     have ha:=hs0 qX
     have⟨cs',hc,hT⟩:=hi i (by rw[hmm];split<;>omega)
     have⟨r,hr⟩:=he _ _ _ _ _ _ _ _ _ hT (hwD i hil)
     rw[hk] at hc
     have⟨_,hcl,hat⟩:=FG hc
     refine⟨r,cs',hr,?_⟩
     generalize a.block=ab at ha
     generalize a.off=ao at ha
     subst ha
     simp only[G8_] at hat
     have ha0:=hat 0 h0
     rw[AA qX] at ha0
     unfold CB at ha0
     simp only at ha0
     split at ha0
     . rename_i c T fr hb
       refine⟨ab,ao,len,cap,c,T,fr,rfl,hb,hcl,λj hj=>?_⟩
       have :=hat j hj
       unfold CB at this
       grind
     . cases ha0
   have⟨rs,hlen',hr⟩:=list_of (Q:=λi (r:α)=>∃ cs',RowE en k (hp w) r cs'/\SlAt (hp w) (.slice (some a) len cap) k i cs') len key
   have hs:SlH (RowE en k) k (hp w) (.slice (some a) rs.length cap) rs:=⟨⟨some a,cap,rfl,by omega⟩,λi hi=>by rw[hlen'];exact hr i hi⟩
   subst h1
   have hle:=hlen (rfl :[Value.slice (some a) len cap]=_)
   refine⟨rs,rowE1 Y (v:= .slice (some a) len cap) (by rw[<- hlen'];exact Sim.of_slh hs qX) Y⟩
theorem rows_app{ps qs:List PV}{H:Hp}{cs ds:List Value}{m n:Nat}(h:ps.length=m/\Sims H ps cs/\∀ u∈cs,u.oneCell'=true)(k:qs.length=n/\Sims H qs ds/\∀ u∈ds,u.oneCell'=true):(ps++qs).length=m+n/\Sims H (ps++qs) (cs++ds)/\∀ u∈cs++ds,u.oneCell'=true:=
 ⟨by simp[h.1,k.1],h.2.1.append k.2.1,λu hu=>by rcases List.mem_append.1 hu with q|q;exact h.2.2 u q;exact k.2.2 u q⟩
theorem Cs_{Ht:Type}{enc:TypeId×Value->Ht}{w:World}{base:Nat}{spare:Nat->Bool}{held:Bool}{cs:List Value}{t:TypeId}{fs:Array Field}{xs:List (DataW Ht×List MemPlace)}{n i o k:Nat}{f:Field}{ft:TypeId}{α:Type}{en:α->List PV}(ht:P.underlying t=some (.struct fs))
   (hf:∀ (i:Nat) (f:Field),fs[i]? = some f->DataW.trod enc P w base spare held n f.type ((cs.drop f.offset).take (P.cellsOf f.type))=xs[i]?) (hl:xs.length=fs.size) (hw:∀ q∈(DataW.agg (xs.map (·.1)):DataW Ht).weights P t,q<=reachBytes)
   (hi:fs[i]? = some f) (ho:f.offset=o) (hft:f.type=ft) (hk:P.cellsOf ft=k) (hr:Rdv P ft en k):∃ r,RowE en k (hp w) r ((cs.drop o).take k):=by
 have⟨y,hy⟩:=rd_fld hf hl hi ho hft hk;refine hr _ _ _ _ _ _ _ _ _ hy λq hq=>hw q ?_;have h:=hf i f hi;rw[ho,hft,hk,hy] at h;simp only[ED,ht];refine EM (j:=i) (t:=ft) (d:=y.1) ?_ ?_ q hq;grind;grind
theorem Dy_{en:List PV}{H:Hp}{cs:List Value}{o k:Nat}{q:Nat}(h:en.length=k/\Sims H en ((cs.drop o).take k)/\∀ u∈(cs.drop o).take k,u.oneCell'=true){es:List PV}(hr:es.length=q/\Sims H es (cs.drop (o+k))/\∀ u∈cs.drop (o+k),u.oneCell'=true):(en++es).length=k+q/\Sims H (en++es) (cs.drop o)/\∀ u∈cs.drop o,u.oneCell'=true:=by
 have :=rows_app h hr;rw[<- BZ,AL] at this;exact this
theorem Lx_{en:List PV}{H:Hp}{cs:List Value}{o k:Nat}(hl:cs.length=o+k)(h:en.length=k/\Sims H en ((cs.drop o).take k)/\∀ u∈(cs.drop o).take k,u.oneCell'=true):en.length=k/\Sims H en (cs.drop o)/\∀ u∈cs.drop o,u.oneCell'=true:=by
 rw[AZ pL] at h;exact h
section
variable{Ht:Type}{enc:TypeId×Value->Ht}{w:World}{r:Reach}{b0 base:Nat}{spare:Nat->Bool}{held:Bool}{t:TypeId}{v:Value}{d:DataW Ht}{p:List MemPlace}
theorem arg_int{k:IntKind}(hs:P.underlying t=some (.int k))(hv:Value.okWide P w r b0 t v)(h:DataW.Trod enc P w base spare held t v d p):∃ z:Int,Sim (hp w) (.int k z) v:=by
 obtain⟨z,rfl,h1,h2⟩:=rd_one_int hs hv h;exact⟨z, .int h1 h2⟩
theorem arg_rec{α:Type}{en:α->List PV}{k:Nat}{fs:Array Field}(hs:P.underlying t=some (.struct fs))(hv:Value.okWide P w r b0 t v)(h:DataW.Trod enc P w base spare held t v d p)(hw:∀ q∈d.weights P t,q<=reachBytes)(hr:Rdv P t en k):∃ z:α,Sim (hp w) (.agg (en z)) v:=by
 obtain⟨l,fuel,rfl,h1⟩:=rd_agg hs hv h;have⟨z,h2⟩:=hr _ _ _ _ _ _ _ _ _ h1 hw;exact⟨z,Sim.toAgg h2.2.1⟩
theorem arg_sl{α:Type}{en:α->List PV}{e:TypeId}(hs:P.underlying t=some (.slice e))(hv:Value.okWide P w r b0 t v)(h:DataW.Trod enc P w base spare held t v d p)(hw:∀ q∈d.weights P t,q<=reachBytes)(hr:Rdv P t (λxs:List α=>[.sl en xs]) 1):∃ z:List α,Sim (hp w) (.sl en z) v:=by
 have⟨fuel,h1⟩:=h;have⟨z,h2⟩:=hr _ _ _ _ _ _ _ _ _ h1 hw;have⟨u,us,e1,h3,h4⟩:=h2.2.1.inv_cons
 cases h4.inv_nil
 have :∃ a l c,u = .slice a l c:=by cases h3;exact⟨_,_,_,rfl⟩
 obtain⟨a,l,c,rfl⟩:=this;obtain rfl :=rd_one_slice hs hv e1;exact⟨z,h3⟩
theorem wt_arg{ts:List TypeId}{ds:List (DataW Ht)}{j:Nat}(hw:(DataW.weightsEach P ts ds).all (· <= reachBytes)=true)(ht:ts[j]? = some t)(hd:ds[j]? = some d):∀ q∈d.weights P t,q<=reachBytes:=λq hq=>by
 have :=List.all_eq_true.1 hw q (EM ht hd q hq)
 exact sY
end
theorem law_run{G:Gb}{f:FuncId}{args:List PV}{b:Bool}{vs:List Value}{W:World}(h:Fn P G f args (.bool b))(hg:G.p (hp W))(hs:Sims (hp W) args vs)(hb:b=true):Calls P f vs.toArray W λe W'=>e = .returned (.bool true)/\Mem (rest0 W) (hp W) l0 W':=
 (h.run (rest0 W) (hp W) l0 W vs hg hs (mem0 W)).mono λ_ _ ⟨v,H',h1,h2,h3,h4⟩=>⟨by rw[h1,h2.inv_bool,hb],h4.le h3⟩
end Go.SW
namespace Go.SW.V
open Go.SW
variable{P:Program}{n m:Nat}{N:Rest}{H0:Env}{all rest:List Oper}{Q:Qs}{ks:List Kt}{fF gF:Nat->PV}{fL gL:Nat->Blk}{T ty d:Nat}{pos:String}{af:Array Edge}{x y z:Operand}
def deF(ts:List Nat)(G:Nat->PV):Nat->PV:=λt=>bif memB ts t then G t else (match G t with
 | .osl _=> .junk
 |p=>p)
def arrU:Blk->Option Value
 | .arr u _ _ _ _=>some u
 |_=>none
def keptO(G:Nat->PV)(L L':Nat->Blk):List Nat->Prop
 |[]=>True
 | t::r=>(match G t with
   | .osl q=>arrU (L' q)=arrU (L q)
   |_=>True)/\keptO G L L' r
theorem keptO_get{G:Nat->PV}{L L':Nat->Blk}:∀ {ts:List Nat} {t q:Nat},keptO G L L' ts->t∈ts->G t = .osl q->arrU (L' q)=arrU (L q)
 |[],t,q,_,h,_=>by cases h
 |a::r,t,q,hk,h,hG=>by
   rcases List.mem_cons.1 h with rfl|h
   . have :=hk.1;rw[hG] at this;exact this
   . exact keptO_get hk.2 h hG
def inlK(P:Program)(n:Nat)(N:Rest)(H0:Env)(tb:Tb)(rs:List ResultVar)(ts:List Nat)(fF:Nat->PV)(fL:Nat->Blk)(Q:Qs)(all rest:List Oper)(ks:List Kt)(d:Nat):Qs:=λe s=>(e = .normal\/e = .ret) /\
 ∃ ps as0 bs,Lr_ tb s rs=some (ps,as0,bs)/\as0=bs/\(tupP ps).noOsl=true/\keptO fF fL s.L ts/\Hd P n N H0 Q (.ops all rest) ks ⟨updp (deF ts fF) d (tupP ps),s.L⟩
theorem inlr{H1:Env}{tb:Tb}{rs:List ResultVar}{ts:List Nat}{ps:List PV}{as0 bs:List Nat}(h:Lr_ tb ⟨gF,gL⟩ rs=some (ps,as0,bs))(he:as0=bs)(hno:(tupP ps).noOsl=true)(hk:keptO fF fL gL ts)(k:Hd P n N H0 Q (.ops all rest) ks ⟨updp (deF ts fF) d (tupP ps),gL⟩):Hd P m N H1 (inlK P n N H0 tb rs ts fF fL Q all rest ks d) (.ex .ret) [] ⟨gF,gL⟩:=⟨.inr Y,ps,as0,bs,h,he,hno,hk,k⟩
theorem inln{H1:Env}{tb:Tb}{rs:List ResultVar}{ts:List Nat}{ps:List PV}{as0 bs:List Nat}(h:Lr_ tb ⟨gF,gL⟩ rs=some (ps,as0,bs))(he:as0=bs)(hno:(tupP ps).noOsl=true)(hk:keptO fF fL gL ts)(k:Hd P n N H0 Q (.ops all rest) ks ⟨updp (deF ts fF) d (tupP ps),gL⟩):Hd P m N H1 (inlK P n N H0 tb rs ts fF fL Q all rest ks d) (.ex .normal) [] ⟨gF,gL⟩:=⟨.inl Y,ps,as0,bs,h,he,hno,hk,k⟩
theorem deF_ok{ts:List Nat}{H:Hp}{F:Fr}(hf:∀ t,SimT fL H (fF t) (F t))(hk:keptO fF fL gL ts)(t:Nat):SimT gL H (deF ts fF t) (F t):=by
 have h1:=hf t;unfold deF
 cases e:memB ts t with
 |true=>
   simp only[cond_true]
   cases hp:fF t with
   |osl q=>
     have h2:=keptO_get hk (Qz_ e) hp
     rw[hp] at h1
     simp only[SimT] at h1 ⊢
     cases hg:gL q with
     |arr u' k' e' enc' xs'=>
       cases hl:fL q with
       |arr u k e enc xs=>rw[hg,hl] at h2;simp only[arrU,Option.some.injEq] at h2;rw[hl] at h1;rw[h2];exact h1
       |_=>rw[hg,hl] at h2;simp[arrU] at h2
     |_=>trivial
   |_=>rw[hp] at h1;exact h1
 |false=>
   simp only[cond_false]
   cases hp:fF t with
   |osl q=>exact Sim.junk
   |_=>rw[hp] at h1;exact h1
theorem hinl{tb:Tb}{f:FuncId}{fn:Func}{c:Code}{args:List PV}{xs:Array Operand}{ats:Array TypeId}(ts:List Nat)(ht:tbB P tb=true)(hf:P.funcs[f]? = some fn)(hb:fn.body=some c)(hn:fn.ntmps=m)(hcb:A4_ P f)(ha:argsP fF x xs.toList=some (f,args))(hs:Nat.ble args.length m=true)(hna:Ds_ args=true)(hd:Nat.blt d n=true)
   (h:∀ Hc,H0.g.p Hc->Hd P m N ⟨Hc,H0.g⟩ (inlK P n N H0 tb fn.results.toList ts fF fL Q all rest ks d) (.code c) [] ⟨Qf_ args,fL⟩):Hd P n N H0 Q (.ops all (⟨some d, .call ⟨.value x,xs,ats⟩,ty,pos,af,none⟩::rest)) ks ⟨fF,fL⟩:=by
 intro F H L hab;have⟨vs,h1,h2⟩:=Jk_ (ats:=ats) hab.f ha hcb;refine ow1 λa w hA hm=>?_;rw[if_pos pH];unfold BG;rw[hA.eval,h2];subst hn;have h3:=h H hab.g (L0_ vs.toArray) H L ⟨.refl H,hab.g,λt=>Ns_ h1 hna t,hab.l⟩;refine I1_ (R:=λv H' L'=>∃ (sL:Nat->Blk) (res:PV),Sim H' res v/\res.noOsl=true/\keptO fF fL sL ts/\(∀ i,SimB sL H' (sL i) (L' i))/\H0.g.p H'/\Hd P n N H0 Q (.ops all rest) ks ⟨updp (deF ts fF) d res,sL⟩) (H0:=H) hf hb (by have :=BW hs;simp[h1.1];exact this) (Lb_ (λe F' H' L' hq=>?_) h3) hm ?_
 . have⟨s',ha',he,ps,as0,bs,e1,e2,e3,e4,e5⟩:=hq
   have⟨_,v,hr,hv⟩:=Rd_ (N:=N) (res:=tupP ps) ht ha' (show rtK tb fn.results.toList (tupP ps) e s' from ⟨he,ps,as0,bs,e1,e2,ple Y⟩)
   rcases he with rfl|rfl
   exact yI
   exact yI
 intro v H' L' w' ⟨sL,res,e1,e2,e3,e4,e5,e6⟩ hl hm';refine⟨_,H',L',hA.put pI v,hm',?_⟩;exact e6 _ _ _ (Abs.put (p:=res) (s:=⟨deF ts fF,sL⟩) ⟨hab.le.trans hl,e5,deF_ok (λt=>(hab.f t).mono hl) e3,e4⟩ d (e1.simT e2))
variable{K:St->Prop}
theorem lo_aidx{F:Fr}{H:Hp}{L:Ls}{kk:IntKind}{b off len k m:Nat}{i:Int}{e:TypeId}(hx:ev F x = .pointer (some ⟨b,off,none⟩))(hy:ev F y = .int kk i)(hT:P.underlying T=some (.array len e))(hk:Sz P e k)(hi:i=(m:Int))(hm:m<len):SW.Lo P N (.indexAddr T x y) ty F H L (.pointer (some ⟨b,off+m*k,none⟩)):=λd pos af gg w _=>by
 subst hi
 simp[execOp,hy,hx,Instr.indexAt,asIntOf,run_underlying hT,Instr.sureAddr,hk w,hm,Addr.add]
theorem qaia{kk:IntKind}{i b off len k:Nat}{z:Int}{e:TypeId}(m:Nat)(hx:evP fF x = .own i b off)(hy:evP fF y = .int kk z)(hT:P.underlying T=some (.array len e))(hk:Sz P e k)(hi:z=(m:Int):=by exact qX)(hm:m<len:=by exact qX):Qy P N H0 ⟨fF,fL⟩ (.indexAddr T x y) ty (.own i b (off+m*k)):=λF H L ha=>by
 have h1:=(Dn_ ha.f x).sim
 have h2:=(Dn_ ha.f y).sim
 simp only at h1 h2
 rw[hx] at h1
 rw[hy] at h2
 exact⟨_,Sim.own,λ_ _ _=>lo_aidx h1.inv_own h2.inv_int.1 hT hk hi hm⟩
theorem oload1{tb:Tb}{ti:TI}{i b b' off T0:Nat}{cs:List PV}(p:PV)(ht:tbB P tb=true)(hx:evP fF x = .own i b off)(hb:fL i = .box b' T0 cs)(hbb:b'=b)(hti:lkT tb T=some ti)(hag:ti.k.isAgg=false)(hc:cs[off]? = some p)(hd:Nat.blt d n=true)(k:p.wf->K ⟨updp fF d p,fL⟩):E1 P n N H0 all ⟨some d, .load T x,ty,pos,af,none⟩ none ⟨fF,fL⟩ K:=by
 intro F H L ha;subst hbb;have h1:=(Dn_ ha.f x).sim;simp only at h1;rw[hx] at h1;have h3:=ha.l i;simp only[hb] at h3;have⟨vs,hL,hs⟩:=h3;have⟨v,hv,hsv⟩:=hs.get hc;have hg:=(Eq_ ht hti).ag;rw[hag] at hg;exact Q0_ hd (Mo_ h1.inv_own hg hL hv) ⟨.refl H,λ_ _=>rfl,_,ha.put d hsv,k hsv.sim.wf⟩
theorem oloadA{tb:Tb}{ti:TI}{i b b' off T0:Nat}{cs:List PV}(ps:List PV)(ht:tbB P tb=true)(hx:evP fF x = .own i b off)(hb:fL i = .box b' T0 cs)(hbb:b'=b)(hti:lkT tb T=some ti)(hag:ti.k.isAgg=true)(hc:(cs.drop off).take ti.size=ps)(hl:off+ti.size<=cs.length)(hd:Nat.blt d n=true)(k:PV.wfs ps->K ⟨updp fF d (.agg ps),fL⟩):E1 P n N H0 all ⟨some d, .load T x,ty,pos,af,none⟩ none ⟨fF,fL⟩ K:=by
 intro F H L ha;subst hbb;have h1:=(Dn_ ha.f x).sim;simp only at h1;rw[hx] at h1;have h3:=ha.l i;simp only[hb] at h3;have⟨vs,hL,hs⟩:=h3;have hg:=(Eq_ ht hti).ag;rw[hag] at hg;have hsv:Sims H ps ((vs.drop off).take ti.size):=by rw[<- hc];exact (hs.sims.drop off).take ti.size
 exact Q0_ hd (Ww_ (vs:=(vs.drop off).take ti.size) h1.inv_own hg (Eq_ ht hti).sz hL Y (by simp[hs.1];omega)) ⟨.refl H,λ_ _=>rfl,_,ha.put (p:= .agg ps) d (Sim.toAgg hsv),k hsv.wf⟩
theorem ostore1{tb:Tb}{ti:TI}{i b b' off T0:Nat}{cs:List PV}{p:PV}(cs':List PV)(ht:tbB P tb=true)(hx:evP fF x = .own i b off)(hb:fL i = .box b' T0 cs)(hti:lkT tb T=some ti)(hsz:ti.size=1)(hy:evS (evP fF y)=some p)(ho:p.one=true)(hl:off<cs.length)(hbb:b'=b)(hc:cs.set off p=cs')
   (k:K ⟨fF,lups fL i (.box b T0 cs')⟩):E1 P n N H0 all ⟨none, .store T x y,ty,pos,af,none⟩ (some i) ⟨fF,fL⟩ K:=
 store1 ht hx hb hti hsz hy ho (by simpa [G7] using hl) hbb (by rw[hc];simp only[evL,Vh_]) k
theorem ostoreA{tb:Tb}{ti:TI}{i b b' off T0:Nat}{cs ps:List PV}(cs':List PV)(ht:tbB P tb=true)(hx:evP fF x = .own i b off)(hb:fL i = .box b' T0 cs)(hti:lkT tb T=some ti)(hy:evP fF y = .agg ps)(hn:Ds_ ps=true)(ho:all1 ps=true)(hsz:ps.length=ti.size)(hl:off+ti.size<=cs.length)(hbb:b'=b)(hc:cs.take off++(ps++cs.drop (off+ti.size))=cs')
   (k:K ⟨fF,lups fL i (.box b T0 cs')⟩):E1 P n N H0 all ⟨none, .store T x y,ty,pos,af,none⟩ (some i) ⟨fF,fL⟩ K:=
 storeA ht hx hb hti hy hn ho hsz pZ hbb (by rw[hc];simp only[evL,Vh_]) k
theorem Yu_{tb:Tb}{ti:TI}{i b b' off T0 len:Nat}{cs:List PV}(row:Nat->PV)(m base w o:Nat)(ht:tbB P tb=true)(hx:evP fF x = .own i b off)(hb:fL i = .box b' T0 cs)(hbb:b'=b)(hti:lkT tb T=some ti)(hag:ti.k.isAgg=false)(hoff:off=base+m*w+o)(hm:m<len)(hc:∀ q,q<len->cs[base+q*w+o]? = some (row q))(hd:Nat.blt d n=true)(k:(row m).wf->K ⟨updp fF d (row m),fL⟩):E1 P n N H0 all ⟨some d, .load T x,ty,pos,af,none⟩ none ⟨fF,fL⟩ K:=
 oload1 (row m) ht hx hb hbb hti hag (by rw[hoff];exact hc m hm) hd k
theorem Og_{tb:Tb}{ti:TI}{i b b' off T0 len sz:Nat}{cs:List PV}(row:Nat->List PV)(m base w o:Nat)(ht:tbB P tb=true)(hx:evP fF x = .own i b off)(hb:fL i = .box b' T0 cs)(hbb:b'=b)(hti:lkT tb T=some ti)(hag:ti.k.isAgg=true)(hsz:ti.size=sz)(hoff:off=base+m*w+o)(hm:m<len)(hc:∀ q,q<len->(cs.drop (base+q*w+o)).take sz=row q)(hl:∀ q,q<len->Nat.ble (base+q*w+o+sz) cs.length=true)(hd:Nat.blt d n=true)(k:PV.wfs (row m)->K ⟨updp fF d (.agg (row m)),fL⟩):E1 P n N H0 all ⟨some d, .load T x,ty,pos,af,none⟩ none ⟨fF,fL⟩ K:=
 oloadA (row m) ht hx hb hbb hti hag (by rw[hoff,hsz];exact hc m hm) (by rw[hoff,hsz];simpa using hl m hm) hd k
theorem ostoreS1{tb:Tb}{ti:TI}{i b b' off T0 len:Nat}{cs cs2:List PV}{p:PV}(cs':Nat->List PV)(m base w o:Nat)(ht:tbB P tb=true)(hx:evP fF x = .own i b off)(hb:fL i = .box b' T0 cs)(hti:lkT tb T=some ti)(hsz:ti.size=1)(hy:evS (evP fF y)=some p)(ho:p.one=true)(hoff:off=base+m*w+o)(hm:m<len)(hl:∀ q,q<len->Nat.blt (base+q*w+o) cs.length=true)(hbb:b'=b)(hc:∀ q,q<len->cs.set (base+q*w+o) p=cs' q)(he:evL (cs' m)=some cs2)
   (k:K ⟨fF,lups fL i (.box b T0 cs2)⟩):E1 P n N H0 all ⟨none, .store T x y,ty,pos,af,none⟩ (some i) ⟨fF,fL⟩ K:=
 ostore1 cs2 ht hx hb hti hsz hy ho (by rw[hoff];simpa [G7] using hl m hm) hbb (by rw[hoff,hc m hm,<- evL_eq he]) k
theorem Rx_{tb:Tb}{ti:TI}{i b b' off T0 len sz:Nat}{cs ps cs2:List PV}(cs':Nat->List PV)(m base w o:Nat)(ht:tbB P tb=true)(hx:evP fF x = .own i b off)(hb:fL i = .box b' T0 cs)(hti:lkT tb T=some ti)(hsz:ti.size=sz)(hy:evP fF y = .agg ps)(hn:Ds_ ps=true)(ho:all1 ps=true)(hps:ps.length=sz)(hoff:off=base+m*w+o)(hm:m<len)(hl:∀ q,q<len->Nat.ble (base+q*w+o+sz) cs.length=true)(hbb:b'=b)(hc:∀ q,q<len->cs.take (base+q*w+o)++(ps++cs.drop (base+q*w+o+sz))=cs' q)(he:evL (cs' m)=some cs2)
   (k:K ⟨fF,lups fL i (.box b T0 cs2)⟩):E1 P n N H0 all ⟨none, .store T x y,ty,pos,af,none⟩ (some i) ⟨fF,fL⟩ K:=
 ostoreA cs2 ht hx hb hti hy hn ho (by rw[hps,hsz]) (by rw[hoff,hsz];simpa using hl m hm) hbb (by rw[hoff,hsz,hc m hm,<- evL_eq he]) k
theorem bw8{p:Nat->Prop}(h0:p 0)(h1:p 1)(h2:p 2)(h3:p 3)(h4:p 4)(h5:p 5)(h6:p 6)(h7:p 7):∀ m,m<8->p m
 |0,_=>h0|1,_=>h1|2,_=>h2|3,_=>h3|4,_=>h4|5,_=>h5|6,_=>h6|7,_=>h7
 |m+8,h=>absurd h qX
theorem bw16{p:Nat->Prop}(h0:p 0)(h1:p 1)(h2:p 2)(h3:p 3)(h4:p 4)(h5:p 5)(h6:p 6)(h7:p 7)(h8:p 8)(h9:p 9)(h10:p 10)(h11:p 11)(h12:p 12)(h13:p 13)(h14:p 14)(h15:p 15):∀ m,m<16->p m
 |0,_=>h0|1,_=>h1|2,_=>h2|3,_=>h3|4,_=>h4|5,_=>h5|6,_=>h6|7,_=>h7|8,_=>h8|9,_=>h9|10,_=>h10|11,_=>h11|12,_=>h12|13,_=>h13|14,_=>h14|15,_=>h15
 |m+16,h=>absurd h qX
structure A8(α:Type) where
 (e0 e1 e2 e3 e4 e5 e6 e7:α)
deriving DecidableEq,Inhabited
structure A16(α:Type) where
 (e0 e1 e2 e3 e4 e5 e6 e7 e8 e9 e10 e11 e12 e13 e14 e15:α)
deriving DecidableEq,Inhabited
def A8.get{α:Type}(a:A8 α):Nat->α
 |0=>a.e0|1=>a.e1|2=>a.e2|3=>a.e3|4=>a.e4|5=>a.e5|6=>a.e6|_=>a.e7
def A16.get{α:Type}(a:A16 α):Nat->α
 |0=>a.e0|1=>a.e1|2=>a.e2|3=>a.e3|4=>a.e4|5=>a.e5|6=>a.e6|7=>a.e7|8=>a.e8|9=>a.e9|10=>a.e10|11=>a.e11|12=>a.e12|13=>a.e13|14=>a.e14|_=>a.e15
def A8.set{α:Type}(a:A8 α)(v:α):Nat->A8 α
 |0=>{a with e0:=v}|1=>{a with e1:=v}|2=>{a with e2:=v}|3=>{a with e3:=v}|4=>{a with e4:=v}|5=>{a with e5:=v}|6=>{a with e6:=v}|_=>{a with e7:=v}
def A16.set{α:Type}(a:A16 α)(v:α):Nat->A16 α
 |0=>{a with e0:=v}|1=>{a with e1:=v}|2=>{a with e2:=v}|3=>{a with e3:=v}|4=>{a with e4:=v}|5=>{a with e5:=v}|6=>{a with e6:=v}|7=>{a with e7:=v}|8=>{a with e8:=v}|9=>{a with e9:=v}|10=>{a with e10:=v}|11=>{a with e11:=v}|12=>{a with e12:=v}|13=>{a with e13:=v}|14=>{a with e14:=v}|_=>{a with e15:=v}
theorem A16.get_set{α:Type}(a:A16 α)(v:α)(m q:Nat)(hm:m<16)(hq:q<16):(a.set v m).get q = if q=m then v else a.get q:=by
 revert q
 refine bw16 (p:=λm=>∀ q,q<16->(a.set v m).get q = if q=m then v else a.get q) ?_ ?_ ?_ ?_ ?_ ?_ ?_ ?_ ?_ ?_ ?_ ?_ ?_ ?_ ?_ ?_ m hm<;>exact bw16 Y Y Y Y Y Y Y Y Y Y Y Y Y Y Y Y
theorem A8.get_set{α:Type}(a:A8 α)(v:α)(m q:Nat)(hm:m<8)(hq:q<8):(a.set v m).get q = if q=m then v else a.get q:=by
 revert q
 refine bw8 (p:=λm=>∀ q,q<8->(a.set v m).get q = if q=m then v else a.get q) ?_ ?_ ?_ ?_ ?_ ?_ ?_ ?_ m hm<;>exact bw8 Y Y Y Y Y Y Y Y
end Go.SW.V
namespace Go.SW
structure F_ where
 P_:Mail
 Nr_:Bool
 again:Bool
deriving DecidableEq,Inhabited
abbrev aV:F_:=⟨aK,false,false⟩
def F_.pc(x:F_):List PV:=[aB x.P_.id, .str x.P_.Al_, .str x.P_.key, .sl Pair.pc x.P_.head, .str x.P_.body,aB x.P_.due, .int .u8 x.P_.hops, .bool x.Nr_, .bool x.again]
abbrev F_.ag(x:F_):PV:=.agg x.pc
structure Ak_ where
 item:F_
 count:Int
 lost:Int
deriving DecidableEq,Inhabited
abbrev bI:Ak_:=⟨⟨⟨0,[],[],[],[],0,0⟩,false,false⟩,0,0⟩
abbrev aP:Ak_:=⟨aV,0,0⟩
def Ak_.pc(x:Ak_):List PV:=[aB x.item.P_.id, .str x.item.P_.Al_, .str x.item.P_.key, .sl Pair.pc x.item.P_.head, .str x.item.P_.body,aB x.item.P_.due, .int .u8 x.item.P_.hops, .bool x.item.Nr_, .bool x.item.again,aA x.count,aA x.lost]
structure Dc_ where
 level:Int
 Td_:Int
deriving DecidableEq,Inhabited
abbrev bL:Dc_:=⟨0,0⟩
def Dc_.pc(x:Dc_):List PV:=[.int .u8 x.level, .int .u32 x.Td_]
abbrev Dc_.ag(x:Dc_):PV:=.agg x.pc
structure Bn_ where
 name:Bs
 label:Dc_
 bytes:Int
 base:Int
deriving DecidableEq,Inhabited
abbrev bN:Bn_:=⟨[108,111,119],bL,500,1⟩
def Bn_.pc(x:Bn_):List PV:=[.str x.name, .int .u8 x.label.level, .int .u32 x.label.Td_,aA x.bytes,aB x.base]
abbrev Bn_.ag(x:Bn_):PV:=.agg x.pc
structure Cc_ where
 frm:Int
 to':Int
 budget:Int
deriving DecidableEq,Inhabited
def Cc_.pc(x:Cc_):List PV:=[aA x.frm,aA x.to',aA x.budget]
abbrev Cc_.ag(x:Cc_):PV:=.agg x.pc
structure H_ where
 work:Int
 give:Int
 places:List Bn_
 slots:List Int
 grants:List Cc_
deriving DecidableEq,Inhabited
abbrev bC:H_:=⟨4,1,[bN],[0],[]⟩
abbrev aT:H_:=⟨0,0,[],[],[]⟩
def H_.pc(x:H_):List PV:=[aA x.work,aA x.give, .sl Bn_.pc x.places, .sl i64c x.slots, .sl Cc_.pc x.grants]
abbrev H_.ag(x:H_):PV:=.agg x.pc
structure D2_ where
 tick:Int
 kind:Int
 text:Bs
deriving DecidableEq,Inhabited
def D2_.pc(x:D2_):List PV:=[aB x.tick, .int .u8 x.kind, .str x.text]
structure Bu_ where
 total:Int
 kept:List D2_
deriving DecidableEq,Inhabited
abbrev bE:Bu_:=⟨0,[]⟩
def Bu_.pc(x:Bu_):List PV:=[aB x.total, .sl D2_.pc x.kept]
abbrev Bu_.ag(x:Bu_):PV:=.agg x.pc
structure Ar_ where
 items:List F_
deriving DecidableEq,Inhabited
abbrev bD:Ar_:=⟨[]⟩
def Ar_.pc(x:Ar_):List PV:=[.sl F_.pc x.items]
abbrev Ar_.ag(x:Ar_):PV:=.agg x.pc
structure Fe_ where
 q:Aa_
 l:Ar_
deriving DecidableEq,Inhabited
def Fe_.pc(x:Fe_):List PV:=[.str x.q.name,aB x.q.most,aB x.q.life, .str x.q.dead, .sl F_.pc x.l.items]
structure G9_ where
 q:Aa_
 l:List F_
deriving DecidableEq,Inhabited
def G9_.pc(x:G9_):List PV:=[.str x.q.name,aB x.q.most,aB x.q.life, .str x.q.dead, .sl F_.pc x.l]
structure Az_ where
 total:Int
 kept:List Mail
deriving DecidableEq,Inhabited
abbrev aM:Az_:=⟨0,[]⟩
def Az_.pc(x:Az_):List PV:=[aB x.total, .sl Mail.pc x.kept]
abbrev Az_.ag(x:Az_):PV:=.agg x.pc
abbrev A16_RiseR:=V.A16 Az_
def A16_RiseR.pc(x:A16_RiseR):List PV:=[aB x.e0.total, .sl Mail.pc x.e0.kept,aB x.e1.total, .sl Mail.pc x.e1.kept,aB x.e2.total, .sl Mail.pc x.e2.kept,aB x.e3.total, .sl Mail.pc x.e3.kept,aB x.e4.total, .sl Mail.pc x.e4.kept,aB x.e5.total, .sl Mail.pc x.e5.kept,aB x.e6.total, .sl Mail.pc x.e6.kept,aB x.e7.total, .sl Mail.pc x.e7.kept,aB x.e8.total, .sl Mail.pc x.e8.kept,aB x.e9.total, .sl Mail.pc x.e9.kept,aB x.e10.total, .sl Mail.pc x.e10.kept,aB x.e11.total, .sl Mail.pc x.e11.kept,aB x.e12.total, .sl Mail.pc x.e12.kept,aB x.e13.total, .sl Mail.pc x.e13.kept,aB x.e14.total, .sl Mail.pc x.e14.kept,aB x.e15.total, .sl Mail.pc x.e15.kept]
abbrev A16_u64:=V.A16 Int
def A16_u64.pc(x:A16_u64):List PV:=[aB x.e0,aB x.e1,aB x.e2,aB x.e3,aB x.e4,aB x.e5,aB x.e6,aB x.e7,aB x.e8,aB x.e9,aB x.e10,aB x.e11,aB x.e12,aB x.e13,aB x.e14,aB x.e15]
structure A2_ where
 round:Int
 count:Int
deriving DecidableEq,Inhabited
abbrev aJ:A2_:=⟨0,0⟩
def A2_.pc(x:A2_):List PV:=[aB x.round,aA x.count]
abbrev A8_SpentR:=V.A8 A2_
def A8_SpentR.pc(x:A8_SpentR):List PV:=[aB x.e0.round,aA x.e0.count,aB x.e1.round,aA x.e1.count,aB x.e2.round,aA x.e2.count,aB x.e3.round,aA x.e3.count,aB x.e4.round,aA x.e4.count,aB x.e5.round,aA x.e5.count,aB x.e6.round,aA x.e6.count,aB x.e7.round,aA x.e7.count]
structure G_ where
 next :Int
 bytes:Int
 rows:List Fe_
 rises:A16_RiseR
deriving DecidableEq,Inhabited
abbrev bO:G_:=⟨0,0,[],(⟨aM,aM,aM,aM,aM,aM,aM,aM,aM,aM,aM,aM,aM,aM,aM,aM⟩:A16_RiseR)⟩
def G_.pc(x:G_):List PV:=[aB x.next,aA x.bytes, .sl Fe_.pc x.rows,aB x.rises.e0.total, .sl Mail.pc x.rises.e0.kept,aB x.rises.e1.total, .sl Mail.pc x.rises.e1.kept,aB x.rises.e2.total, .sl Mail.pc x.rises.e2.kept,aB x.rises.e3.total, .sl Mail.pc x.rises.e3.kept,aB x.rises.e4.total, .sl Mail.pc x.rises.e4.kept,aB x.rises.e5.total, .sl Mail.pc x.rises.e5.kept,aB x.rises.e6.total, .sl Mail.pc x.rises.e6.kept,aB x.rises.e7.total, .sl Mail.pc x.rises.e7.kept,aB x.rises.e8.total, .sl Mail.pc x.rises.e8.kept,aB x.rises.e9.total, .sl Mail.pc x.rises.e9.kept,aB x.rises.e10.total, .sl Mail.pc x.rises.e10.kept,aB x.rises.e11.total, .sl Mail.pc x.rises.e11.kept,aB x.rises.e12.total, .sl Mail.pc x.rises.e12.kept,aB x.rises.e13.total, .sl Mail.pc x.rises.e13.kept,aB x.rises.e14.total, .sl Mail.pc x.rises.e14.kept,aB x.rises.e15.total, .sl Mail.pc x.rises.e15.kept]
abbrev G_.ag(x:G_):PV:=.agg x.pc
structure Ac_ where
 next :Int
 most:Int
 rows:List G9_
 rises:A16_RiseR
deriving DecidableEq,Inhabited
def Ac_.pc(x:Ac_):List PV:=[aB x.next,aA x.most, .sl G9_.pc x.rows,aB x.rises.e0.total, .sl Mail.pc x.rises.e0.kept,aB x.rises.e1.total, .sl Mail.pc x.rises.e1.kept,aB x.rises.e2.total, .sl Mail.pc x.rises.e2.kept,aB x.rises.e3.total, .sl Mail.pc x.rises.e3.kept,aB x.rises.e4.total, .sl Mail.pc x.rises.e4.kept,aB x.rises.e5.total, .sl Mail.pc x.rises.e5.kept,aB x.rises.e6.total, .sl Mail.pc x.rises.e6.kept,aB x.rises.e7.total, .sl Mail.pc x.rises.e7.kept,aB x.rises.e8.total, .sl Mail.pc x.rises.e8.kept,aB x.rises.e9.total, .sl Mail.pc x.rises.e9.kept,aB x.rises.e10.total, .sl Mail.pc x.rises.e10.kept,aB x.rises.e11.total, .sl Mail.pc x.rises.e11.kept,aB x.rises.e12.total, .sl Mail.pc x.rises.e12.kept,aB x.rises.e13.total, .sl Mail.pc x.rises.e13.kept,aB x.rises.e14.total, .sl Mail.pc x.rises.e14.kept,aB x.rises.e15.total, .sl Mail.pc x.rises.e15.kept]
abbrev Ac_.ag(x:Ac_):PV:=.agg x.pc
structure Aq_ where
 book:Ai_
 C_:G_
 notes:Bu_
 seen:A16_u64
 spent:A8_SpentR
deriving DecidableEq,Inhabited
abbrev bP:Aq_:=⟨aW,bO,bE,(⟨0,0,0,0,0,0,0,0,0,0,0,0,0,0,0,0⟩:A16_u64),(⟨aJ,aJ,aJ,aJ,aJ,aJ,aJ,aJ⟩:A8_SpentR)⟩
def Aq_.pc(x:Aq_):List PV:=[.sl X_.pc x.book.Ae_, .sl R_.pc x.book.binds,aB x.C_.next,aA x.C_.bytes, .sl Fe_.pc x.C_.rows,aB x.C_.rises.e0.total, .sl Mail.pc x.C_.rises.e0.kept,aB x.C_.rises.e1.total, .sl Mail.pc x.C_.rises.e1.kept,aB x.C_.rises.e2.total, .sl Mail.pc x.C_.rises.e2.kept,aB x.C_.rises.e3.total, .sl Mail.pc x.C_.rises.e3.kept,aB x.C_.rises.e4.total, .sl Mail.pc x.C_.rises.e4.kept,aB x.C_.rises.e5.total, .sl Mail.pc x.C_.rises.e5.kept,aB x.C_.rises.e6.total, .sl Mail.pc x.C_.rises.e6.kept,aB x.C_.rises.e7.total, .sl Mail.pc x.C_.rises.e7.kept,aB x.C_.rises.e8.total, .sl Mail.pc x.C_.rises.e8.kept,aB x.C_.rises.e9.total, .sl Mail.pc x.C_.rises.e9.kept,aB x.C_.rises.e10.total, .sl Mail.pc x.C_.rises.e10.kept,aB x.C_.rises.e11.total, .sl Mail.pc x.C_.rises.e11.kept,aB x.C_.rises.e12.total, .sl Mail.pc x.C_.rises.e12.kept,aB x.C_.rises.e13.total, .sl Mail.pc x.C_.rises.e13.kept,aB x.C_.rises.e14.total, .sl Mail.pc x.C_.rises.e14.kept,aB x.C_.rises.e15.total, .sl Mail.pc x.C_.rises.e15.kept,aB x.notes.total, .sl D2_.pc x.notes.kept,aB x.seen.e0,aB x.seen.e1,aB x.seen.e2,aB x.seen.e3,aB x.seen.e4,aB x.seen.e5,aB x.seen.e6,aB x.seen.e7,aB x.seen.e8,aB x.seen.e9,aB x.seen.e10,aB x.seen.e11,aB x.seen.e12,aB x.seen.e13,aB x.seen.e14,aB x.seen.e15,aB x.spent.e0.round,aA x.spent.e0.count,aB x.spent.e1.round,aA x.spent.e1.count,aB x.spent.e2.round,aA x.spent.e2.count,aB x.spent.e3.round,aA x.spent.e3.count,aB x.spent.e4.round,aA x.spent.e4.count,aB x.spent.e5.round,aA x.spent.e5.count,aB x.spent.e6.round,aA x.spent.e6.count,aB x.spent.e7.round,aA x.spent.e7.count]
abbrev Aq_.ag(x:Aq_):PV:=.agg x.pc
structure E_ where
 x:Aq_
 L_:H_
 place:Int
deriving DecidableEq,Inhabited
def E_.pc(x:E_):List PV:=[.sl X_.pc x.x.book.Ae_, .sl R_.pc x.x.book.binds,aB x.x.C_.next,aA x.x.C_.bytes, .sl Fe_.pc x.x.C_.rows,aB x.x.C_.rises.e0.total, .sl Mail.pc x.x.C_.rises.e0.kept,aB x.x.C_.rises.e1.total, .sl Mail.pc x.x.C_.rises.e1.kept,aB x.x.C_.rises.e2.total, .sl Mail.pc x.x.C_.rises.e2.kept,aB x.x.C_.rises.e3.total, .sl Mail.pc x.x.C_.rises.e3.kept,aB x.x.C_.rises.e4.total, .sl Mail.pc x.x.C_.rises.e4.kept,aB x.x.C_.rises.e5.total, .sl Mail.pc x.x.C_.rises.e5.kept,aB x.x.C_.rises.e6.total, .sl Mail.pc x.x.C_.rises.e6.kept,aB x.x.C_.rises.e7.total, .sl Mail.pc x.x.C_.rises.e7.kept,aB x.x.C_.rises.e8.total, .sl Mail.pc x.x.C_.rises.e8.kept,aB x.x.C_.rises.e9.total, .sl Mail.pc x.x.C_.rises.e9.kept,aB x.x.C_.rises.e10.total, .sl Mail.pc x.x.C_.rises.e10.kept,aB x.x.C_.rises.e11.total, .sl Mail.pc x.x.C_.rises.e11.kept,aB x.x.C_.rises.e12.total, .sl Mail.pc x.x.C_.rises.e12.kept,aB x.x.C_.rises.e13.total, .sl Mail.pc x.x.C_.rises.e13.kept,aB x.x.C_.rises.e14.total, .sl Mail.pc x.x.C_.rises.e14.kept,aB x.x.C_.rises.e15.total, .sl Mail.pc x.x.C_.rises.e15.kept,aB x.x.notes.total, .sl D2_.pc x.x.notes.kept,aB x.x.seen.e0,aB x.x.seen.e1,aB x.x.seen.e2,aB x.x.seen.e3,aB x.x.seen.e4,aB x.x.seen.e5,aB x.x.seen.e6,aB x.x.seen.e7,aB x.x.seen.e8,aB x.x.seen.e9,aB x.x.seen.e10,aB x.x.seen.e11,aB x.x.seen.e12,aB x.x.seen.e13,aB x.x.seen.e14,aB x.x.seen.e15,aB x.x.spent.e0.round,aA x.x.spent.e0.count,aB x.x.spent.e1.round,aA x.x.spent.e1.count,aB x.x.spent.e2.round,aA x.x.spent.e2.count,aB x.x.spent.e3.round,aA x.x.spent.e3.count,aB x.x.spent.e4.round,aA x.x.spent.e4.count,aB x.x.spent.e5.round,aA x.x.spent.e5.count,aB x.x.spent.e6.round,aA x.x.spent.e6.count,aB x.x.spent.e7.round,aA x.x.spent.e7.count,aA x.L_.work,aA x.L_.give, .sl Bn_.pc x.L_.places, .sl i64c x.L_.slots, .sl Cc_.pc x.L_.grants,aA x.place]
abbrev E_.ag(x:E_):PV:=.agg x.pc
structure M_ where
 p:H_
 at_:Int
 book:Ai_
 C_:Ac_
 notes:Bu_
 seen:A16_u64
 spent:A8_SpentR
deriving DecidableEq,Inhabited
def M_.pc(x:M_):List PV:=[aA x.p.work,aA x.p.give, .sl Bn_.pc x.p.places, .sl i64c x.p.slots, .sl Cc_.pc x.p.grants,aA x.at_, .sl X_.pc x.book.Ae_, .sl R_.pc x.book.binds,aB x.C_.next,aA x.C_.most, .sl G9_.pc x.C_.rows,aB x.C_.rises.e0.total, .sl Mail.pc x.C_.rises.e0.kept,aB x.C_.rises.e1.total, .sl Mail.pc x.C_.rises.e1.kept,aB x.C_.rises.e2.total, .sl Mail.pc x.C_.rises.e2.kept,aB x.C_.rises.e3.total, .sl Mail.pc x.C_.rises.e3.kept,aB x.C_.rises.e4.total, .sl Mail.pc x.C_.rises.e4.kept,aB x.C_.rises.e5.total, .sl Mail.pc x.C_.rises.e5.kept,aB x.C_.rises.e6.total, .sl Mail.pc x.C_.rises.e6.kept,aB x.C_.rises.e7.total, .sl Mail.pc x.C_.rises.e7.kept,aB x.C_.rises.e8.total, .sl Mail.pc x.C_.rises.e8.kept,aB x.C_.rises.e9.total, .sl Mail.pc x.C_.rises.e9.kept,aB x.C_.rises.e10.total, .sl Mail.pc x.C_.rises.e10.kept,aB x.C_.rises.e11.total, .sl Mail.pc x.C_.rises.e11.kept,aB x.C_.rises.e12.total, .sl Mail.pc x.C_.rises.e12.kept,aB x.C_.rises.e13.total, .sl Mail.pc x.C_.rises.e13.kept,aB x.C_.rises.e14.total, .sl Mail.pc x.C_.rises.e14.kept,aB x.C_.rises.e15.total, .sl Mail.pc x.C_.rises.e15.kept,aB x.notes.total, .sl D2_.pc x.notes.kept,aB x.seen.e0,aB x.seen.e1,aB x.seen.e2,aB x.seen.e3,aB x.seen.e4,aB x.seen.e5,aB x.seen.e6,aB x.seen.e7,aB x.seen.e8,aB x.seen.e9,aB x.seen.e10,aB x.seen.e11,aB x.seen.e12,aB x.seen.e13,aB x.seen.e14,aB x.seen.e15,aB x.spent.e0.round,aA x.spent.e0.count,aB x.spent.e1.round,aA x.spent.e1.count,aB x.spent.e2.round,aA x.spent.e2.count,aB x.spent.e3.round,aA x.spent.e3.count,aB x.spent.e4.round,aA x.spent.e4.count,aB x.spent.e5.round,aA x.spent.e5.count,aB x.spent.e6.round,aA x.spent.e6.count,aB x.spent.e7.round,aA x.spent.e7.count]
abbrev M_.ag(x:M_):PV:=.agg x.pc
structure Er_ where
 queue:Bs
 P_:Mail
deriving DecidableEq,Inhabited
def Er_.pc(x:Er_):List PV:=[.str x.queue,aB x.P_.id, .str x.P_.Al_, .str x.P_.key, .sl Pair.pc x.P_.head, .str x.P_.body,aB x.P_.due, .int .u8 x.P_.hops]
def MlOk(m:Mail):Prop:=m.head.length<=8/\0<=m.hops/\m.hops<=4/\m.key.length<=64
def P7_(l:List F_):Prop:=(l.map λx=>x.P_.id).Pairwise (· < ·)
def LnOk(l:Ar_):Prop:=l.items.length<=64/\(∀ x∈l.items,MlOk x.P_)/\P7_ l.items
def RiOk(x:Az_):Prop:=x.kept.length<=16/\∀ m∈x.kept,m.head.length<=8
def RwsOk(l:List Fe_):Prop:=l.length<=8/\(∀ r∈l,LnOk r.l)/\(l.map (·.q.name)).Nodup
def StkOk(s:G_):Prop:=RwsOk s.rows/\(∀ i,i<16->RiOk (s.rises.get i))/\0<=s.bytes/\s.bytes<=1000000
def BkOk(b:Ai_):Prop:=b.Ae_.length<=8/\b.binds.length<=32/\∀ y∈b.binds,y.key.length<=1000
def PoOk(p:H_):Prop:=0<p.places.length/\p.places.length<=16/\0<p.slots.length/\p.slots.length<=32/\p.grants.length<=8/\(∀ g∈p.grants,0<=g.frm/\g.frm<p.places.length/\0<=g.to'/\g.to'<p.places.length/\0<=g.budget/\g.budget<=16)/\∀ x∈p.places,0<=x.bytes/\x.bytes<=65536
def PrOk(x:Aq_):Prop:=BkOk x.book/\StkOk x.C_/\x.notes.kept.length<=32/\∀ i,i<8->0<=(x.spent.get i).count/\(x.spent.get i).count<=16
def DdOk(d:T_):Prop:=d.bind.key.length<=1000/\d.bind.want.length<=1000/\d.P_.head.length<=1000/\d.P_.key.length<=1000
def StOk(s:E_):Prop:=PrOk s.x/\PoOk s.L_/\0<=s.place/\s.place<s.L_.places.length
theorem Uj_:LnOk ⟨[]⟩:=⟨Nat.zero_le _,(λ_ h=>by cases h),List.Pairwise.nil⟩
theorem LnOk.sub{l m:Ar_}(h:LnOk l)(hs:m.items.Sublist l.items):LnOk m:=⟨Nat.le_trans hs.length_le h.1,λx hx=>h.2.1 x (hs.subset hx),h.2.2.sublist (hs.map _)⟩
theorem RwsOk.at{l:List Fe_}(h:RwsOk l){k:Nat}{x:Fe_}(hx:l[k]? = some x):LnOk x.l:=h.2.1 x (List.mem_of_getElem? hx)
theorem Ny_{α β:Type}(f:α->β):∀ (l:List α) (k:Nat) (x y:α),l[k]? = some x->f y=f x->(l.set k y).map f=l.map f
 |[],_,_,_,h,_=>by cases h
 |a::r,0,x,y,h,e=>by simp at h;subst h;simp[e]
 |a::r,k+1,x,y,h,e=>by simpa using Ny_ f r k x y pT e
theorem RwsOk.set{l:List Fe_}(h:RwsOk l){k:Nat}{x y:Fe_}(hx:l[k]? = some x)(hn:y.q.name=x.q.name)(hy:LnOk y.l):RwsOk (l.set k y):=by
 refine⟨by simpa using h.1,λr hr=>?_,?_⟩
 . rcases List.mem_or_eq_of_mem_set hr with q|q
   exact h.2.1 r q
   exact q ▸ hy
 rw[Ny_ (λr:Fe_=>r.q.name) l k x y hx hn];exact h.2.2
theorem RwsOk.sub{l m:List Fe_}(h:RwsOk l)(hs:m.Sublist l):RwsOk m:=⟨Nat.le_trans hs.length_le h.1,λr hr=>h.2.1 r (hs.subset hr),(hs.map _).nodup h.2.2⟩
theorem StkOk.set{s:G_}(h:StkOk s){v:Az_}(m:Nat)(hm:m<16)(hv:RiOk v):StkOk {s with rises:=s.rises.set v m}:=by
 refine⟨h.1,λi hi=>?_,h.2.2⟩;show RiOk ((s.rises.set v m).get i);rw[V.A16.get_set _ _ _ _ hm hi]
 split
 exact hv;exact h.2.1 i hi
theorem StOk.stk{s:E_}(h:StOk s):StkOk s.x.C_:=h.1.2.1
end Go.SW
