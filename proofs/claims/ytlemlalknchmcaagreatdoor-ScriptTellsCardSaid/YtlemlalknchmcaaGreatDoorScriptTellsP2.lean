/-
  A part of the proof of ScriptTells: Runs of quiet steps: one computation, proved once. Over any program that the table fits; it asks what it
-/
import Derived.Test.YtlemlalknchmcaaGreatDoorScriptTellsP1
import Derived.Lib.SplitLaws
import Derived.Lib.IndexAny
import Derived.Lib.ItoaLen
import Derived.Lib.Join
import Derived.Lib.LaidTab
import Derived.Lib.Space
import Derived.Lib.Fields
import Derived.ProofKit
import Derived.OpenShut
import Derived.Deep.Slices
import Derived.Carry
import Derived.SizedLaws
import Derived.KernelRfl
import Derived.Below
import Derived.Laws.AppendOwn
import Derived.Lib.FieldsP
import Derived.Lib.ParseIntB
import Derived.Lib.SmallJoins
import Derived.Test.YtlemlalknchmcaaGreatDoorProg
import Derived.Shelf.LaysM
import Derived.Shelf.Strings.Split
set_option linter.unusedVariables false
set_option linter.unusedSimpArgs false
set_option maxRecDepth 100000
set_option maxHeartbeats 4000000
open BitVec renaming ofInt->A4
open Bool renaming and_eq_true->A2,not_eq_true'->FK
open Decidable renaming byContradiction->BO
open Go.Builtin renaming firstCells->A8,lenOf->B4
open Go.DataW renaming TrodAll->EC,weights->ED,weights_mem_each->EM
open Go.Deep renaming open_slice->EY
open Go.IntKind renaming bits->A5,signed->B5,wrap->AA
open Go.Lib renaming decDigits->CI,join_cons->FI,count->ET,countB->CP,count_cons_eq->FP,count_cons_ne->FQ,count_miss->D3,index->AW,index_ge->H4,splitB_all->GG,splitB_data->G8,splitK->EA
open Go.Sem renaming run_bind->AL
open Go.Value renaming bool->H6,int->BM
open Go.World renaming cell?->B2,cells?_some->FJ
open Int renaming fdiv->FB
open List renaming all_cons->GF,append_assoc->DN,append_nil->FZ,drop_drop->G9,drop_of_length_le->BY,eq_nil_of_length_eq_zero->C8,getD_eq_getElem?_getD->AO,getElem?_append_left->CH,getElem?_append_right->AT,getElem?_eq_getElem->A9,getElem?_map->AR,getElem?_take->AD,isPrefixOf->CO,length->EB,length_drop->E2,length_map->BI,map_cons->DF,mem_append->G0,mem_of_getElem?->F5,take_of_length_le->BZ
open Nat renaming add_comm->H3,add_sub_cancel_left->BX,beq->A3,blt->AC,eq_of_beq_eq_true->A0,le_mul_of_pos_right->ES,le_of_ble_eq_true->A1,le_trans->C7,lt_or_ge->DB,zero_le->CR
open UInt8 renaming ofNat->B7,toNat_ofNat'->DC
open Go.Proofs.Tryz
namespace Go.SW
variable{P:Program}{n:Nat}{N:Rest}{H0:Env}
def frc0{α:Type _}(v:PV)(c:PV->α):α:=
 match v with
 | .int k z=>c (.int k z)
 | .bool b=>c (.bool b)
 | .str s=>c (.str s)
 | .agg cs=>c (.agg cs)
 | .sl e x=>c (.sl e x)
 | .own i b o=>c (.own i b o)
 | .osl i=>c (.osl i)
 | .el r o=>c (.el r o)
 | .fn f a b=>c (.fn f a b)
 | .tup vs=>c (.tup vs)
 | .gv g v=>c (.gv g v)
 | .val v=>c (.val v)
 | .usl v=>c (.usl v)
 | .junk=>c .junk
theorem H9_{α:Type _}(v:PV)(c:PV->α):frc0 v c=c v:=by cases v<;>rfl
def frcL{α:Type _}:List PV->(List PV->α)->α
 |[],c=>c []
 |p::r,c=>frc0 p λp=>frcL r λr=>c (p::r)
theorem Gj_{α:Type _}:∀ (l:List PV) (c:List PV->α),frcL l c=c l
 |[],c=>rfl
 |p::r,c=>by simp only[frcL,H9_,Gj_ r]
def frc{α:Type _}(v:PV)(c:PV->α):α:=
 match v with
 | .agg cs=>frcL cs λcs=>c (.agg cs)
 | .gv g v=>match v with
   | .agg cs=>frcL cs λcs=>c (.gv g (.agg cs))
   |v=>frc0 v λv=>c (.gv g v)
 |v=>frc0 v c
theorem Fs_{α:Type _}(v:PV)(c:PV->α):frc v c=c v:=by
 unfold frc;split<;>first|(simp only[Gj_];done)|(split<;>simp only[Gj_,H9_];done)|simp only[H9_]
def frcP{α:Type _}:List Prop->(List Prop->α)->α
 |[],c=>c []
 |p::r,c=>frcP r λr=>c (p::r)
theorem Er_{α:Type _}:∀ (l:List Prop) (c:List Prop->α),frcP l c=c l
 |[],c=>rfl
 |p::r,c=>by simp only[frcP,Er_ r]
def frcN{α:Type _}:List Nat->(List Nat->α)->α
 |[],c=>c []
 |p::r,c=>frcN r λr=>c (p::r)
theorem Gk_{α:Type _}:∀ (l:List Nat) (c:List Nat->α),frcN l c=c l
 |[],c=>rfl
 |p::r,c=>by simp only[frcN,Gk_ r]
inductive Cf where
 |code (c:Code)
 |ops (all rest:List Oper)
 |ex (e:Exit)
def Cf.holds(P:Program)(n:Nat)(N:Rest)(H0:Env)(Q:Qs):Cf->St->Prop
 | .code c,s=>Sw P n N H0 c Q s
 | .ops all rest,s=>So P n N H0 all rest Q s
 | .ex e,s=>Q e s
def Hd(P:Program)(n:Nat)(N:Rest)(H0:Env)(Q:Qs)(c:Cf)(ks:List Kt)(s:St):Prop:=Cf.holds P n N H0 (Kt.den P n N H0 ks Q) c s
structure RR where
 c:Cf
 ks:List Kt
 F:Nat->PV
 L:Nat->Blk
 ps:List Prop
 as0:List Nat
 bs:List Nat
def apP:List Prop->List Prop->List Prop
 |[],k=>k
 |p::r,k=>p::apP r k
theorem Ci_:∀ {ps qs:List Prop},AllP (apP ps qs)->AllP ps/\AllP qs
 |[],_,h=>⟨trivial,h⟩
 |_::_,_,h=>⟨⟨h.1,(Ci_ h.2).1⟩,(Ci_ h.2).2⟩
theorem Lb_:∀ (l:List Prop),apP l []=l
 |[]=>rfl
 |p::r=>by simp only[apP,Lb_ r]
def addP{α:Type _}(ps qs:List Prop)(c:List Prop->α):α:=
 match qs with
 |[]=>c ps
 |q::r=>frcP (apP ps (q::r)) c
theorem F9_{α:Type _}(ps qs:List Prop)(c:List Prop->α):addP ps qs c=c (apP ps qs):=by
 unfold addP;split;rw[Lb_];rw[Er_]
def vOp(tb:Tb)(s:St)(all:List Oper)(o:Oper):Option PR:=
 match o.guard with
 |none=>pop tb s.L s.F o.op
 |some (j,want)=>match nth all j with
   |some oj=>match oj.dst with
     |some dj=>match gC (s.F dj) want with
       |some g=>match Db_ s.F (tsOf o.op) with
         |true=>pG1 tb s.L s.F o.op g
         |false=>none
       |none=>none
     |none=>none
   |none=>none
def run(tb:Tb)(n:Nat):Nat->Cf->List Kt->(Nat->PV)->(Nat->Blk)->List Prop->List Nat->List Nat->Option RR
 |0,c,ks,F,L,ps,as0,bs=>frcP ps λps=>frcN as0 λas0=>frcN bs λbs=>some ⟨c,ks,F,L,ps,as0,bs⟩
 |k+1,c,ks,F,L,ps,as0,bs=>
   match c with
   | .code c=>match c with
     | .seq a b=>run tb n k (.code a) (.seq b::ks) F L ps as0 bs
     | .skip=>run tb n k (.ex .normal) ks F L ps as0 bs
     | .label _=>run tb n k (.ex .normal) ks F L ps as0 bs
     | .block id b=>run tb n k (.code b) (.blk id::ks) F L ps as0 bs
     | .scope b=>run tb n k (.code b) (.sc::ks) F L ps as0 bs
     | .exit i=>run tb n k (.ex (.exit i)) ks F L ps as0 bs
     | .ret=>run tb n k (.ex .ret) ks F L ps as0 bs
     | .region _ ops draw=>match draw with
       |false=>run tb n k (.ops ops.toList ops.toList) ks F L ps as0 bs
       |true=>none
     | .cond c a b=>match evP F c with
       | .bool p=>match p with
         |true=>run tb n k (.code a) ks F L ps as0 bs
         |false=>run tb n k (.code b) ks F L ps as0 bs
       |_=>none
     |_=>none
   | .ops all rest=>match rest with
     |[]=>run tb n k (.ex .normal) ks F L ps as0 bs
     |o::rest=>match o.dst with
       |some d=>match AC d n with
         |true=>match vOp tb ⟨F,L⟩ all o with
           |some ⟨v0,ps0,lk0⟩=>match lk0 with
             |none=>addP ps ps0 λps=>frc v0 λv=>run tb n k (.ops all rest) ks (updp F d v) L ps as0 bs
             |some (_,a,b)=>addP ps ps0 λps=>frc v0 λv=>run tb n k (.ops all rest) ks (updp F d v) L ps (a::as0) (b::bs)
           |none=>none
         |false=>none
       |none=>none
   | .ex e=>match ks with
     |[]=>none
     | .seq y::ks=>match e with
       | .normal=>run tb n k (.code y) ks F L ps as0 bs
       |e=>run tb n k (.ex e) ks F L ps as0 bs
     | .blk id::ks=>match e with
       | .exit i=>match A3 i id with
         |true=>run tb n k (.ex .normal) ks F L ps as0 bs
         |false=>run tb n k (.ex (.exit i)) ks F L ps as0 bs
       |e=>run tb n k (.ex e) ks F L ps as0 bs
     | .sc::ks=>match e with
       | .goto _=>none
       |e=>run tb n k (.ex e) ks F L ps as0 bs
     | .lp _::ks=>match e with
       | .normal=>none
       |e=>run tb n k (.ex e) ks F L ps as0 bs
theorem L7_{c b want:Bool}:(c&&(b==want))=(c&&gOf b want):=by cases b<;>cases want<;>rfl
theorem gqn{F:Fr}{H:Hp}{L:Ls}{ops rest:List Oper}{op:Op}{ty d j:Nat}{pos:String}{af:Array Edge}{Q:Qt}{want c b:Bool}{v:Value}(hy:yF ops F j=some (gv c (.bool b)))(hd:Nat.blt d n=true)(h:(c&&gOf b want)=true->Lo P N op ty F H L v)
   (k:Ow P n N ops rest Q (upd F d (gv (c&&gOf b want) v)) H L):Ow P n N ops (⟨some d,op,ty,pos,af,some (j,want)⟩::rest) Q F H L:=
 gq (c:=c) (b:=b) (v:=v) hy hd (λe=>h (L7_ ▸ e)) (L7_ (c:=c) (b:=b) (want:=want) ▸ k)
theorem Qa_{ops:List Oper}{F:Fr}{j d:Nat}{o:Oper}(h:nth ops j=some o)(hd:o.dst=some d):yF ops F j=some (F d):=by
 rw[B3_] at h;simp[yF,h,hd]
theorem gC_ok{p:PV}{v:Value}{H:Hp}{want g:Bool}(hg:gC p want=some g)(h:Sim H p v):∃ c b,v=gv c (.bool b)/\g=(c&&gOf b want):=by
 unfold gC at hg
 split at hg
 . cases hg;exact⟨true,_,h.inv_bool,by simp⟩
 . rename_i c q
   split at hg
   . rename_i b
     cases hg
     rcases h.inv_gv with ⟨rfl,h1⟩|⟨rfl,h1⟩
     exact⟨true,b,h1.inv_bool,rfl⟩
     exact⟨false,b,h1,rfl⟩
   . cases hg
 . cases hg
theorem so_v{tb:Tb}{all rest:List Oper}{o:Oper}{d:Nat}{Q:Qs}{s:St}{r:PR}(ht:tbB P tb=true)(ho:o.dst=some d)(hd:Nat.blt d n=true)(h:vOp tb s all o=some r)(hp:AllP r.ps)(he:∀ x,r.lk=some x->x.2.1=x.2.2)
   (k:So P n N H0 all rest Q ⟨updp s.F d r.v,s.L⟩):So P n N H0 all (o::rest) Q s:=by
 obtain⟨d',op,ty,pos,af,g⟩:=o
 cases ho
 unfold vOp at h
 split at h
 . rename_i hg
   cases hg
   exact so_pop ht hd h hp he k
 . rename_i j want hg
   cases hg
   split at h
   . rename_i oj hj
     split at h
     . rename_i dj hdj
       split at h
       . rename_i g hgc
         split at h
         . rename_i hno
           unfold pG1 at h
           split at h
           . rename_i v0 ps0 lk0 hr0
             split at h
             . rename_i hnv
               cases h
               intro F H L ha
               obtain⟨c,b,hv,hge⟩:=gC_ok hgc (ha.f dj).sim
               have hy:yF all F j=some (gv c (.bool b)):=by rw[Qa_ hj hdj,hv]
               obtain⟨hp1,hp2⟩:=Cj_ hp
               cases hgv:(c&&gOf b want) with
               |false=>
                 refine gqn (v:=undef) hy hd (λe=>by rw[hgv] at e;cases e) (k _ _ _ (ha.put d ?_))
                 rw[hge,hgv]
                 exact Sim.gvf
               |true=>
                 have hgt:g=true:=hge.trans hgv
                 obtain⟨val,h1,h2⟩:=J2_ (N:=N) (ty:=ty) ht (G1_ ha.f (λt ht c v e=>hp2 t ht c v e hgt) (B8_ hno)) ha.l hr0 (Es_ hgt hp1) he
                 refine gqn (v:=val) hy hd (λ_=>h2 H L (.refl H) (λ_ _=>rfl)) (k _ _ _ (ha.put d ?_))
                 rw[hge,hgv]
                 exact Sim.gvt h1.sim
             . cases h
           . cases h
         . cases h
       . cases h
     . cases h
   . cases h
theorem den_seq{y:Code}{r:List Kt}{Q:Qs}{e:Exit}{s:St}(h:e = .normal->False)(x:Kt.den P n N H0 r Q e s):Kt.den P n N H0 (.seq y::r) Q e s:=by cases e<;>first|exact x|exact (h Y).elim
theorem den_lp{J:St->Prop}{r:List Kt}{Q:Qs}{e:Exit}{s:St}(h:e = .normal->False)(x:Kt.den P n N H0 r Q e s):Kt.den P n N H0 (.lp J::r) Q e s:=by cases e<;>first|exact x|exact (h Y).elim
theorem den_blk{id:Nat}{r:List Kt}{Q:Qs}{e:Exit}{s:St}(h:∀ i,e = .exit i->False)(x:Kt.den P n N H0 r Q e s):Kt.den P n N H0 (.blk id::r) Q e s:=by cases e<;>first|exact x|exact (h _ Y).elim
theorem den_sc{r:List Kt}{Q:Qs}{e:Exit}{s:St}(h:∀ i,e = .goto i->False)(x:Kt.den P n N H0 r Q e s):Kt.den P n N H0 (.sc::r) Q e s:=by cases e<;>first|exact x|exact (h _ Y).elim
theorem Ny_{tb:Tb}(ht:tbB P tb=true){Q:Qs}:∀ (k:Nat) (c:Cf) (ks:List Kt) (F:Nat->PV) (L:Nat->Blk) (ps:List Prop) (as0 bs:List Nat) (r:RR),run tb n k c ks F L ps as0 bs=some r->AllP r.ps->r.as0=r.bs->AllP ps/\as0=bs/\(Hd P n N H0 Q r.c r.ks ⟨r.F,r.L⟩->Hd P n N H0 Q c ks ⟨F,L⟩)
 |0,c,ks,F,L,ps,as0,bs,r,h,hp,he=>by
   simp only[run,Er_,Gk_,Option.some.injEq] at h
   subst h
   exact⟨hp,he,id⟩
 |k+1,c,ks,F,L,ps,as0,bs,r,h,hp,he=>by
   have ih:=Ny_ ht (Q:=Q) k
   unfold run at h
   split at h
   . split at h
     . obtain⟨h1,h0,h2⟩:=ih _ _ _ _ _ _ _ _ h hp he;exact⟨h1,h0,λx=>sw_seq (h2 x)⟩
     . obtain⟨h1,h0,h2⟩:=ih _ _ _ _ _ _ _ _ h hp he;exact⟨h1,h0,λx=>sw_skip (h2 x)⟩
     . obtain⟨h1,h0,h2⟩:=ih _ _ _ _ _ _ _ _ h hp he;exact⟨h1,h0,λx=>P5_ (h2 x)⟩
     . obtain⟨h1,h0,h2⟩:=ih _ _ _ _ _ _ _ _ h hp he;exact⟨h1,h0,λx=>P4_ (h2 x)⟩
     . obtain⟨h1,h0,h2⟩:=ih _ _ _ _ _ _ _ _ h hp he;exact⟨h1,h0,λx=>P6_ (h2 x)⟩
     . obtain⟨h1,h0,h2⟩:=ih _ _ _ _ _ _ _ _ h hp he;exact⟨h1,h0,λx=>sw_exit (h2 x)⟩
     . obtain⟨h1,h0,h2⟩:=ih _ _ _ _ _ _ _ _ h hp he;exact⟨h1,h0,λx=>sw_ret (h2 x)⟩
     . split at h
       . obtain⟨h1,h0,h2⟩:=ih _ _ _ _ _ _ _ _ h hp he;exact⟨h1,h0,λx=>N5_ (h2 x)⟩
       . cases h
     . split at h
       . rename_i hc
         split at h
         . obtain⟨h1,h0,h2⟩:=ih _ _ _ _ _ _ _ _ h hp he;exact⟨h1,h0,λx=>I2_ hc (λ_=>h2 x) (λe=>by cases e)⟩
         . obtain⟨h1,h0,h2⟩:=ih _ _ _ _ _ _ _ _ h hp he;exact⟨h1,h0,λx=>I2_ hc (λe=>by cases e) (λ_=>h2 x)⟩
       . cases h
     . cases h
   . split at h
     . obtain⟨h1,h0,h2⟩:=ih _ _ _ _ _ _ _ _ h hp he;exact⟨h1,h0,λx=>so_nil (h2 x)⟩
     . split at h
       . rename_i d hd
         split at h
         . rename_i hb
           split at h
           . rename_i v0 ps0 lk0 hq
             split at h
             . rw[F9_,Fs_] at h
               obtain⟨h1,h0,h2⟩:=ih _ _ _ _ _ _ _ _ h hp he
               obtain⟨h3,h4⟩:=Ci_ h1
               exact⟨h3,h0,λx=>so_v ht hd hb hq h4 (λy hy=>by cases hy) (h2 x)⟩
             . rename_i i a b
               rw[F9_,Fs_] at h
               obtain⟨h1,h0,h2⟩:=ih _ _ _ _ _ _ _ _ h hp he
               obtain⟨h3,h4⟩:=Ci_ h1
               simp only[List.cons.injEq] at h0
               exact⟨h3,h0.2,λx=>so_v ht hd hb hq h4 (λy hy=>by cases hy;exact h0.1) (h2 x)⟩
           . cases h
         . cases h
       . cases h
   . split at h
     . cases h
     . split at h
       . obtain⟨h1,h0,h2⟩:=ih _ _ _ _ _ _ _ _ h hp he;exact⟨h1,h0,λx=>h2 x⟩
       . rename_i e1 hne
         obtain⟨h1,h0,h2⟩:=ih _ _ _ _ _ _ _ _ h hp he
         exact⟨h1,h0,λx=>den_seq hne (h2 x)⟩
     . split at h
       . split at h
         . exact yH
         . exact yH
       . rename_i e1 hne
         obtain⟨h1,h0,h2⟩:=ih _ _ _ _ _ _ _ _ h hp he
         exact⟨h1,h0,λx=>den_blk hne (h2 x)⟩
     . split at h
       . cases h
       . rename_i e1 hne
         obtain⟨h1,h0,h2⟩:=ih _ _ _ _ _ _ _ _ h hp he
         exact⟨h1,h0,λx=>den_sc hne (h2 x)⟩
     . split at h
       . cases h
       . rename_i e1 hne
         obtain⟨h1,h0,h2⟩:=ih _ _ _ _ _ _ _ _ h hp he
         exact⟨h1,h0,λx=>den_lp hne (h2 x)⟩
theorem go{tb:Tb}(ht:tbB P tb=true)(k:Nat){Q:Qs}{c c':Cf}{ks ks':List Kt}{F F':Nat->PV}{L L':Nat->Blk}{ps:List Prop}{as0 bs:List Nat}(h:run tb n k c ks F L [] [] []=some ⟨c',ks',F',L',ps,as0,bs⟩)(he:as0=bs)(hp:AllP ps)(next :Hd P n N H0 Q c' ks' ⟨F',L'⟩):Hd P n N H0 Q c ks ⟨F,L⟩:=
 (Ny_ ht k c ks F L [] [] [] _ h hp he).2.2 next
end Go.SW
namespace Go.SW
variable{P:Program}{n:Nat}{N:Rest}{H0:Env}
def PLe(p q:PV):Prop:=∀ H v,Sim H p v->Sim H q v
theorem ple{p q:PV}(h:p=q):PLe p q:=λ_ _ x=>h ▸ x
theorem ple_nil{α:Type}{enc:α->List PV}:PLe (.val (.slice none 0 0)) (.sl enc []):=λH v h=>by
 rw[h.inv_val];exact Sim.of_slh (k:=0) Iy_ xP
structure Fn(P:Program)(G:Gb)(f:FuncId)(args:List PV)(res:PV):Prop where
 cb:S_ P f
 no:res.noOsl=true
 run:∀ (N:Rest) (H:Hp) (L:Ls) (w:World) (vs:List Value),G.p H->Sims H args vs->Mem N H L w->Calls P f vs.toArray w λe w'=>∃ v H',e = .returned v/\Sim H' res v/\HLe H H'/\Mem N H' L w'
theorem Fn.ph{G:Gb}{f:FuncId}{args:List PV}{res:PV}{H:Hp}{vs:List Value}(h:Fn P G f args res)(hg:G.p H)(hs:Sims H args vs):Ph P f vs.toArray H (λv H'=>Sim H' res v):=λN L w hm=>
 (h.run N H L w vs hg hs hm).mono λ_ _ ⟨v,H',h1,h2,h3,h4⟩=>⟨v,H',h1,h2,h3,h4⟩
theorem Fn.pr{G:Gb}{f:FuncId}{args:List PV}{res:PV}{H:Hp}{vs:List Value}(h:Fn P G f args res)(hf:res.flat=true)(hg:G.p H)(hs:Sims H args vs){v:Value}{H1:Hp}(hv:Sim H1 res v):Pr P f vs.toArray H v:=λN L w hm=>
 (h.run N H L w vs hg hs hm).mono λ_ _ ⟨v',H',h1,h2,h3,h4⟩=>⟨by rw[h1,Sim.uniq hf h2 hv],h4.le h3⟩
def Pt_(tb:Tb)(s:St):ResultVar->Option PR
 | .tmp t=>some (.q (s.F t))
 | .cell a T=>Pl_ tb s.L T (s.F a)
def Gu_(tb:Tb)(s:St):List ResultVar->Option (List PV×List Nat×List Nat)
 |[]=>some ([],[],[])
 |r::rs=>match Pt_ tb s r with
   |some x=>match Gu_ tb s rs with
     |some (ps,as0,bs)=>frc x.v λv=>match x.lk with
       |none=>some (v::ps,as0,bs)
       |some (_,a,b)=>some (v::ps,a::as0,b::bs)
     |none=>none
   |none=>none
def tupP:List PV->PV
 |[p]=>p
 |ps=> .tup ps
theorem rv_1{tb:Tb}{s:St}{F:Fr}{H:Hp}{L:Ls}{r:ResultVar}{x:PR}(ht:tbB P tb=true)(ha:Abs H0 s F H L)(h:Pt_ tb s r=some x)(he:∀ y,x.lk=some y->y.2.1=y.2.2):∃ v,RV P N F H L r v/\Sim H x.v v:=by
 cases r with
 |tmp t=>simp only[Pt_,Option.some.injEq] at h;subst h;exact⟨F t,rv_t Y,(ha.f t).sim⟩
 |cell a T=>
   simp only[Pt_] at h
   obtain⟨v,h1,h2⟩:=Rj_ (P:=P) (N:=N) (ty:=0) (x:= .tmp a) ht ha.l (ha.f a) h he
   refine⟨v,λw tmps htm hm=>?_,h1.sim⟩
   have h3:=h2 H L (.refl H) (λ_ _=>rfl) none "" #[] none w hm
   simp only[rvS,htm a]
   simp only[execOp,ev,Instr.loadAt] at h3
   revert h3
   cases F a with
   |pointer q=>
     cases q with
     |some q=>
       simp[Instr.sureAddr,asAddr]
       intro h3
       cases hr:(loadVar T q).run P w with
       |ok x w'=>rw[hr] at h3;simp[Result.andThen] at h3;simp[h3]
       |halt x w'=>rw[hr] at h3;simp[Result.andThen] at h3
     |none=>intro h3;simp[Instr.sureAddr] at h3
   |_=>intro h3;simp[Instr.sureAddr] at h3
theorem Iw_{tb:Tb}{s:St}{F:Fr}{H:Hp}{L:Ls}(ht:tbB P tb=true)(ha:Abs H0 s F H L):∀ (rs:List ResultVar) (ps:List PV) (as0 bs:List Nat),Gu_ tb s rs=some (ps,as0,bs)->as0=bs ->
   ∃ vs:List Value,Sims H ps vs/\∀ (w:World) (tmps:Array Value),(∀ t,tmps.getD t undef=F t)->Mem N H L w->(rs.mapM (rvS tmps)).run P w = .ok vs w
 |[],ps,as0,bs,h,_=>by simp only[Gu_,Option.some.injEq,Prod.mk.injEq] at h;obtain⟨rfl,_⟩:=h;exact⟨[],Sims.nil,λw tmps _ _=>by simp⟩
 |r::rs,ps,as0,bs,h,he=>by
   simp only[Gu_] at h
   split at h
   . rename_i x hx
     split at h
     . rename_i ps' as' bs' hps
       rw[Fs_] at h
       split at h
       . rename_i hlk
         simp only[Option.some.injEq,Prod.mk.injEq] at h
         obtain⟨rfl,rfl,rfl⟩:=h
         obtain⟨vs,h1,h2⟩:=Iw_ ht ha rs _ _ _ hps he
         obtain⟨v,h3,h4⟩:=rv_1 (N:=N) ht ha hx (λy hy=>by rw[hlk] at hy;cases hy)
         exact zK
       . rename_i i a b hlk
         simp only[Option.some.injEq,Prod.mk.injEq] at h
         obtain⟨rfl,rfl,rfl⟩:=h
         simp only[List.cons.injEq] at he
         obtain⟨vs,h1,h2⟩:=Iw_ ht ha rs _ _ _ hps he.2
         obtain⟨v,h3,h4⟩:=rv_1 (N:=N) ht ha hx (λy hy=>by rw[hlk] at hy;cases hy;exact he.1)
         exact zK
     . cases h
   . cases h
def rtK(tb:Tb)(rs:List ResultVar)(res:PV):Qs:=λe s=>(e = .normal\/e = .ret)/\∃ ps as0 bs,Gu_ tb s rs=some (ps,as0,bs)/\as0=bs/\PLe (tupP ps) res
theorem rt{tb:Tb}{rs:List ResultVar}{res:PV}{s:St}{ps:List PV}{as0 bs:List Nat}(h:Gu_ tb s rs=some (ps,as0,bs))(he:as0=bs)(hp:PLe (tupP ps) res):Hd P n N H0 (rtK tb rs res) (.ex .ret) [] s:=⟨.inr Y,ps,as0,bs,h,he,hp⟩
theorem rtK_res{tb:Tb}{fn:Func}{res:PV}{s:St}{F:Fr}{H:Hp}{L:Ls}{e:Exit}(ht:tbB P tb=true)(ha:Abs H0 s F H L)(h:rtK tb fn.results.toList res e s):(e = .normal\/e = .ret)/\∃ v,Res P N fn F H L v/\Sim H res v:=by
 obtain⟨he,ps,as0,bs,h1,h2,h3⟩:=h;refine⟨he,?_⟩;obtain⟨vs,h4,h5⟩:=Iw_ (N:=N) ht ha _ _ _ _ h1 h2;have h6:∀ (w:World) (tmps:Array Value),(∀ t,tmps.getD t undef=F t)->Mem N H L w->(fn.results.mapM (rvS tmps)).run P w = .ok vs.toArray w:=λw tmps htm hm=>by
   rw[Array.mapM_eq_mapM_toList]
   simp[h5 w tmps htm hm]
 match ps,vs,h4,h6,h3 with
 |[p],[v],h4,h6,h3=>
   refine⟨v,λw tmps htm hm=>?_,h3 H v (h4.2 0 p v Y Y)⟩
   rw[A1_,AL,h6 w tmps htm hm]
   simp
 |[],vs,h4,h6,h3=>
   cases h4.inv_nil
   refine⟨.tuple #[],λw tmps htm hm=>?_,h3 H _ (Sim.toTup (vs:=[]) Sims.nil)⟩
   rw[A1_,AL,h6 w tmps htm hm]
   simp
 |p::q::r,vs,h4,h6,h3=>
   refine⟨.tuple vs.toArray,λw tmps htm hm=>?_,h3 H _ (Sim.toTup h4)⟩
   rw[A1_,AL,h6 w tmps htm hm]
   have :vs.length≠1:=by rw[h4.1];simp
   simp[this]
 |[p],[],h4,_,_=>exact absurd h4.1 xP
 |[p],_::_::_,h4,_,_=>exact absurd h4.1 xP
def L9_(args:List PV):Nat->PV:=λt=>match nth args t with
 |some p=>p
 |none=> .junk
def Ao_:List PV->Bool
 |[]=>true
 |p::r=>p.noOsl&&Ao_ r
theorem Dt_:∀ {ps:List PV} {i:Nat} {p:PV},Ao_ ps=true->ps[i]? = some p->p.noOsl=true
 |[],i,p,_,h=>by simp at h
 |q::r,0,p,h,hp=>by simp only[Ao_,A2] at h;simp at hp;rw[<- hp];exact h.1
 |q::r,i+1,p,h,hp=>by simp only[Ao_,A2] at h;exact Dt_ h.2 (by simpa using hp)
theorem O3_{sL:Nat->Blk}{H:Hp}{args:List PV}{vs:List Value}(hs:Sims H args vs)(hn:Ao_ args=true)(t:Nat):SimT sL H (L9_ args t) (D7_ vs.toArray t):=by
 unfold L9_;rw[B3_]
 cases h:args[t]? with
 |none=>exact Sim.junk
 |some p=>
   obtain⟨v,hv,hp⟩:=hs.get h
   refine Sim.simT ?_ (Dt_ hn h)
   simpa [D7_,AO,hv] using hp
theorem fn_cw{tb:Tb}{G:Gb}{m:Nat}{f:FuncId}{fn:Func}{c:Code}{args:List PV}{res:PV}(ht:tbB P tb=true)(hf:P.funcs[f]? = some fn)(hb:fn.body=some c)(hn:fn.ntmps=m)(hs:Nat.ble args.length m=true)(hcb:S_ P f)(hno:res.noOsl=true)(hna:Ao_ args=true)
   (h:PV.wfs args->∀ N H,G.p H->Hd P m N ⟨H,G⟩ (rtK tb fn.results.toList res) (.code c) [] ⟨L9_ args,λ_=> .no⟩):Fn P G f args res:=by
 refine⟨hcb,hno,λN H L w vs hg hsim hm=>?_⟩;subst hn;have key:Ph P f vs.toArray H (λv H'=>Sim H' res v):=by
   refine Pn_ hf hb (by have :=A1 hs;simp[hsim.1];exact this) λN=>?_
   have h1:=h hsim.wf N H hg (D7_ vs.toArray) H l0 ⟨.refl H,hg,λt=>O3_ hsim hna t,λi=>trivial⟩
   refine Dk_ (λe F' H' L' hq=>?_) h1
   obtain⟨s',ha',hq'⟩:=hq
   obtain⟨he,v,hr,hv⟩:=rtK_res (N:=N) ht ha' hq'
   rcases he with rfl|rfl
   . exact⟨v,hr,ha'.le,hv⟩
   . exact⟨v,hr,ha'.le,hv⟩
 exact (key N L w hm).mono λ_ _ ⟨v,H',h1,h2,h3,h4⟩=>⟨v,H',h1,h2,h3,h4⟩
theorem Qn_{F:Fr}{x:Operand}{f:FuncId}{fs cap:List Value}{xs:Array Operand}{ats:Array TypeId}(hx:ev F x = .func (.func f) fs.toArray cap.toArray)(hc:S_ P f):En P (.call ⟨.value x,xs,ats⟩) F f (fs++evs F xs.toList++cap).toArray:=λty d pos af g w=>by
 have :=hc (fs++evs F xs.toList++cap).toArray w
 have e3:xs.map (ev F)=(evs F xs.toList).toArray:=by rw[<- Dm_];apply Array.ext';simp
 simp only[DN] at this ⊢
 simp[execOp,resolve,Deferred.ofValue,hx,invoke,e3,this]
def argsP(G:Nat->PV)(x:Operand)(xs:List Operand):Option (FuncId×List PV):=
 match evP G x with
 | .fn f fs cap=>some (f,apL fs (apL (evPs G xs) cap))
 |_=>none
where apL:List PV->List PV->List PV
 |[],k=>k
 |p::r,k=>p::apL r k
theorem La_:∀ (a b:List PV),argsP.apL a b=a++b
 |[],b=>rfl
 |p::r,b=>by simp[argsP.apL,La_ r b]
theorem Ej_{sL:Nat->Blk}{H:Hp}{F:Fr}{G:Nat->PV}{x:Operand}{xs:Array Operand}{ats:Array TypeId}{f:FuncId}{args:List PV}(hG:∀ t,SimT sL H (G t) (F t))(h:argsP G x xs.toList=some (f,args))(hc:S_ P f):∃ vs,Sims H args vs/\En P (.call ⟨.value x,xs,ats⟩) F f vs.toArray:=by
 unfold argsP at h
 split at h
 . rename_i f' fs cap he
   simp only[Option.some.injEq,Prod.mk.injEq] at h
   obtain⟨rfl,rfl⟩:=h
   have h1:=(Av_ hG x).sim
   rw[he] at h1
   obtain⟨vs,us,e,h2,h3⟩:=h1.inv_fn
   refine⟨vs++evs F xs.toList++us,?_,Qn_ e hc⟩
   rw[La_,La_,<- DN]
   exact (h2.append (Ep_ λy _=>Av_ hG y)).append h3
 . cases h
theorem call{all rest:List Oper}{Q:Qs}{ks:List Kt}{s:St}{f:FuncId}{args:List PV}{res:PV}{x:Operand}{xs:Array Operand}{ats:Array TypeId}{ty d:Nat}{pos:String}{af:Array Edge}(h:Fn P H0.g f args res)(ha:argsP s.F x xs.toList=some (f,args))(hd:Nat.blt d n=true)
   (k:res.wf->Hd P n N H0 Q (.ops all rest) ks ⟨updp s.F d res,s.L⟩):Hd P n N H0 Q (.ops all (⟨some d, .call ⟨.value x,xs,ats⟩,ty,pos,af,none⟩::rest)) ks s:=by
 intro F H L hab;obtain⟨vs,h1,h2⟩:=Ej_ (ats:=ats) hab.f ha h.cb;refine ow1 (M8_ (h.ph hab.g h1) h2 hd λv H' hv hl=>?_);exact k hv.wf _ _ _ ((hab.mono hl).put d (hv.simT h.no))
def gOp(s:St)(all:List Oper)(j:Nat)(want:Bool):Option Bool:=
 match nth all j with
 |some oj=>match oj.dst with
   |some dj=>gC (s.F dj) want
   |none=>none
 |none=>none
theorem Qq_{s:St}{all:List Oper}{j:Nat}{want g:Bool}{F:Fr}{H:Hp}{L:Ls}(ha:Abs H0 s F H L)(h:gOp s all j want=some g):∃ c b,yF all F j=some (gv c (.bool b))/\g=(c&&gOf b want):=by
 unfold gOp at h
 split at h
 . rename_i oj hj
   split at h
   . rename_i dj hdj
     obtain⟨c,b,hv,hge⟩:=gC_ok h (ha.f dj).sim
     exact⟨c,b,by rw[Qa_ hj hdj,hv],hge⟩
   . cases h
 . cases h
theorem ow_gd{F:Fr}{H:Hp}{L:Ls}{ops rest:List Oper}{op:Op}{ty j d:Nat}{pos:String}{af:Array Edge}{Q:Qt}{want c b:Bool}(hy:yF ops F j=some (gv c (.bool b)))(hd:Nat.blt d n=true)
   (ht:(c&&gOf b want)=true->Op1 P n N ops ⟨some d,op,ty,pos,af,none⟩ (λF H L=>Ow P n N ops rest Q F H L) F H L) (hf:(c&&gOf b want)=false->Ow P n N ops rest Q (upd F d undef) H L):Ow P n N ops (⟨some d,op,ty,pos,af,some (j,want)⟩::rest) Q F H L:=by
 cases c with
 |false=>
   refine ow1 λa w ha hm=>?_
   have :yielded ops.toArray a.tmps j=none:=D5_ ha hy
   rw[if_neg (by simp[Region.wanted,this])]
   exact⟨_,_,_,ha.put xU undef,hm,hf Y⟩
 |true=>
   by_cases e:b=want
   . subst e
     exact ow1 (Jy_ hy Y (ht (by cases b<;>rfl)))
   . refine ow1 (M5_ hy (b:=b) ?_ hd (hf ?_))
     . exact zA
     . cases b<;>cases want<;>simp_all [gOf]
theorem callg{all rest:List Oper}{Q:Qs}{ks:List Kt}{s:St}{f:FuncId}{args:List PV}{res:PV}{x:Operand}{xs:Array Operand}{ats:Array TypeId}{ty d j:Nat}{want g:Bool}{pos:String}{af:Array Edge}(hg:gOp s all j want=some g)(h:g=true->Fn P H0.g f args res)(ha:argsP (strG (Fl_ xs.toList) s.F) x xs.toList=some (f,args))(hc:AllP (Fi_ s.F g (Fl_ xs.toList) []))(hno:Db_ s.F (Fl_ xs.toList)=true)(hd:Nat.blt d n=true)
   (k:(g=true->res.wf)->Hd P n N H0 Q (.ops all rest) ks ⟨updp s.F d (.gv g res),s.L⟩):Hd P n N H0 Q (.ops all (⟨some d, .call ⟨.value x,xs,ats⟩,ty,pos,af,some (j,want)⟩::rest)) ks s:=by
 intro F H L hab;obtain⟨c,b,hy,hge⟩:=Qq_ hab hg;refine ow_gd hy hd (λe=>?_) (λe=>?_);have hgt:=hge.trans e;have hF:=h hgt;obtain⟨vs,h1,h2⟩:=Ej_ (ats:=ats) (G1_ hab.f (λt ht c v e=>(Cj_ hc).2 t ht c v e hgt) (B8_ hno)) ha hF.cb;refine M8_ (hF.ph hab.g h1) h2 hd λv H' hv hl=>?_;refine k (λ_=>hv.wf) _ _ _ ((hab.mono hl).put d ?_);rw[hgt];exact Sim.gvt hv;have hgf:=hge.trans e;refine k (λe=>by rw[hgf] at e;cases e) _ _ _ (hab.put d ?_)
 rw[hgf];exact Sim.gvf
end Go.SW
namespace Go.SW
variable{P:Program}{n:Nat}{N:Rest}{H0:Env}
theorem cnd{Q:Qs}{ks:List Kt}{s:St}{c:Operand}{x y:Code}{b:Bool}(hc:evP s.F c = .bool b)(ht:b=true->Hd P n N H0 Q (.code x) ks s)(hf:b=false->Hd P n N H0 Q (.code y) ks s):Hd P n N H0 Q (.code (.cond c x y)) ks s:=I2_ hc ht hf
def Junk(s s':St):Prop:=(∀ t,s'.F t=s.F t\/s'.F t = .junk)/\∀ i,s'.L i=s.L i\/s'.L i = .no
theorem Junk.le{s s':St}(h:Junk s s'):StLe s s':=λH0 F H L ha=>by
 refine⟨ha.le,ha.g,λt=>?_,λi=>?_⟩
 . rcases h.1 t with e|e
   . rw[e]
     have h1:=ha.f t
     generalize s.F t=p at *
     cases p with
     |osl i=>
       simp only[SimT] at h1 ⊢
       rcases h.2 i with e2|e2
       . rw[e2];exact h1
       . rw[e2];trivial
     |_=>exact h1
   . rw[e];exact Sim.junk
 . rcases h.2 i with e|e
   . rw[e]
     have h1:=ha.l i
     generalize s.L i=B at *
     cases B with
     |box b T cs=>
       obtain⟨vs,h2,h3,h4⟩:=h1
       refine⟨vs,h2,h3,λj p v hp hv=>?_⟩
       have h5:=h4 j p v hp hv
       cases p with
       |osl q=>
         simp only[SimT] at h5 ⊢
         rcases h.2 q with e2|e2
         . rw[e2];exact h5
         . rw[e2];trivial
       |_=>exact h5
     |no=>trivial
     |arr u k e enc xs=>exact h1
     |itr b s p=>exact h1
     |ob b o=>exact h1
   . rw[e];trivial
def lkF:List (Nat×PV)->Nat->Option PV
 |[],_=>none
 |(a,x)::r,t=>bif A3 t a then some x else lkF r t
def mkF(lv:List (Nat×PV))(keep:List Nat)(G:Nat->PV):Nat->PV:=λt=>match lkF lv t with
 |some p=>p
 |none=>bif memB keep t then G t else .junk
def lkL:List (Nat×Blk)->Nat->Option Blk
 |[],_=>none
 |(a,x)::r,t=>bif A3 t a then some x else lkL r t
def mkL(lv:List (Nat×Blk))(keep:List Nat)(G:Nat->Blk):Nat->Blk:=λt=>match lkL lv t with
 |some p=>p
 |none=>bif memB keep t then G t else .no
def AllF(F:Nat->PV):List (Nat×PV)->Prop
 |[]=>True
 |(t,p)::r=>F t=p/\AllF F r
def AllL(F:Nat->Blk):List (Nat×Blk)->Prop
 |[]=>True
 |(t,p)::r=>F t=p/\AllL F r
theorem K6_{F:Nat->PV}:∀ {lv:List (Nat×PV)} {t:Nat} {p:PV},AllF F lv->lkF lv t=some p->F t=p
 |[],t,p,_,h=>by cases h
 |(a,x)::r,t,p,h,hl=>by
   simp only[lkF] at hl
   cases e:A3 t a with
   |true=>rw[e] at hl;simp at hl;rw[A0 e,<- hl];exact h.1
   |false=>rw[e] at hl;exact K6_ h.2 wI
theorem K7_{F:Nat->Blk}:∀ {lv:List (Nat×Blk)} {t:Nat} {p:Blk},AllL F lv->lkL lv t=some p->F t=p
 |[],t,p,_,h=>by cases h
 |(a,x)::r,t,p,h,hl=>by
   simp only[lkL] at hl
   cases e:A3 t a with
   |true=>rw[e] at hl;simp at hl;rw[A0 e,<- hl];exact h.1
   |false=>rw[e] at hl;exact K7_ h.2 wI
theorem Ii_{α:Type _}{F G:Nat->α}:∀ {l:List Nat},l.map F=l.map G->∀ t∈l,F t=G t
 |[],_,t,h=>by cases h
 |a::r,e,t,h=>by
   simp only[DF,List.cons.injEq] at e
   rcases List.mem_cons.1 h with rfl|q
   . exact e.1
   . exact Ii_ e.2 t q
theorem mk_le{s:St}{lv:List (Nat×PV)}{keep:List Nat}{G:Nat->PV}{lL:List (Nat×Blk)}{kL:List Nat}{GL:Nat->Blk}(h1:keep.map s.F=keep.map G)(h2:kL.map s.L=kL.map GL)(h3:AllF s.F lv)(h4:AllL s.L lL):StLe s ⟨mkF lv keep G,mkL lL kL GL⟩:=by
 refine Junk.le ⟨λt=>?_,λi=>?_⟩
 . simp only[mkF]
   cases e:lkF lv t with
   |some p=>exact .inl (K6_ h3 e).symm
   |none=>
     cases e2:memB keep t with
     |true=>exact .inl (Ii_ h1 t (Da_ e2)).symm
     |false=>exact .inr Y
 . simp only[mkL]
   cases e:lkL lL i with
   |some p=>exact .inl (K7_ h4 e).symm
   |none=>
     cases e2:memB kL i with
     |true=>exact .inl (Ii_ h2 i (Da_ e2)).symm
     |false=>exact .inr Y
def LJ{ι:Type _}(S:ι->St)(Φ:ι->Prop)(μ:ι->Nat)(m:Nat):St->Prop:=λs=>∃ x,Φ x/\μ x<m/\StLe s (S x)
theorem sw_loop{ι:Type _}{c:Code}{ks:List Kt}{Q:Qs}{s:St}(S:ι->St)(Φ:ι->Prop)(μ:ι->Nat)(x0:ι)(h0:StLe s (S x0))(hΦ:Φ x0)(body:∀ x,Φ x->Hd P n N H0 Q (.code c) (.lp (LJ S Φ μ (μ x))::ks) (S x)):Hd P n N H0 Q (.code (.loop c)) ks s:=by
 intro F H L ha;refine H6_ (λk F H L=>∃ x,Φ x/\μ x=k/\Abs H0 (S x) F H L) (μ x0) ⟨x0,hΦ,rfl,h0 _ _ _ _ ha⟩ λk F H L hI=>?_;obtain⟨x,hx,rfl,hax⟩:=hI;refine Dk_ (λe F' H' L' hq=>?_) (body x hx F H L hax);obtain⟨s',ha',hq'⟩:=hq
 cases e with
 |normal=>
   obtain⟨x',h1,h2,h3⟩:=hq'
   exact⟨μ x',h2,x',h1,rfl,h3 _ _ _ _ ha'⟩
 |_=>exact⟨s',ha',hq'⟩
theorem loop{ι:Type _}{c:Code}{ks:List Kt}{Q:Qs}{s:St}(keep kL:List Nat)(lv:ι->List (Nat×PV))(lL:ι->List (Nat×Blk))(Φ:ι->Prop)(μ:ι->Nat)(x0:ι)(h1:AllF s.F (lv x0))(h2:AllL s.L (lL x0))(hΦ:Φ x0)(body:∀ x,Φ x->Hd P n N H0 Q (.code c) (.lp (LJ (λx=>⟨mkF (lv x) keep s.F,mkL (lL x) kL s.L⟩) Φ μ (μ x))::ks) ⟨mkF (lv x) keep s.F,mkL (lL x) kL s.L⟩):Hd P n N H0 Q (.code (.loop c)) ks s:=
 sw_loop (λx=>⟨mkF (lv x) keep s.F,mkL (lL x) kL s.L⟩) Φ μ x0 (mk_le Y Y h1 h2) hΦ body
theorem next{ι:Type _}{keep kL:List Nat}{G:Nat->PV}{GL:Nat->Blk}{lv:ι->List (Nat×PV)}{lL:ι->List (Nat×Blk)}{Φ:ι->Prop}{μ:ι->Nat}{m:Nat}{s:St}{ks:List Kt}{Q:Qs}(x':ι)(h1:keep.map s.F=keep.map G)(h2:kL.map s.L=kL.map GL)(h3:AllF s.F (lv x'))(h4:AllL s.L (lL x'))(hm:μ x'<m)(hΦ:Φ x'):Hd P n N H0 Q (.ex .normal) (.lp (LJ (λx=>⟨mkF (lv x) keep G,mkL (lL x) kL GL⟩) Φ μ m)::ks) s:=
 ⟨x',hΦ,hm,mk_le h1 h2 h3 h4⟩
theorem N0_{L:Nat->Blk}{H:Hp}{i:Nat}{B:Blk}{p:PV}{v:Value}(h:SimT L H p v)(hi:p ≠ .osl i):SimT (lups L i B) H p v:=by
 cases p with
 |osl j=>
   have :j≠i:=λe=>hi (by rw[e])
   simp only[SimT,Dr_ _ _ _ _ this] at h ⊢
   exact h
 |_=>exact h
def Nn_(i:Nat):PV->PV
 | .osl j=>bif A3 j i then .junk else .osl j
 |p=>p
theorem J3_{L:Nat->Blk}{H:Hp}{i:Nat}{B:Blk}{p:PV}{v:Value}(h:SimT L H p v):SimT (lups L i B) H (Nn_ i p) v:=by
 cases p with
 |osl j=>
   simp only[Nn_]
   cases e:A3 j i with
   |true=>exact Sim.junk
   |false=>exact N0_ h (λq=>by cases q;simp at e)
 |_=>exact h
def purgeB(i:Nat):Blk->Blk
 | .box b T cs=> .box b T (cs.map (Nn_ i))
 |B=>B
theorem Hu_{L:Nat->Blk}{H:Hp}{i:Nat}{B:Blk}{ps:List PV}{vs:List Value}(h:SimTs L H ps vs):SimTs (lups L i B) H (ps.map (Nn_ i)) vs:=by
 refine⟨by simp[h.1],λj p v hp hv=>?_⟩;rw[AR] at hp
 cases e:ps[j]? with
 |none=>rw[e] at hp;cases hp
 |some q=>rw[e] at hp;cases hp;exact J3_ (h.2 j q v e hv)
def E2_(i:Nat)(F:Nat->PV):Nat->PV:=λt=>Nn_ i (F t)
def Cd_(i:Nat)(L:Nat->Blk):Nat->Blk:=λt=>purgeB i (L t)
theorem Abs.turn{s:St}{F:Fr}{H:Hp}{L:Ls}(ha:Abs H0 s F H L)(i:Nat){B:Blk}{x:Option (Nat×Obj)}(hx:SimB (lups (Cd_ i s.L) i B) H B x):Abs H0 ⟨E2_ i s.F,lups (Cd_ i s.L) i B⟩ F H (lupd L i x):=by
 have hshape:∀ {q p v},SimT (lups s.L i q) H p v->SimT (lups (Cd_ i s.L) i q) H p v:=λ{q p v} h=>by
   cases p with
   |osl j=>
     by_cases e:j=i
     . subst e;simp only[SimT,A5_] at h ⊢;exact h
     . simp only[SimT,Dr_ _ _ _ _ e,Cd_] at h ⊢
       generalize s.L j=C at *
       cases C<;>exact h
   |_=>exact h
 refine⟨ha.le,ha.g,λt=>hshape (J3_ (ha.f t)),λj=>?_⟩;by_cases e:j=i;subst e;simp only[A5_,E_];exact hx
 . simp only[Dr_ _ _ _ _ e,D_ _ _ _ _ e,Cd_]
   have h1:=ha.l j
   generalize s.L j=C at *
   cases C with
   |box b T cs=>
     obtain⟨vs,h2,h3⟩:=h1
     exact⟨vs,h2,(Hu_ (B:=B) h3).1,λa p v hp hv=>hshape ((Hu_ (B:=B) h3).2 a p v hp hv)⟩
   |no=>trivial
   |arr u k e enc xs=>exact h1
   |itr b s p=>exact h1
   |ob b o=>exact h1
theorem Abs.turnB{s:St}{F:Fr}{H:Hp}{L:Ls}(ha:Abs H0 s F H L)(i:Nat){B:Blk}{x:Option (Nat×Obj)}(hB:match B with| .arr _ _ _ _ _=>False|_=>True)(hx:SimB (lups s.L i B) H B x):Abs H0 ⟨s.F,lups s.L i B⟩ F H (lupd L i x):=by
 have hshape:∀ {p v},SimT s.L H p v->SimT (lups s.L i B) H p v:=λ{p v} h=>by
   cases p with
   |osl j=>
     by_cases e:j=i
     . subst e;simp only[SimT,A5_];cases B<;>first|trivial|exact hB.elim
     . simp only[SimT,Dr_ _ _ _ _ e] at h ⊢;exact h
   |_=>exact h
 refine⟨ha.le,ha.g,λt=>hshape (ha.f t),λj=>?_⟩;by_cases e:j=i;subst e;simp only[A5_,E_];exact hx
 . simp only[Dr_ _ _ _ _ e,D_ _ _ _ _ e]
   have h1:=ha.l j
   generalize s.L j=C at *
   cases C with
   |box b T cs=>obtain⟨vs,h2,h3,h4⟩:=h1;exact⟨vs,h2,h3,λa p v hp hv=>hshape (h4 a p v hp hv)⟩
   |no=>trivial
   |arr u k e enc xs=>exact h1
   |itr b s p=>exact h1
   |ob b o=>exact h1
variable{all rest:List Oper}{Q:Qs}{ks:List Kt}{s:St}{T ty d:Nat}{pos:String}{af:Array Edge}{x y z:Operand}{K:St->Prop}
def E1(P:Program)(n:Nat)(N:Rest)(H0:Env)(all:List Oper)(o:Oper)(j:Option Nat)(s:St)(K:St->Prop):Prop:=
 ∀ F H L,Abs H0 s F H L->Op1 P n N all o (λF' H' L'=>HLe H H'/\(∀ i,j≠some i->L' i=L i)/\∃ s',Abs H0 s' F' H' L'/\K s') F H L
theorem Op1.imp{o:Oper}{K K':Fr->Hp->Ls->Prop}{F:Fr}{H:Hp}{L:Ls}(h:Op1 P n N all o K F H L)(hk:∀ F H L,K F H L->K' F H L):Op1 P n N all o K' F H L:=λa w ha hm=>by
 have :=h a w ha hm
 split
 . rename_i hw
   rw[if_pos hw] at this
   exact Cs_ (λa' w' ⟨F',H',L',x,y,z⟩=>⟨F',H',L',x,y,hk _ _ _ z⟩) (λ_ _ _ x=>x) this
 . rename_i hw
   rw[if_neg hw] at this
   obtain⟨F',H',L',x,y,z⟩:=this
   exact⟨F',H',L',x,y,hk _ _ _ z⟩
theorem ef{o:Oper}{j:Option Nat}(h:E1 P n N H0 all o j s (λs'=>Hd P n N H0 Q (.ops all rest) ks s')):Hd P n N H0 Q (.ops all (o::rest)) ks s:=λF H L ha=>
 ow1 ((h F H L ha).imp λF' H' L' ⟨_,_,s',h1,h2⟩=>h2 F' H' L' h1)
theorem only{L:Ls}{j:Nat}{x:Option (Nat×Obj)}:∀ i,some j≠some i->lupd L j x i=L i:=λi h=>D_ _ _ _ _ λe=>h (by rw[e])
theorem Cq_{L:Nat->Blk}{H:Hp}{ps:List PV}{vs:List Value}(h:Sims H ps vs)(hn:Ao_ ps=true):SimTs L H ps vs:=⟨h.1,λi p v hp hv=>(h.2 i p v hp hv).simT (Dt_ hn hp)⟩
theorem boxA(i:Nat){cs:List PV}(hx:evP s.F x = .agg cs)(hn:Ao_ cs=true)(hd:Nat.blt d n=true)(k:∀ b,K ⟨updp s.F d (.own i b 0),lups s.L i (.box b T cs)⟩):E1 P n N H0 all ⟨some d, .box T x,ty,pos,af,none⟩ (some i) s K:=by
 intro F H L ha;have h1:=(Av_ ha.f x).sim;rw[hx] at h1;obtain⟨vs,e,h2⟩:=h1.inv_agg;exact M4_ i hd e λb=>⟨.refl H,only,_,(ha.turnB (B:= .box b T cs) i Z ⟨vs,rfl,Cq_ h2 hn⟩).put (p:= .own i b 0) d Sim.own,k b⟩
theorem M1_{v:Value}(h:v.oneCell'=true):v.cells = #[v]:=by cases v<;>first|rfl|(simp[Value.oneCell'] at h)
def evS(p:PV):Option PV:=frc p some
theorem Qo_{p q:PV}(h:evS p=some q):p=q:=by simp only[evS,Fs_,Option.some.injEq] at h;exact h
def evL(l:List PV):Option (List PV):=frcL l some
theorem Lw_{l m:List PV}(h:evL l=some m):l=m:=by simp only[evL,Gj_,Option.some.injEq] at h;exact h
theorem box1(i:Nat){p:PV}(hx:evS (evP s.F x)=some p)(ho:p.one=true)(hd:Nat.blt d n=true)(k:∀ b,K ⟨updp s.F d (.own i b 0),lups s.L i (.box b T [p])⟩):E1 P n N H0 all ⟨some d, .box T x,ty,pos,af,none⟩ (some i) s K:=by
 intro F H L ha;have hx:=Qo_ hx;have h1:=(Av_ ha.f x).sim;rw[hx] at h1;have hno:p.noOsl=true:=by cases p<;>first|rfl|(simp[PV.one] at ho)
 exact Pf_ i hd Y (M1_ (h1.one ho)) λb=>⟨.refl H,only,_,(ha.turnB (B:= .box b T [p]) i Z ⟨[ev F x],rfl,Cq_ (Sims.nil.cons h1) (by simp[Ao_,hno])⟩).put (p:= .own i b 0) d Sim.own,k b⟩
theorem alloc{tb:Tb}{ti:TI}{zs:List PV}(ht:tbB P tb=true)(i:Nat)(hti:lkT tb T=some ti)(hz:evL ti.zero=some zs)(hn:Ao_ zs=true)(hd:Nat.blt d n=true)(k:∀ b,K ⟨updp s.F d (.own i b 0),lups s.L i (.box b T zs)⟩):E1 P n N H0 all ⟨some d, .alloc T,ty,pos,af,none⟩ (some i) s K:=by
 intro F H L ha;have hz:=Lw_ hz;subst hz;obtain⟨zv,hz,hs⟩:=(At_ ht hti).zero;exact Ca_ i hd (cs:=zv.cells.toList) (λw=>⟨zv,hz w,by simp⟩) λb=>⟨.refl H,only,_,(ha.turnB (B:= .box b T ti.zero) i trivial ⟨_,rfl,Cq_ (hs H) hn⟩).put (p:= .own i b 0) d Sim.own,k b⟩
theorem SimTs.set{L:Nat->Blk}{H:Hp}{ps:List PV}{vs:List Value}(h:SimTs L H ps vs){p:PV}{v:Value}(m:Nat)(hp:SimT L H p v):SimTs L H (ps.set m p) (vs.set m v):=by
 refine⟨by simp[h.1],λi q u hq hu=>?_⟩;rw[List.getElem?_set] at hq hu
 split at hq
 . rename_i e
   rw[if_pos e] at hu
   split at hq
   . split at hu
     . cases hq;cases hu;exact hp
     . cases hu
   . cases hq
 . rename_i e;rw[if_neg e] at hu;exact h.2 i q u hq hu
theorem SimTs.append{L:Nat->Blk}{H:Hp}{ps qs:List PV}{vs us:List Value}(h:SimTs L H ps vs)(k:SimTs L H qs us):SimTs L H (ps++qs) (vs++us):=by
 refine⟨by simp[h.1,k.1],λi p v hp hv=>?_⟩
 rcases DB i ps.length with q|q
 rw[CH q] at hp;rw[CH (by rw[h.1];exact q)] at hv;exact h.2 i p v hp hv;rw[AT q] at hp;rw[AT (by rw[h.1];exact q),h.1] at hv;exact k.2 _ p v hp hv
theorem SimTs.take{L:Nat->Blk}{H:Hp}{ps:List PV}{vs:List Value}(h:SimTs L H ps vs)(m:Nat):SimTs L H (ps.take m) (vs.take m):=by
 refine⟨by simp[h.1],λi p v hp hv=>?_⟩;rw[AD] at hp hv
 split at hp
 . rename_i q;rw[if_pos q] at hv;exact h.2 i p v hp hv
 . cases hp
theorem SimTs.drop{L:Nat->Blk}{H:Hp}{ps:List PV}{vs:List Value}(h:SimTs L H ps vs)(m:Nat):SimTs L H (ps.drop m) (vs.drop m):=by
 exact zZ
theorem J8_{L:Nat->Blk}{H:Hp}{i b b':Nat}{T T':TypeId}{cs cs':List PV}(hb:L i = .box b T cs){p:PV}{v:Value}(h:SimT L H p v):SimT (lups L i (.box b' T' cs')) H p v:=by
 cases p with
 |osl j=>
   by_cases e:j=i
   . subst e;simp only[SimT,A5_]
   . simp only[SimT,Dr_ _ _ _ _ e] at h ⊢;exact h
 |_=>exact h
theorem store1{tb:Tb}{ti:TI}{i b b' off T0:Nat}{cs cs':List PV}{p:PV}(ht:tbB P tb=true)(hx:evP s.F x = .own i b off)(hb:s.L i = .box b' T0 cs)(hti:lkT tb T=some ti)(hsz:ti.size=1)(hy:evS (evP s.F y)=some p)(ho:p.one=true)(hl:Nat.blt off cs.length=true)(hbb:b'=b)(hc:evL (cs.set off p)=some cs')
   (k:K ⟨s.F,lups s.L i (.box b T0 cs')⟩):E1 P n N H0 all ⟨none, .store T x y,ty,pos,af,none⟩ (some i) s K:=by
 intro F H L ha;subst hbb;have hc:=Lw_ hc;subst hc;have hy:=Qo_ hy;have h1:=(Av_ ha.f x).sim;rw[hx] at h1;have h2:=Av_ ha.f y;unfold Ok1 at h2;rw[hy] at h2;have h3:=ha.l i;rw[hb] at h3;obtain⟨vs,hL,hs⟩:=h3;have hsz':=(At_ ht hti).sz;rw[hsz] at hsz';refine Co_ h1.inv_own Y (h2.sim.one ho) hsz' hL (by rw[hs.1];exact hl) ?_;refine⟨.refl H,only,_,ha.turnB (B:= .box _ T0 (cs.set off p)) i Z ⟨_,rfl,?_⟩,k⟩;have h4:=hs.set off h2;exact zJ
def all1:List PV->Bool
 |[]=>true
 |p::r=>p.one&&all1 r
theorem Bd_{H:Hp}:∀ {ps:List PV} {vs:List Value},Sims H ps vs->all1 ps=true->vs.all Value.oneCell'=true
 |[],vs,h,_=>by cases h.inv_nil;rfl
 |p::r,vs,h,ho=>by
   obtain⟨v,us,rfl,h1,h2⟩:=h.inv_cons
   simp only[all1,A2] at ho
   simp only[GF,A2]
   exact⟨h1.one ho.1,Bd_ h2 ho.2⟩
theorem storeA{tb:Tb}{ti:TI}{i b b' off T0:Nat}{cs ps cs':List PV}(ht:tbB P tb=true)(hx:evP s.F x = .own i b off)(hb:s.L i = .box b' T0 cs)(hti:lkT tb T=some ti)(hy:evP s.F y = .agg ps)(hn:Ao_ ps=true)(ho:all1 ps=true)(hsz:ps.length=ti.size)(hl:Nat.ble (off+ti.size) cs.length=true)(hbb:b'=b)(hc:evL (cs.take off++(ps++cs.drop (off+ti.size)))=some cs')
   (k:K ⟨s.F,lups s.L i (.box b T0 cs')⟩):E1 P n N H0 all ⟨none, .store T x y,ty,pos,af,none⟩ (some i) s K:=by
 intro F H L ha;subst hbb;have hc:=Lw_ hc;subst hc;have h1:=(Av_ ha.f x).sim;rw[hx] at h1;have h2:=(Av_ ha.f y).sim;rw[hy] at h2;obtain⟨us,e,h2⟩:=h2.inv_agg;have h3:=ha.l i;rw[hb] at h3;obtain⟨vs,hL,hs⟩:=h3;have hl':=A1 hl;refine In_ (m:=ti.size) (vs.take off++(us++vs.drop (off+ti.size))) h1.inv_own e (Bd_ h2 ho) (At_ ht hti).sz (by rw[h2.1,hsz]) hL (by rw[hs.1];exact hl) Y ?_;refine⟨.refl H,only,_,ha.turnB (B:= .box _ T0 _) i Z ⟨_,rfl,?_⟩,k⟩;have h4:=(hs.take off).append ((Cq_ (L:=s.L) h2 hn).append (hs.drop (off+ti.size)));exact zJ
end Go.SW
namespace Go.SW
variable{P:Program}{n:Nat}{N:Rest}{H0:Env}{all rest:List Oper}{Q:Qs}{ks:List Kt}{s:St}{T T2 ty d:Nat}{pos:String}{af:Array Edge}{x y z:Operand}{K:St->Prop}
def SrcP(P:Program)(N:Rest)(H0:Env)(s:St){α:Type}(enc:α->List PV)(k:Nat)(y:Operand)(ys:List α):Prop:=
 ∀ F H L,Abs H0 s F H L->∃ news,Src P N H L k (ev F y) ys.length news/\Rl (RowE enc k) H ys news/\∀ u∈news,u.oneCell'=true
theorem src_own{F:Fr}{H:Hp}{L:Ls}{k e i:Nat}{v:Value}{len:Nat}{cs:List Value}(h:OwnV k e v (L i) len cs):Src P N H L k v len cs:=by
 obtain⟨hl,h⟩:=h;refine⟨hl,λw hm=>?_⟩
 rcases h with ⟨rfl,rfl,_⟩|⟨b,cap,c,f,rfl,hL,hc,hle,ht,hff⟩
 have :cs=[]:=List.length_eq_zero_iff.1 wI;subst this;exact⟨by simp[B4],by simp[A8]⟩;refine⟨by simp[B4],?_⟩
 have :=run_loadCells_list (P:=P) w ⟨b,f.length,none⟩ cs (λj v hj=>by
   rw[K_]
   refine hm.cellL hL ?_
   rw[AT xN,BX]
   subst ht
   rw[AD] at hj
   split at hj
   . exact hj
   . cases hj)
 rw[hl] at this;exact xB
theorem src_l{α:Type}{enc:α->List PV}{k:Nat}{ys:List α}(hy:evP s.F y = .sl enc ys)(hk:∀ a,(enc a).length=k):SrcP P N H0 s enc k y ys:=λF H L ha=>by
 have h1:=(Av_ ha.f y).sim
 rw[hy] at h1
 obtain⟨k0,hs,hb⟩:=h1.slh
 cases ys with
 |nil=>
   obtain⟨⟨a,c,e,hc⟩,_⟩:=hs
   refine⟨[],⟨by simp,λw hm=>?_⟩,Nt_,λu hu=>by cases hu⟩
   rw[e]
   refine⟨by simp[B4],?_⟩
   cases a with
   |none=>simp[A8]
   |some a=>
     have :=run_loadCells_list (P:=P) w a [] (λj v hj=>by simp at hj)
     simpa [A8] using this
 |cons a r=>
   have e:k0=k:=by
     obtain⟨cs,hE,_⟩:=hs.get (show (a::r)[0]? = some a from rfl)
     rw[<- hE.1,hk]
   subst e
   obtain⟨news,h2,h3,h4⟩:=src_slE (P:=P) Ce_ hs
   exact⟨news,h4 N L,h2,h3⟩
theorem src_o{α:Type}{enc:α->List PV}{i e k:Nat}{u:Value}{ys:List α}(hy:evP s.F y = .osl i)(hb:s.L i = .arr u k e enc ys):SrcP P N H0 s enc k y ys:=λF H L ha=>by
 have h1:=Av_ ha.f y
 unfold Ok1 at h1
 rw[hy] at h1
 simp only[SimT,hb] at h1
 have h2:=ha.l i
 rw[hb] at h2
 obtain⟨cs,ho,hr,hm⟩:=h2
 rw[h1]
 exact⟨cs,src_own (F:=F) ho,hr,Iu_ Ce_ hr⟩
def Jw_(tb:Tb)(T:TypeId):Bool:=
 match lkT tb T with
 |some ti=>match ti.k with
   | .slc _=>true
   | .str=>true
   |_=>false
 |none=>false
theorem Mu_{tb:Tb}(ht:tbB P tb=true){T:TypeId}(h:Jw_ tb T=true):∃ d2,P.underlying T=some d2/\Ez_ d2=true:=by
 unfold Jw_ at h
 split at h
 . rename_i ti hti
   split at h
   . rename_i e hk;exact⟨_,(At_ ht hti).slc hk,rfl⟩
   . rename_i hk;exact⟨_,(At_ ht hti).str hk,rfl⟩
   . cases h
 . cases h
theorem Qe_{tb:Tb}{t:Nat}{ti:TI}(ht:tbB P tb=true)(hti:lkT tb t=some ti)(h1:ti.zero.length=ti.size):∃ zs:List Value,Zr P t zs/\zs.length=ti.size:=by
 obtain⟨zv,hz,hs⟩:=(At_ ht hti).zero;exact⟨zv.cells.toList,λw=>⟨zv,hz w,by simp⟩,by rw[(hs (λ_=>none)).1,h1]⟩
theorem app{α:Type}{tb:Tb}{i e k:Nat}{u:Value}{enc:α->List PV}{xs:List α}{te:TI}(ht:tbB P tb=true)(ys:List α)(hx:evP s.F x = .osl i)(hb:s.L i = .arr u k e enc xs){ti:TI}(hti:lkT tb T=some ti)(htk:ti.k = .slc e)(hT2:Jw_ tb T2=true)(hte:lkT tb e=some te)(hz:te.zero.length=te.size)(hby:Nat.blt 0 te.bytes=true)(hk:te.size=k)(hy:SrcP P N H0 s enc k y ys)(hs:(xs.length+ys.length)*te.bytes<=140737488355328)(hd:Nat.blt d n=true)
   (kk:∀ u',K ⟨updp (E2_ i s.F) d (.osl i),lups (Cd_ i s.L) i (.arr u' k e enc (xs++ys))⟩):E1 P n N H0 all ⟨some d, .call ⟨.builtin .append,#[x,y],#[T,T2]⟩,ty,pos,af,none⟩ (some i) s K:=by
 intro F H L ha;have h1:=Av_ ha.f x;unfold Ok1 at h1;rw[hx] at h1;simp only[SimT,hb] at h1;have h2:=ha.l i;rw[hb] at h2;obtain⟨cs,ho,hr,hm⟩:=h2;obtain⟨news,h3,h4,h5⟩:=hy F H L ha;obtain⟨d2,hd2,hn2⟩:=Mu_ ht hT2;obtain⟨zs,hzr,hzl⟩:=Qe_ ht hte hz;have hok:=At_ ht hte;subst hk;have hby':0<te.bytes:=by simpa using hby
 have hlen:xs.length+ys.length<=140737488355328:=C7 (ES _ hby') hs;refine M3_ i h1 Y ((At_ ht hti).slc htk) hd2 hn2 hok.sz hok.by_ hby' hzr ho h3 h5 hzl hs hd λv' en' hv'=>?_;exact⟨.refl H,only,_,(ha.turn i (B:= .arr v' te.size e enc (xs++ys)) ⟨_,by simpa using hv',Rd_ hr h4,by simpa using hlen⟩).put d (by simp[SimT,A5_]),kk v'⟩
def bslP(G:Nat->PV):List (Nat×Operand)->Nat->Option (List (List PV))
 |[],_=>some []
 |(j,x)::r,i=>match A3 j i with
   |true=>match (evP G x).cellsOf with
     |some c=>match all1 c with
       |true=>match bslP G r (i+1) with
         |some rows=>some (c::rows)
         |none=>none
       |false=>none
     |none=>none
   |false=>none
theorem Le_{sL:Nat->Blk}{H:Hp}{F:Fr}{G:Nat->PV}(hG:∀ t,SimT sL H (G t) (F t)){k:Nat}:∀ (ps:List (Nat×Operand)) (i:Nat) (rows:List (List PV)),bslP G ps i=some rows->(∀ r∈rows,r.length=k) ->
   Et_ k i (evp F ps)/\(evp F ps).length=rows.length/\∀ {α:Type} (enc:α->List PV) (xs:List α),rows=xs.map enc->Rl (RowE enc k) H xs (Bw_ (evp F ps))
 |[],i,rows,h,_=>by
   simp only[bslP,Option.some.injEq] at h
   subst h
   exact ⟨trivial,rfl,λenc xs e=>by
     have :xs=[]:=by simpa using e.symm
     subst this;exact Nt_⟩
 |(j,x)::r,i,rows,h,hk=>by
   simp only[bslP] at h
   split at h
   . rename_i hj
     split at h
     . rename_i c hc
       split at h
       . rename_i h1
         split at h
         . rename_i rows' hr
           cases h
           obtain⟨a1,a2,a3⟩:=Le_ hG r (i+1) rows' hr λq hq=>hk q (List.mem_cons_of_mem _ hq)
           have hv:=Fn_ (Av_ hG x).sim hc
           have hck:=hk c List.mem_cons_self
           refine⟨⟨Nat.eq_of_beq_eq_true hj,by rw[<- hck,<- hv.1];simp,a1⟩,by simp[evp,a2],λenc xs e=>?_⟩
           cases xs with
           |nil=>cases e
           |cons a xs=>
             simp only[DF,List.cons.injEq] at e
             obtain⟨rfl,e2⟩:=e
             refine⟨_,_,rfl,⟨hck,hv,λu hu=>?_⟩,a3 enc xs e2⟩
             have :=Bd_ hv h1
             rw[List.all_eq_true] at this
             exact this u hu
         . cases h
       . cases h
     . cases h
   . cases h
theorem bsl{α:Type}{tb:Tb}(i:Nat){e len:Nat}{ps:Array (Nat×Operand)}(enc:α->List PV)(xs:List α){rows:List (List PV)}{ti te:TI}(ht:tbB P tb=true)(hti:lkT tb T=some ti)(htk:ti.k = .slc e)(hte:lkT tb e=some te)(hr:bslP s.F ps.toList 0=some rows)(hx:rows=xs.map enc)(hk:∀ a,(enc a).length=te.size)(hl:xs.length=len)(hs:len*te.size<=16777216)(hs2:len<=140737488355328)(hd:Nat.blt d n=true)
   (kk:∀ u',K ⟨updp (E2_ i s.F) d (.osl i),lups (Cd_ i s.L) i (.arr u' te.size e enc xs)⟩):E1 P n N H0 all ⟨some d, .buildSlice T len ps,ty,pos,af,none⟩ (some i) s K:=by
 obtain⟨pl,rfl⟩:∃ pl:List (Nat×Operand),ps=pl.toArray:=⟨ps.toList,by simp⟩;simp only[List.toList_toArray] at hr;intro F H L ha;have hrow:∀ r∈rows,r.length=te.size:=λr hr=>by
   rw[hx] at hr
   obtain⟨a,_,rfl⟩:=List.mem_map.1 hr
   exact hk a
 obtain⟨a1,a2,a3⟩:=Le_ ha.f pl 0 rows hr hrow;have hrl:=a3 enc xs hx;obtain⟨zv,hz,_⟩:=(At_ ht hte).zero;have hlen:(evp F pl).length=len:=by rw[a2,hx];simpa using hl
 refine Cn_ i hd ((At_ ht hti).slc htk) (At_ ht hte).sz ⟨zv,hz⟩ Y a1 hlen Y hs λb=>?_;refine⟨.refl H,only,_,(ha.turn i (B:= .arr (.slice (some ⟨b,0,none⟩) len len) te.size e enc xs) ⟨_,?_,hrl,by omega⟩).put d (by simp[SimT,A5_]),kk _⟩;rw[<- hl];exact ownV_bx (Ns_ Ce_ hrl)
def O1_{α:Type}(i:Nat)(enc:α->List PV)(xs:List α):PV->PV
 | .osl j=>bif A3 j i then .sl enc xs else .osl j
 |p=>p
def Ic_{α:Type}(i:Nat)(enc:α->List PV)(xs:List α)(F:Nat->PV):Nat->PV:=λt=>O1_ i enc xs (F t)
def giveB{α:Type}(i:Nat)(enc:α->List PV)(xs:List α):Blk->Blk
 | .box b T cs=> .box b T (cs.map (O1_ i enc xs))
 |B=>B
def Hf_{α:Type}(i:Nat)(enc:α->List PV)(xs:List α)(L:Nat->Blk):Nat->Blk:=λt=>bif A3 t i then .no else giveB i enc xs (L t)
theorem Abs.give{α:Type}{i e k:Nat}{u:Value}{enc:α->List PV}{xs:List α}{F:Fr}{H H':Hp}{L:Ls}(ha:Abs H0 s F H L)(hb:s.L i = .arr u k e enc xs)(hl:HLe H H')(hH:∀ b o,L i=some (b,o)->H' b=some o):Abs H0 ⟨Ic_ i enc xs s.F,Hf_ i enc xs s.L⟩ F H' (lupd L i none):=by
 have hi:=ha.l i;rw[hb] at hi;obtain⟨cs,ho,hr,hm⟩:=hi;have hsl:Sim H' (.sl enc xs) u:=Sim.of_slh (P0_ Ce_ ho (hr.mono De_ hl) hH) hm;have hp:∀ {p v},SimT s.L H p v->SimT (Hf_ i enc xs s.L) H' (O1_ i enc xs p) v:=λ{p v} h=>by
   cases p with
   |osl j=>
     simp only[O1_]
     cases q:A3 j i with
     |true=>
       have :=A0 q
       subst this
       simp only[SimT,hb] at h
       subst h
       exact hsl
     |false=>
       simp only[SimT] at h
       show SimT _ _ (.osl j) v
       simp only[SimT,Hf_,q,cond_false]
       generalize s.L j=B at *
       cases B<;>first|exact h|trivial
   |_=>exact Sim.mono hl h
 refine⟨ha.le.trans hl,H0.g.mono _ _ hl ha.g,λt=>hp (ha.f t),λj=>?_⟩;simp only[Hf_]
 cases q:A3 j i with
 |true=>trivial
 |false=>
   have hne:j≠i:=λe=>by subst e;simp at q
   rw[D_ _ _ _ _ hne]
   have h1:=ha.l j
   simp only[cond_false]
   generalize s.L j=B at *
   cases B with
   |box b T cs'=>
     obtain⟨vs,h2,h3,h4⟩:=h1
     refine⟨vs,h2,by simp[h3],λa p v hpp hv=>?_⟩
     rw[AR] at hpp
     cases q2:cs'[a]? with
     |none=>rw[q2] at hpp;cases hpp
     |some p0=>rw[q2] at hpp;cases hpp;exact hp (h4 a p0 v q2 hv)
   |no=>trivial
   |arr u2 k2 e2 enc2 xs2=>obtain⟨c2,h2,h3,h4⟩:=h1;exact⟨c2,h2,h3.mono De_ hl,h4⟩
   |itr b s2 p=>exact h1
   |ob b o=>exact h1
theorem give{α:Type}{e k:Nat}{u:Value}{enc:α->List PV}{xs:List α}(i:Nat)(hb:s.L i = .arr u k e enc xs)(kk:Hd P n N H0 Q (.ops all rest) ks ⟨Ic_ i enc xs s.F,Hf_ i enc xs s.L⟩):Hd P n N H0 Q (.ops all rest) ks s:=by
 intro F H L ha;exact Pi_ i Y λH' hl hg=>kk _ _ _ (ha.give hb hl hg)
theorem givec{α:Type}{e k:Nat}{u:Value}{enc:α->List PV}{xs:List α}{c:Code}(i:Nat)(hb:s.L i = .arr u k e enc xs)(kk:Hd P n N H0 Q (.code c) ks ⟨Ic_ i enc xs s.F,Hf_ i enc xs s.L⟩):Hd P n N H0 Q (.code c) ks s:=by
 intro F H L ha;exact Os_ i Y λH' hl hg=>kk _ _ _ (ha.give hb hl hg)
theorem calll{α:Type}{e k:Nat}{u:Value}{enc:α->List PV}{ls:List α}{f:FuncId}{args:List PV}{res:PV}{xs:Array Operand}{ats:Array TypeId}(i:Nat)(hb:s.L i = .arr u k e enc ls)(h:Fn P H0.g f args res)(hf:res.flat=true)(ha:argsP (Ic_ i enc ls s.F) x xs.toList=some (f,args))(hd:Nat.blt d n=true)
   (kk:res.wf->K ⟨updp s.F d res,s.L⟩):E1 P n N H0 all ⟨some d, .call ⟨.value x,xs,ats⟩,ty,pos,af,none⟩ none s K:=by
 intro F H L hab;refine λa w hA hm=>?_;obtain⟨H1,hl1,hg1,hm1⟩:=hm.giveO (i:=i) Y;have hab1:=hab.give hb hl1 hg1;obtain⟨vs,h1,h2⟩:=Ej_ (ats:=ats) hab1.f ha h.cb;rw[if_pos xR];unfold Oper.wp;rw[hA.eval,h2];refine (h.run N H1 _ w vs hab1.g h1 hm1).mono λe' w' ⟨v,H',he,hv,hl,hm'⟩=>?_;subst he;refine⟨_,H,L,hA.put xU v,?_, .refl H,λ_ _=>rfl,_,hab.put d ?_,kk hv.wf⟩
 . have hm2:=hm'.le hl
   cases hLi:L i with
   |none=>
     have e1:lupd L i none=L:=Ju_ hLi
     rw[e1] at hm2
     exact hm2.le hl1
   |some bo=>
     obtain⟨b,o⟩:=bo
     have hle:HLe (hadd H b o) H1:=λc q hq=>by
       by_cases e:c=b
       . subst e;simp[hadd] at hq;subst hq;exact hg1 _ _ hLi
       . simp[hadd,e] at hq;exact hl1 c q hq
     exact hm.take hLi (hm2.le hle)
 have hno:=h.no;refine Sim.simT ?_ hno;obtain⟨v0,hv0⟩:∃ v0,v0=v:=⟨v,rfl⟩;exact Sim.flat_any hf hv
end Go.SW
namespace Go.SW
variable{P:Program}{n:Nat}{N:Rest}{H0:Env}{all rest:List Oper}{Q:Qs}{ks:List Kt}{s:St}{T T2 ty d:Nat}{pos:String}{af:Array Edge}{x y z:Operand}{K:St->Prop}
def LkR(xs:Option (List Nat))(Lk L:Ls):Prop:=match xs with
 |some xs=>∀ i,Lk i = bif memB xs i then none else L i
 |none=>True
def Hv(P:Program)(n:Nat)(N:Rest)(H0:Env)(Q:Qs)(xs:Option (List Nat))(all:List Oper)(fuel:Nat)(listed:Array Bool)(ks:List Kt)(s:St):Prop:=
 ∀ F H L Lk,Abs H0 s F H L->LkR xs Lk L->Vw P n N all Lk (ql H0 (Kt.den P n N H0 ks Q)) fuel listed F H L
theorem any(xs:List Nat)(m:Nat){id:Nat}{ops:Array Oper}(hmx:P.follows .mixedOrders=true)(hm:ops.toList.length=m)(h:Hv P n N H0 Q (some xs) ops.toList m (Array.replicate m false) ks s):Hd P n N H0 Q (.code (.region id ops true)) ks s:=by
 intro F H L ha;subst hm;have :=Qj_ (id:=id) hmx (λi=>bif memB xs i then none else L i) (h F H L _ ha λ_=>rfl);exact xC
theorem vdone{xs:Option (List Nat)}{fuel:Nat}{listed:Array Bool}(h:Region.ready .any all.toArray listed=[])(k:Hd P n N H0 Q (.ex .normal) ks s):Hv P n N H0 Q xs all fuel listed ks s:=λF H L Lk ha _=>I5_ h ⟨s,ha,k⟩
def okX(xs:Option (List Nat))(i:Nat):Bool:=match xs with
 |some xs=>!memB xs i
 |none=>false
def okLk(xs:Option (List Nat))(sL:Nat->Blk)(op:Op)(lk:Option (Nat×Nat×Nat)):Bool:=
 match lk with
 |none=>true
 |some (i,_,_)=>match B7_ op with
   |true=>match okX xs i with
     |true=>match sL i with
       | .box _ _ _=>true
       |_=>false
     |false=>false
   |false=>false
theorem Pb_{xs:Option (List Nat)}{Lk L:Ls}(h:LkR xs Lk L){op:Op}(ho:B7_ op=false\/∃ i,okX xs i=true):LLe (lkOf op Lk) L:=by
 rcases Ck_ op Lk with ⟨h1,h2⟩|h2
 . rcases ho with q|⟨i,q⟩
   . rw[h1] at q;cases q
   . rw[h2]
     cases xs with
     |none=>cases q
     |some xs=>
       intro j o hj
       rw[h j] at hj
       cases e:memB xs j with
       |true=>rw[e] at hj;cases hj
       |false=>rw[e] at hj;exact hj
 rw[h2];exact λ_ _ q=>by cases q
theorem Mz_{xs:Option (List Nat)}{F:Fr}{H:Hp}{L Lk:Ls}{op:Op}{lk:Option (Nat×Nat×Nat)}(ha:Abs H0 s F H L)(hL:LkR xs Lk L)(h:okLk xs s.L op lk=true){L':Ls}(hl:LLe (lkOf op Lk) L'):∀ x,lk=some x->L' x.1=L x.1:=by
 intro x hx;subst hx;obtain⟨i,a,b⟩:=x;simp only[okLk] at h
 split at h
 . rename_i h1
   split at h
   . rename_i h2
     split at h
     . rename_i b' T cs h3
       have h4:=ha.l i
       rw[h3] at h4
       obtain⟨vs,h5,_⟩:=h4
       rcases Ck_ op Lk with ⟨_,e⟩|e
       . cases xs with
         |none=>cases h2
         |some xs=>
           have h6:Lk i=L i:=by
             rw[hL i]
             simp only[okX,FK] at h2
             rw[h2];rfl
           exact (hl i _ (by rw[e,h6,h5])).trans h5.symm
       . exfalso
         have e2:lkOf op Lk=Lk\/B7_ op=false:=by cases op<;>first|exact .inl Y|exact .inr Y
         rcases e2 with q|q
         . rw[q] at e
           cases xs with
           |none=>cases h2
           |some xs=>
             have h6:=hL i
             simp only[okX,FK] at h2
             rw[h2,e] at h6
             simp only[cond_false] at h6
             rw[h5] at h6;cases h6
         . rw[h1] at q;cases q
     . cases h
   . cases h
 . cases h
theorem sv_v{tb:Tb}{xs:Option (List Nat)}{fuel i:Nat}{listed:Array Bool}{o:Oper}{r:PR}(ht:tbB P tb=true)(hi:nth all i=some o)(ho:o.dst=some d)(hck:(rdB all listed i&&apB n all listed i o&&Nat.blt d n&&nosB o.op)=true)(h:vOp tb s all o=some r)(hp:AllP r.ps)(he:∀ x,r.lk=some x->x.2.1=x.2.2)(hlk:okLk xs s.L o.op r.lk=true)(hx:B7_ o.op=false\/∃ i,okX xs i=true)
   (k:Hv P n N H0 Q xs all fuel (listed.setIfInBounds i true) ks ⟨updp s.F d r.v,s.L⟩):Hv P n N H0 Q xs all (fuel+1) listed ks s:=by
 intro F H L Lk ha hL;rw[B3_] at hi;obtain⟨d',op,ty,pos,af,g⟩:=o
 cases ho
 unfold vOp at h
 split at h
 . rename_i hg
   cases hg
   obtain⟨val,h1,h2⟩:=J2_ (N:=N) (ty:=ty) ht ha.f ha.l h hp he
   exact vw_q i hi hck (Pb_ hL hx) (λH' L' hh hl=>h2 H' L' hh (Mz_ ha hL hlk hl)) (k _ _ _ _ (ha.put d h1) hL)
 . rename_i j want hg
   cases hg
   split at h
   . rename_i oj hj
     split at h
     . rename_i dj hdj
       split at h
       . rename_i g hgc
         split at h
         . rename_i hno
           unfold pG1 at h
           split at h
           . rename_i v0 ps0 lk0 hr0
             split at h
             . rename_i hnv
               cases h
               obtain⟨c,b,hv,hge⟩:=gC_ok hgc (ha.f dj).sim
               have hy:yF all F j=some (gv c (.bool b)):=by rw[Qa_ hj hdj,hv]
               obtain⟨hp1,hp2⟩:=Cj_ hp
               have hge2:g=(c&&(b==want)):=hge.trans L7_.symm
               cases hgv:g with
               |false=>
                 refine vgq (c:=c) (b:=b) (v:=undef) i hi hck (Pb_ hL hx) (λ_ _ q=>by cases q) hy (λe=>by rw[<- hge2,hgv] at e;cases e) (k _ _ _ _ (ha.put d ?_) hL)
                 rw[<- hge2,hgv]
                 exact Sim.gvf
               |true=>
                 obtain⟨val,h1,h2⟩:=J2_ (N:=N) (ty:=ty) ht (G1_ ha.f (λt ht c v e=>hp2 t ht c v e hgv) (B8_ hno)) ha.l hr0 (Es_ hgv hp1) he
                 refine vgq (c:=c) (b:=b) (v:=val) i hi hck (Pb_ hL hx) (λ_ _ q=>by cases q) hy (λ_ H' L' hh hl=>h2 H' L' hh (Mz_ ha hL hlk hl)) (k _ _ _ _ (ha.put d ?_) hL)
                 rw[<- hge2,hgv]
                 exact Sim.gvt h1.sim
             . cases h
           . cases h
         . cases h
       . cases h
     . cases h
   . cases h
structure VV where
 F:Nat->PV
 L:Nat->Blk
 ps:List Prop
 as0:List Nat
 bs:List Nat
def lksOk(xs:Option (List Nat))(op:Op):Bool:=match B7_ op with
 |false=>true
 |true=>match xs with
   |some xs=>!memB xs (xs.foldr max 0+1)
   |none=>false
theorem Jm_{xs:Option (List Nat)}{op:Op}(h:lksOk xs op=true):B7_ op=false\/∃ i,okX xs i=true:=by
 unfold lksOk at h
 split at h
 exact .inl wA
 . split at h
   exact .inr ⟨_,h⟩
   . cases h
def runV(tb:Tb)(xs:Option (List Nat))(all:List Oper):List Nat->(Nat->PV)->(Nat->Blk)->List Prop->List Nat->List Nat->Option VV
 |[],F,L,ps,as0,bs=>frcP ps λps=>frcN as0 λas0=>frcN bs λbs=>some ⟨F,L,ps,as0,bs⟩
 |i::r,F,L,ps,as0,bs=>match nth all i with
   |some o=>match o.dst with
     |some d=>match vOp tb ⟨F,L⟩ all o with
       |some ⟨v0,ps0,lk0⟩=>match okLk xs L o.op lk0 with
         |true=>match lksOk xs o.op with
           |true=>match lk0 with
             |none=>addP ps ps0 λps=>frc v0 λv=>runV tb xs all r (updp F d v) L ps as0 bs
             |some (_,a,b)=>addP ps ps0 λps=>frc v0 λv=>runV tb xs all r (updp F d v) L ps (a::as0) (b::bs)
           |false=>none
         |false=>none
       |none=>none
     |none=>none
   |none=>none
def chkV(n:Nat)(all:List Oper):List Nat->Array Bool->Bool
 |[],_=>true
 | i::r,listed=>(match nth all i with
   |some o=>rdB all listed i&&apB n all listed i o&&dstB n o&&nosB o.op
   |none=>false)&&chkV n all r (listed.setIfInBounds i true)
def lst(listed:Array Bool):List Nat->Array Bool
 |[]=>listed
 |i::r=>lst (listed.setIfInBounds i true) r
theorem Nw_{tb:Tb}(ht:tbB P tb=true){xs:Option (List Nat)}:∀ (order:List Nat) (fuel:Nat) (listed:Array Bool) (F:Nat->PV) (L:Nat->Blk) (ps:List Prop) (as0 bs:List Nat) (r:VV),chkV n all order listed=true->runV tb xs all order F L ps as0 bs=some r->AllP r.ps->r.as0=r.bs ->
   AllP ps/\as0=bs/\(Hv P n N H0 Q xs all fuel (lst listed order) ks ⟨r.F,r.L⟩->Hv P n N H0 Q xs all (fuel+order.length) listed ks ⟨F,L⟩)
 |[],fuel,listed,F,L,ps,as0,bs,r,_,h,hp,he=>by
   simp only[runV,Er_,Gk_,Option.some.injEq] at h
   subst h
   exact⟨hp,he,id⟩
 |i::q,fuel,listed,F,L,ps,as0,bs,r,hc,h,hp,he=>by
   simp only[chkV,A2] at hc
   obtain⟨hc1,hc2⟩:=hc
   have ih:=Nw_ ht (xs:=xs) q fuel (listed.setIfInBounds i true)
   simp only[runV] at h
   split at h
   . rename_i o ho
     rw[ho] at hc1
     split at h
     . rename_i d hd
       split at h
       . rename_i v0 ps0 lk0 hv
         split at h
         . rename_i hlk
           split at h
           . rename_i hlo
             have hck:(rdB all listed i&&apB n all listed i o&&AC d n&&nosB o.op)=true:=by simpa [dstB,hd] using hc1
             split at h
             . rw[F9_,Fs_] at h
               obtain⟨h1,h2,h3⟩:=ih _ _ _ _ _ r hc2 h hp he
               obtain⟨h4,h5⟩:=Ci_ h1
               exact⟨h4,h2,λx=>sv_v ht ho hd hck hv h5 (λy hy=>by cases hy) hlk (Jm_ hlo) (h3 x)⟩
             . rename_i j a b
               rw[F9_,Fs_] at h
               obtain⟨h1,h2,h3⟩:=ih _ _ _ _ _ r hc2 h hp he
               obtain⟨h4,h5⟩:=Ci_ h1
               simp only[List.cons.injEq] at h2
               exact⟨h4,h2.2,λx=>sv_v ht ho hd hck hv h5 (λy hy=>by cases hy;exact h2.1) hlk (Jm_ hlo) (h3 x)⟩
           . cases h
         . cases h
       . cases h
     . cases h
   . cases h
theorem gov{tb:Tb}(ht:tbB P tb=true)(order:List Nat)(f:Nat){xs:Option (List Nat)}{fuel:Nat}{listed:Array Bool}{F F':Nat->PV}{L L':Nat->Blk}{ps:List Prop}{as0 bs:List Nat}(hf:fuel=f+order.length)(hc:chkV n all order listed=true)(h:runV tb xs all order F L [] [] []=some ⟨F',L',ps,as0,bs⟩)(he:as0=bs)(hp:AllP ps)(next :Hv P n N H0 Q xs all f (lst listed order) ks ⟨F',L'⟩):Hv P n N H0 Q xs all fuel listed ks ⟨F,L⟩:=by
 subst hf;exact (Nw_ ht order f listed F L [] [] [] _ hc h hp he).2.2 next
theorem sim_ex{G:Gb}{f:FuncId}{args:List PV}{res:PV}{H:Hp}{vs:List Value}{L:Ls}{w:World}(h:Fn P G f args res)(hg:G.p H)(hs:Sims H args vs)(hm:Mem N H L w):∃ v H',Sim H' res v:=by
 obtain⟨_,_,_,⟨v,H',_,h2,_⟩,_⟩:=h.run N H L w vs hg hs hm [];exact⟨v,H',h2⟩
theorem vw_none{Lk:Ls}{Qq:Qt}{fuel i:Nat}{listed:Array Bool}{F:Fr}{H:Hp}{L:Ls}(hr:rdB all listed i=true)(hn:¬∃ w,Mem N H L w):Vw P n N all Lk Qq (fuel+1) listed F H L:=by
 refine⟨λe=>?_,λj hj a w _ hm=>absurd ⟨w,hm⟩ hn⟩;simp[rdB,e] at hr
theorem vcall{xs:Option (List Nat)}{fuel:Nat}{listed:Array Bool}{f:FuncId}{args:List PV}{res:PV}{as0:Array Operand}{ats:Array TypeId}(i:Nat)(hi:nth all i=some ⟨some d, .call ⟨.value x,as0,ats⟩,ty,pos,af,none⟩)(hck:(rdB all listed i&&apB n all listed i ⟨some d, .call ⟨.value x,as0,ats⟩,ty,pos,af,none⟩&&Nat.blt d n&&nosB (.call ⟨.value x,as0,ats⟩))=true)(h:Fn P H0.g f args res)(hf:res.flat=true)(ha:argsP s.F x as0.toList=some (f,args))
   (k:res.wf->Hv P n N H0 Q xs all fuel (listed.setIfInBounds i true) ks ⟨updp s.F d res,s.L⟩):Hv P n N H0 Q xs all (fuel+1) listed ks s:=by
 intro F H L Lk hab hL;by_cases hw:∃ w,Mem N H L w;obtain⟨w,hm⟩:=hw;rw[B3_] at hi;obtain⟨vs,h1,h2⟩:=Ej_ (ats:=ats) hab.f ha h.cb;obtain⟨v,H',hv⟩:=sim_ex h hab.g h1 hm;exact vw_qc i hi hck (λ_ _ q=>by cases q) (h.pr hf hab.g h1 hv) h2 (k hv.wf _ _ _ _ (hab.put d ((Sim.flat_any hf hv).simT h.no)) hL)
 simp only[A2] at hck;exact vw_none hck.1.1.1 hw
theorem ve{xs:List Nat}{fuel:Nat}{listed:Array Bool}{o:Oper}{j:Option Nat}(i:Nat)(hi:nth all i=some o)(hr:Region.ready .any all.toArray listed=[i])(hj:(match j with|none=>true|some j=>memB xs j)=true)(h:E1 P n N H0 all o j s (λs'=>Hv P n N H0 Q (some xs) all fuel (listed.setIfInBounds i true) ks s')):Hv P n N H0 Q (some xs) all (fuel+1) listed ks s:=by
 intro F H L Lk ha hL;rw[B3_] at hi;have hle:∀ L':Ls,(∀ i,j≠some i->L' i=L i)->LkR (some xs) Lk L':=λL' hL' i=>by
   rw[hL i]
   cases e:memB xs i with
   |true=>rfl
   |false=>
     refine (hL' i λq=>?_).symm
     subst q
     simp only at hj
     rw[e] at hj;cases hj
 refine vw_e i hi hr ((h F H L ha).imp λF' H' L' ⟨h1,h2,s',h3,h4⟩=>⟨⟨h1,λi x hx=>?_⟩,h4 F' H' L' Lk h3 (hle L' h2)⟩);have :=hle L' h2 i;rw[this] at hx
 cases e:memB xs i with
 |true=>rw[e] at hx;cases hx
 |false=>rw[e] at hx;exact hx
theorem ecall{f:FuncId}{args:List PV}{res:PV}{as0:Array Operand}{ats:Array TypeId}(h:Fn P H0.g f args res)(ha:argsP s.F x as0.toList=some (f,args))(hd:Nat.blt d n=true)(k:res.wf->K ⟨updp s.F d res,s.L⟩):E1 P n N H0 all ⟨some d, .call ⟨.value x,as0,ats⟩,ty,pos,af,none⟩ none s K:=by
 intro F H L hab;obtain⟨vs,h1,h2⟩:=Ej_ (ats:=ats) hab.f ha h.cb;exact M8_ (h.ph hab.g h1) h2 hd λv H' hv hl=>⟨hl,λ_ _=>rfl,_,(hab.mono hl).put d (hv.simT h.no),k hv.wf⟩
end Go.SW
namespace Go.SW
variable{P:Program}{n:Nat}{N:Rest}{H0:Env}{all rest:List Oper}{Q:Qs}{ks:List Kt}{s:St}{T T' T2 ty d:Nat}{pos:String}{af:Array Edge}{x y z:Operand}{K:St->Prop}{op:Op}{p:PV}
def Qy(P:Program)(N:Rest)(H0:Env)(s:St)(op:Op)(ty:TypeId)(p:PV):Prop:=
 ∀ F H L,Abs H0 s F H L->∃ val,SimT s.L H p val/\∀ H' L',HLe H H'->Lo P N op ty F H' L' val
theorem q1(h:Qy P N H0 s op ty p)(hd:Nat.blt d n=true)(k:p.wf->Hd P n N H0 Q (.ops all rest) ks ⟨updp s.F d p,s.L⟩):Hd P n N H0 Q (.ops all (⟨some d,op,ty,pos,af,none⟩::rest)) ks s:=λF H L ha=>by
 obtain⟨val,h1,h2⟩:=h F H L ha
 exact ow1 (Du_ hd (h2 H L (.refl H)) (k h1.sim.wf _ _ _ (ha.put d h1)))
theorem eqy(h:Qy P N H0 s op ty p)(hd:Nat.blt d n=true)(k:p.wf->K ⟨updp s.F d p,s.L⟩):E1 P n N H0 all ⟨some d,op,ty,pos,af,none⟩ none s K:=λF H L ha=>by
 obtain⟨val,h1,h2⟩:=h F H L ha
 exact Du_ hd (h2 H L (.refl H)) ⟨.refl H,λ_ _=>rfl,_,ha.put d h1,k h1.sim.wf⟩
theorem vq{xs:Option (List Nat)}{fuel:Nat}{listed:Array Bool}(i:Nat)(h:Qy P N H0 s op ty p)(hi:nth all i=some ⟨some d,op,ty,pos,af,none⟩)(hck:(rdB all listed i&&apB n all listed i ⟨some d,op,ty,pos,af,none⟩&&Nat.blt d n&&nosB op)=true)(hl:B7_ op=false)(k:p.wf->Hv P n N H0 Q xs all fuel (listed.setIfInBounds i true) ks ⟨updp s.F d p,s.L⟩):Hv P n N H0 Q xs all (fuel+1) listed ks s:=by
 intro F H L Lk ha hL;rw[B3_] at hi;obtain⟨val,h1,h2⟩:=h F H L ha;exact vw_q i hi hck (Pb_ hL (.inl hl)) (λH' L' hh _=>h2 H' L' hh) (k h1.sim.wf _ _ _ _ (ha.put d h1) hL)
def strS(ts:List Nat)(s:St):St:=⟨strG ts s.F,s.L⟩
theorem abs_str{g:Bool}{ts:List Nat}{F:Fr}{H:Hp}{L:Ls}(ha:Abs H0 s F H L)(hc:AllP (Fi_ s.F g ts []))(hno:Db_ s.F ts=true)(hg:g=true):Abs H0 (strS ts s) F H L:=
 ⟨ha.le,ha.g,G1_ ha.f (λt ht c v e=>(Cj_ hc).2 t ht c v e hg) (B8_ hno),ha.l⟩
theorem q1g{j:Nat}{want g:Bool}(ts:List Nat)(hg:gOp s all j want=some g)(h:g=true->Qy P N H0 (strS ts s) op ty p)(hc:AllP (Fi_ s.F g ts []))(hno:Db_ s.F ts=true)(hpo:p.noOsl=true)(hd:Nat.blt d n=true)(k:(g=true->p.wf)->Hd P n N H0 Q (.ops all rest) ks ⟨updp s.F d (.gv g p),s.L⟩):Hd P n N H0 Q (.ops all (⟨some d,op,ty,pos,af,some (j,want)⟩::rest)) ks s:=λF H L ha=>by
 obtain⟨c,b,hy,hge⟩:=Qq_ ha hg
 refine ow_gd hy hd (λe=>?_) (λe=>?_)
 . have hgt:=hge.trans e
   obtain⟨val,h1,h2⟩:=h hgt F H L (abs_str ha hc hno hgt)
   refine Du_ hd (h2 H L (.refl H)) (k (λ_=>h1.sim.wf) _ _ _ (ha.put d ?_))
   rw[hgt];exact Sim.gvt h1.sim
 . have hgf:=hge.trans e
   refine k (λe=>by rw[hgf] at e;cases e) _ _ _ (ha.put d ?_)
   rw[hgf];exact Sim.gvf
theorem Abs.ev{F:Fr}{H:Hp}{L:Ls}(ha:Abs H0 s F H L){x:Operand}{p:PV}(hx:evP s.F x=p):SimT s.L H p (ev F x):=by
 have h1:=Av_ ha.f x;unfold Ok1 at h1
 rwa [hx] at h1
theorem u8_get{H:Hp}{a:Bs}{m:Nat}:Sim H (.int .u8 ((a.getD m 0).toNat:Int)) (.int .u8 ((a.getD m 0).toNat:Int)):=by
 have :=(a.getD m 0).toNat_lt;have e1:IntKind.min .u8=0:=rfl;have e2:IntKind.max .u8=255:=rfl;exact .int xN xN
theorem sidx{tb:Tb}{ti:TI}{a:Bs}{k:IntKind}{i:Int}(ht:tbB P tb=true)(m:Nat)(hx:evP s.F x = .str a)(hy:evP s.F y = .int k i)(hti:lkT tb T=some ti)(htk:ti.k = .str)(hi:i=m)(hm:m<a.length):Qy P N H0 s (.index T x y) ty (.int .u8 (a.getD m 0).toNat):=λF H L ha=>by
 have h1:=(ha.ev hx).sim
 have h2:=(ha.ev hy).sim
 exact⟨_,u8_get,λH' L' _=>Dz_ m h1.inv_str.1 h2.inv_int.1 ((At_ ht hti).str htk) hi hm⟩
theorem sslo{tb:Tb}{ti:TI}{a:Bs}{k:IntKind}{i:Int}(ht:tbB P tb=true)(m:Nat)(hx:evP s.F x = .str a)(hy:evP s.F y = .int k i)(hti:lkT tb T=some ti)(htk:ti.k = .str)(hi:i=m)(hm:m<=a.length):Qy P N H0 s (.slice T x (some y) none none) ty (.str (a.drop m)):=λF H L ha=>by
 have h1:=(ha.ev hx).sim
 have h2:=(ha.ev hy).sim
 exact⟨_,Sim.str (by have :=h1.inv_str.2;simp;omega),λH' L' _=>Ex_ m h1.inv_str.1 h2.inv_int.1 ((At_ ht hti).str htk) hi hm⟩
theorem ssl{tb:Tb}{ti:TI}{a:Bs}{k k':IntKind}{i j:Int}(ht:tbB P tb=true)(m q:Nat)(hx:evP s.F x = .str a)(hy:evP s.F y = .int k i)(hz:evP s.F z = .int k' j)(hti:lkT tb T=some ti)(htk:ti.k = .str)(hi:i=m)(hj:j=q)(hm:m<=q)(hq:q<=a.length):Qy P N H0 s (.slice T x (some y) (some z) none) ty (.str ((a.drop m).take (q-m))):=λF H L ha=>by
 have h1:=(ha.ev hx).sim
 have h2:=(ha.ev hy).sim
 have h3:=(ha.ev hz).sim
 exact⟨_,Sim.str (by have :=h1.inv_str.2;simp;omega),λH' L' _=>Hm_ m q h1.inv_str.1 h2.inv_int.1 h3.inv_int.1 ((At_ ht hti).str htk) hi hj hm hq⟩
theorem qidx{α:Type}{tb:Tb}{ti te:TI}{e:TypeId}{enc:α->List PV}{xs:List α}{kk:IntKind}{i:Int}(ht:tbB P tb=true)(m:Nat){a:α}(hx:evP s.F x = .sl enc xs)(hy:evP s.F y = .int kk i)(hm:i=m)(ha:xs[m]? = some a)(hti:lkT tb T=some ti)(hk:ti.k = .slc e)(hte:lkT tb e=some te)(hsz:te.size=(enc a).length):Qy P N H0 s (.indexAddr T x y) ty (.el (enc a) 0):=λF H L hab=>by
 have h1:=(hab.ev hx).sim
 have h2:=(hab.ev hy).sim
 obtain⟨k0,hs,hb⟩:=h1.slh
 obtain⟨cs,hE,hat⟩:=hs.get ha
 have hsize:=(At_ ht hte).sz
 rw[hsz,hE.1] at hsize
 have hlt:m<xs.length:=by
   rcases DB m xs.length with q|q
   . exact q
   . rw[List.getElem?_eq_none q] at ha;cases ha
 refine⟨_,Sim.simT (p:= .el (enc a) 0) ?_ Y,λH' L' hh=>Hk_ Y h2.inv_int.1 hs.1 (hat.mono hh) ((At_ ht hti).slc hk) hsize hm hlt⟩
 have :=Sim.el (row:=enc a) (o:=0) hat hE.1 hE.2.1.2
 simpa [sPtr] using this
theorem lshi{α:Type}{tb:Tb}{ti te:TI}{e:TypeId}{enc:α->List PV}{xs:List α}{k:IntKind}{i:Int}(ht:tbB P tb=true)(m:Nat)(hx:evP s.F x = .sl enc xs)(hy:evP s.F y = .int k i)(hti:lkT tb T=some ti)(htk:ti.k = .slc e)(hte:lkT tb e=some te)(hw:∀ a,(enc a).length=te.size)(hi:i=m)(hm:m<=xs.length):Qy P N H0 s (.slice T x none (some y) none) ty (.sl enc (xs.take m)):=λF H L hab=>by
 have h1:=(hab.ev hx).sim
 have h2:=(hab.ev hy).sim
 obtain⟨k0,hs,hb⟩:=h1.slh
 have hsz:=(At_ ht hte).sz
 obtain⟨⟨a,c,hv,hc⟩,hall⟩:=hs
 have hs':SlH (RowE enc te.size) te.size H (.slice a xs.length c) xs:=by
   refine⟨⟨a,c,rfl,hc⟩,λm hm=>?_⟩
   obtain⟨cs,hE,hat⟩:=hall m hm
   have e:k0=te.size:=by rw[<- hE.1,hw]
   subst e
   rw[hv] at hat
   exact⟨cs,hE,hat⟩
 have hr:=P1_ hs' hm
 have hlen:m=(xs.take m).length:=by simp;omega
 exact⟨_,Sim.simT (Sim.of_slh hr xN) Y,λH' L' _=>Ew_ m hv h2.inv_int.1 ((At_ ht hti).slc htk) hsz hi (C7 hm hc)⟩
theorem sw_own{α:Type}{t k e:Nat}{c:Code}(i:Nat)(enc:α->List PV)(hF:s.F t = .val (.slice none 0 0))(hno:s.L i = .no)(kk:Hd P n N H0 Q (.code c) ks ⟨updp (E2_ i s.F) t (.osl i),lups (Cd_ i s.L) i (.arr (.slice none 0 0) k e enc [])⟩):Hd P n N H0 Q (.code c) ks s:=λF H L ha=>by
 have hL0:Abs H0 s F H (lupd L i none):=⟨ha.le,ha.g,ha.f,λj=>by
   by_cases e:j=i
   . subst e;rw[hno];trivial
   . rw[D_ _ _ _ _ e];exact ha.l j⟩
 have h1:=(ha.f t).sim
 rw[hF] at h1
 have h2:=hL0.turn i (B:= .arr (.slice none 0 0) k e enc []) (x:=none) ⟨[],Gs_,Nt_,by simp⟩
 have e2:lupd (lupd L i none) i none=lupd L i none:=by funext j;simp only[lupd];cases A3 j i<;>rfl
 rw[e2] at h2
 refine Lj_ (λw hm=>hm.clear i) (kk F H _ ⟨h2.le,h2.g,λq=>?_,h2.l⟩)
 by_cases e:q=t
 . subst e;simp only[Hz_,SimT,A5_];exact h1.inv_val
 . simp only[Oc_ _ _ _ _ e];exact h2.f q
end Go.SW
namespace Go.SW
variable{P:Program}{n:Nat}{N:Rest}{H0:Env}{all rest:List Oper}{Q:Qs}{ks:List Kt}{s:St}{T T' T2 ty d:Nat}{pos:String}{af:Array Edge}{x y z:Operand}{K:St->Prop}{op:Op}{p:PV}
theorem qconv{tb:Tb}{ti td:TI}{k k':IntKind}{a:Int}(ht:tbB P tb=true)(hx:evP s.F x = .int k a)(hti:lkT tb T=some ti)(htd:lkT tb T'=some td)(hk:td.k = .int k')(h:k'.min<=a/\a<=k'.max):Qy P N H0 s (.convert T T' x) ty (.int k' a):=λF H L ha=>
 ⟨_,Sim.int h.1 h.2,λ_ _ _=>Dq_ (ha.ev hx).sim.inv_int.1 (At_ ht hti).isSome ((At_ ht htd).int hk) h⟩
end Go.SW
namespace Go.SW
variable{P:Program}{n:Nat}{N:Rest}{H0:Env}{Q:Qs}{ks:List Kt}{s:St}
theorem cndF{c:Operand}{x y:Code}{b:Bool}(hc:evP s.F c = .bool b)(hb:b=false)(k:Hd P n N H0 Q (.code y) ks s):Hd P n N H0 Q (.code (.cond c x y)) ks s:=cnd hc (λe=>by rw[hb] at e;cases e) (λ_=>k)
variable{tb:Tb}{rs:List ResultVar}{res p q r:PV}{as0 bs:List Nat}
theorem rt1(h:Gu_ tb s rs=some ([p],as0,bs))(he:as0=bs)(hp:PLe p res):Hd P n N H0 (rtK tb rs res) (.ex .ret) [] s:=rt h he hp
theorem Po_{α:Type}{enc:α->List PV}{xs:List α}(h:xs=[]):PLe (.val (.slice none 0 0)) (.sl enc xs):=h ▸ ple_nil
def strc(s:Bs):List PV:=[.str s]
def i64c(z:Int):List PV:=[.int .i64 z]
def slc{α:Type}(enc:α->List PV)(l:List α):List PV:=[.sl enc l]
end Go.SW
namespace Go.SW
variable{P:Program}{n:Nat}{N:Rest}{H0:Env}{all rest:List Oper}{Q:Qs}{ks:List Kt}{s:St}
end Go.SW
namespace Go.SW
variable{P:Program}{n:Nat}{N:Rest}{H0:Env}{s:St}{tb:Tb}{rs:List ResultVar}{res p q0:PV}{b b' T:Nat}{post q:List PV}{as0 bs:List Nat}
end Go.SW
namespace Go.SW
variable{P:Program}{n:Nat}{N:Rest}{H0:Env}{all rest:List Oper}{Q:Qs}{ks:List Kt}{s:St}
end Go.SW
namespace Go.SW
theorem J5_{z:Int}(h:-9223372036854775808<=z/\z<=9223372036854775807):IntKind.min .i64<=z/\z<=IntKind.max .i64:=h
theorem rg_u32{z:Int}(h:0<=z/\z<=4294967295):IntKind.min .u32<=z/\z<=IntKind.max .u32:=h
theorem rg_u64{z:Int}(h:0<=z/\z<=18446744073709551615):IntKind.min .u64<=z/\z<=IntKind.max .u64:=h
theorem wr_u8(z:Int):0<=IntKind.wrap .u8 z/\IntKind.wrap .u8 z<=255:=by
 exact yV
theorem Og_(z:Int):0<=IntKind.wrap .u32 z/\IntKind.wrap .u32 z<=4294967295:=by
 exact yV
theorem wr_u64(z:Int):0<=IntKind.wrap .u64 z/\IntKind.wrap .u64 z<=18446744073709551615:=by
 exact yV
def letter(c:Int):Bool:=decide (97<=c) && decide (c<=122) || decide (48<=c) && decide (c<=57) || decide (c=45) || decide (c=95)
def plain(s:Bs):Bool:=s.all λc=>letter c.toNat
def C2_(s:Bs):Int:=if s=[] then 15 else if (16:Int)<s.length then 5 else if plain s then 0 else 4
theorem u8r(c:UInt8):0<=(c.toNat:Int)/\(c.toNat:Int)<=255:=by have :=c.toNat_lt;omega
theorem Lq_{s:Bs}{k:Nat}(h:k<s.length):s.drop k=s.getD k 0::s.drop (k+1):=by
 rw[List.drop_eq_getElem_cons h];simp[AO,h]
structure Out where
 s:Bs
 err:Int
def Out.cells(o:Out):List Value:=[str o.s, .int .i64 o.err]
structure In where
 s:Bs
 err:Int
def In.cells(i:In):List Value:=[str i.s, .int .i64 i.err]
def numB:Nat->Nat->Bs
 |0,_=>[]
 |k+1,n=>B7 (n/256 ^ k)::numB k n
def numK(bytes:Int):Nat:=(min (max bytes 0) 8).toNat
def Ne_(o:Out)(n bytes:Int):Out:=⟨o.s++numB (numK bytes) n.toNat,o.err⟩
theorem wrap8r(z:Int):0<=IntKind.wrap .u8 z/\IntKind.wrap .u8 z<=255:=by
 simp[AA,A5,B5];omega
theorem byte_of{n:Int}{j:Nat}(hn:0<=n)(hj:1<=j)(hj8:j<=8):UInt8.ofNat (IntKind.wrap .u8 (n.fdiv (2 ^ (min (8*((j:Int)-1)).toNat IntKind.u64.bits)))).toNat=UInt8.ofNat (n.toNat/256 ^ (j-1)):=by
 obtain⟨m,rfl⟩:=Int.eq_ofNat_of_zero_le hn;obtain⟨q,rfl⟩:∃ q,j=q+1:=⟨j-1,by omega⟩;have e1:(8*(((q+1:Nat):Int)-1)).toNat=8*q:=by omega
 have eb:IntKind.u64.bits=64:=rfl;have e2:min (8*q) IntKind.u64.bits=8*q:=by rw[eb];omega
 have e3:((2:Int) ^ (8*q))=((256 ^ q:Nat):Int):=by
   rw[Int.pow_mul];simp
 rw[e1,e2,e3,Int.toNat_natCast,Nat.add_sub_cancel];have e4:((m:Int).fdiv ((256 ^ q:Nat):Int))=((m/256 ^ q:Nat):Int):=by
   rw[Int.fdiv_eq_ediv_of_nonneg _ (Int.natCast_nonneg _)];simp
 rw[e4];generalize m/256 ^ q=z
 apply UInt8.toNat_inj.1
 simp[AA,A5,B5,DC]
 try omega
theorem Oo_{e n:Nat}{v:Value}{en:Option (Nat×Obj)}{bs:Bs}{z:Int}(h:OwnV 1 e v en n (bs.map u8v++[.int .u8 z]))(hn:n=bs.length+1)(hz:0<=z/\z<=255):OwnV 1 e v en (bs++[UInt8.ofNat z.toNat]).length ((bs++[UInt8.ofNat z.toNat]).map u8v):=
 Nf_ h (by simp[hn]) (by simp[u8v_of hz.1 hz.2])
theorem Ec_:∀ (k n:Nat),(numB k n).length=k
 |0,_=>rfl
 |k+1,n=>by simp[numB,Ec_ k n]
def dots:Bs->List Bs
 |[]=>[[]]
 |c::r=>if c=46 then []::dots r else match dots r with
   |[]=>[[c]]
   |w::t=>(c::w)::t
def A8_(s:Bs):List Bs:=if s=[] then [] else dots s
theorem Fa_:∀ s:Bs,Lib.splitK [46] 0 (Lib.count s [46]) s=dots s
 |[]=>by rw[D3 (by simp[AW])];rfl
 |b::l=>by
   have ih:=Fa_ l
   by_cases hb:b=46
   . subst hb
     rw[FP,H3]
     have hix:AW (46::l) [46]=0:=by rw[AW];simp[CO]
     unfold EA dots
     rw[hix]
     simp[ih]
   . rw[FQ _ _ _ hb]
     have hp:([46]:List UInt8).isPrefixOf (b::l)=false:=by simp[CO,Ne.symm hb]
     have hix:AW (b::l) [46] = if AW l [46] == -1 then -1 else AW l [46]+1:=by rw[AW,hp];simp
     unfold dots
     rw[if_neg hb,<- ih]
     cases hc:ET l [46] with
     |zero=>rfl
     |succ k=>
       unfold EA
       rw[hix]
       by_cases hm:AW l [46] = -1
       . rw[D3 hm] at hc;cases hc
       . have hge:=H4 l [46]
         obtain⟨j,hj⟩:∃ j:Nat,AW l [46]=j:=⟨(AW l [46]).toNat,by omega⟩
         exact yO
theorem E8_(s:Bs):(Lib.splitB ⟨#[46]⟩ 0 (Lib.countB ⟨s.toArray⟩ ⟨#[46]⟩) ⟨s.toArray⟩).map Value.string=(dots s).map str:=by
 have h:=G8 ⟨#[46]⟩ 0 (CP ⟨s.toArray⟩ ⟨#[46]⟩) ⟨s.toArray⟩;have hc:CP ⟨s.toArray⟩ ⟨#[46]⟩=ET s [46]:=by simp[CP]
 rw[hc] at h ⊢;have e:=Fa_ s;exact yU
theorem F5_(s:Bs):Lib.countB ⟨s.toArray⟩ ⟨#[46]⟩+1=(dots s).length:=by
 have h:=congrArg EB (E8_ s);rw[BI,BI,GG ⟨#[46]⟩ xQ 0 _ _ rfl] at h;exact h
theorem dots_le(s:Bs):(dots s).length<=s.length+1:=by
 rw[<- F5_];have :=Lib.countB_le ⟨#[46]⟩ xQ s.length ⟨s.toArray⟩ (by simp[Au_]);simp[Au_] at this;omega
theorem Dl_:∀ (s w:Bs),w∈dots s->w.length<=s.length
 |[],w,h=>by simp[dots] at h;simp[h]
 |c::r,w,h=>by
   unfold dots at h
   split at h
   . rcases List.mem_cons.1 h with rfl|h
     . simp
     . have :=Dl_ r w h;simp;omega
   . split at h
     . simp at h;subst h;simp
     . rename_i x t e
       have ih:=Dl_ r
       rw[e] at ih
       rcases List.mem_cons.1 h with rfl|h
       . have :=ih x xP;simp;omega
       . have :=ih w (by simp[h]);simp;omega
theorem P9_(s:Bs):(A8_ s).length<=s.length+1:=by
 unfold A8_;split;simp;exact dots_le s
def If_(besides:List Bs)(w:Bs):Bool:=!(besides.contains w)&&(w==[]||!plain w)
def keyE(besides:List Bs)(s:Bs):Int:=if (64:Int)<s.length then 5 else if (A8_ s).any (If_ besides) then 4 else 0
structure Pair where
 key:Bs
 kind:Int
 num:Int
 text:Bs
deriving DecidableEq
def Pair.cells(p:Pair):List Value:=[str p.key, .int .u8 p.kind, .int .i64 p.num,str p.text]
def Pair.wf(p:Pair):Prop:=(0<=p.kind/\p.kind<=255)/\(-9223372036854775808<=p.num/\p.num<=9223372036854775807)/\p.key.length<=9223372036854775807/\p.text.length<=9223372036854775807
def Pair.zero:Pair:=⟨[],0,0,[]⟩
def C6_(h:List Pair)(key:Bs):Option Pair:=h.find? λp=>p.key==key
theorem L2_{h r:List Pair}{p:Pair}{key:Bs}{k:Nat}(e:C6_ h key=C6_ (h.drop k) key)(hd:h.drop k=p::r)(hk:p.key=key):C6_ h key=some p:=by
 rw[e,hd];simp[C6_,hk]
theorem Kg_{h r:List Pair}{p:Pair}{key:Bs}{k:Nat}(e:C6_ h key=C6_ (h.drop k) key)(hd:h.drop k=p::r)(hk:¬p.key=key):C6_ h key=C6_ r key:=by
 rw[e,hd];simp[C6_,hk]
def Cc_(p:Pair)(ahead:List Pair):Int:=
 if C2_ p.key≠0 then C2_ p.key else if 2<p.kind then 8 else if p.kind=1/\(64:Int)<p.text.length then 5 else if p.kind=2/\p.num≠0/\p.num≠1 then 7 else if p.kind=1/\p.num≠0\/p.kind≠1/\p.text≠[] then 4 else if (C6_ ahead p.key).isSome then 9 else 0
def Ft_:List Pair->List Pair->Int
 |_,[]=>0
 |ahead,p::r=>if Cc_ p ahead≠0 then Cc_ p ahead else Ft_ (ahead++[p]) r
def Kh_(h:List Pair):Int:=if (8:Int)<h.length then 6 else Ft_ [] h
theorem nameE_r(s:Bs):0<=C2_ s/\C2_ s<=15:=by
 unfold C2_;repeat' split
 all_goals omega
theorem Nh_(p:Pair)(l:List Pair):0<=Cc_ p l/\Cc_ p l<=15:=by
 have :=nameE_r p.key;unfold Cc_;repeat' split
 all_goals omega
structure Mail where
 id:Int
 B4_:Bs
 key:Bs
 head:List Pair
 body:Bs
 due:Int
 hops:Int
deriving DecidableEq
def Mail.cells(m:Mail)(a:Option Addr)(c:Nat):List Value:=[.int .u64 m.id,str m.B4_,str m.key, .slice a m.head.length c,str m.body, .int .u64 m.due, .int .u8 m.hops]
def Mail.wf(m:Mail):Prop:=(0<=m.id/\m.id<=18446744073709551615)/\(0<=m.due/\m.due<=18446744073709551615)/\(0<=m.hops/\m.hops<=255)/\m.B4_.length<=9223372036854775807/\m.key.length<=9223372036854775807/\m.body.length<=9223372036854775807/\m.head.length<=9223372036854775807
structure Reply where
 channel:Int
 kind:Int
 n:Int
 m:Int
 yes:Bool
 name:Bs
 M_:Mail
deriving DecidableEq
def Reply.cells(r:Reply)(a:Option Addr)(c:Nat):List Value:=[.int .u8 r.channel, .int .u8 r.kind, .int .u64 r.n, .int .u64 r.m, .bool r.yes,str r.name, .int .u64 r.M_.id,str r.M_.B4_,str r.M_.key, .slice a r.M_.head.length c,str r.M_.body, .int .u64 r.M_.due, .int .u8 r.M_.hops]
def Reply.wf(r:Reply):Prop:=(0<=r.channel/\r.channel<=255)/\(0<=r.kind/\r.kind<=255)/\(0<=r.n/\r.n<=18446744073709551615)/\(0<=r.m/\r.m<=18446744073709551615)/\r.name.length<=9223372036854775807/\r.M_.wf
def Dx_(m:Mail):Bool:=decide (m.B4_=[]) && decide (m.key=[]) && decide ((m.head.length:Int)=0) && decide (m.body=[])
def F4_(r:Reply):Bool:=
 if r.M_.id≠0\/r.M_.due≠0\/r.M_.hops≠0 then true
 else if (r.name≠[]/\r.kind≠0)\/(r.kind≠3/\(r.yes=true\/Dx_ r.M_=false)) then true
 else if r.kind=3\/r.kind=6 then false
 else if r.kind=2\/r.kind=5\/r.kind=7 then decide (r.m≠0)
 else decide (r.n≠0\/r.m≠0)
def Ds_(m:Mail):Int:=
 if C2_ m.B4_≠0 then C2_ m.B4_ else if keyE [] m.key≠0 then keyE [] m.key else if Kh_ m.head≠0 then Kh_ m.head else if (256:Int)<m.body.length then 5 else 0
def E4_(r:Reply):Int:=if 7<r.kind then 8 else if F4_ r then 4 else if r.kind=0 then C2_ r.name else if r.kind=3 then Ds_ r.M_ else 0
def GTab(H:Hp)(g:Nat)(zs:List Int):Prop:=∃ T fr,H g=some (.cells (zs.map (BM .u32)).toArray T fr)
theorem GTab.mono{H H':Hp}{g:Nat}{zs:List Int}(h:GTab H g zs)(hl:HLe H H'):GTab H' g zs:=by
 exact zS
def laidT:List Int:=[0x00000000,0x1db71064,0x3b6e20c8,0x26d930ac,0x76dc4190,0x6b6b51f4,0x4db26158,0x5005713c,0xedb88320,0xf00f9344,0xd6d6a3e8,0xcb61b38c,0x9b64c2b0,0x86d3d2d4,0xa00ae278,0xbdbdf21c]
theorem tab_get{m:Nat}(h:m<16):(laidT.map (Value.int .u32)).toArray[m*1]? = some (.int .u32 (laidT.getD m 0)):=by
 have hl:m<laidT.length:=h;simp[AO,hl]
abbrev Oh_(a b:Int):Int:=AA .u32 ((A4 (A5 .u32) a ^^^ A4 (A5 .u32) b).toNat)
abbrev K9_(a b:Int):Int:=AA .u32 ((A4 (A5 .u32) a &&& A4 (A5 .u32) b).toNat)
theorem I6_(a:Int):(K9_ a 15).toNat<16:=by
 have h1:(A4 (A5 .u32) a &&& A4 (A5 .u32) 15).toNat<=15:=by
   rw[BitVec.toNat_and];exact C7 Nat.and_le_right xQ
 unfold K9_;generalize (A4 (A5 .u32) a &&& A4 (A5 .u32) 15).toNat=z at *;exact yV
def crc1(r:Int):Int:=Oh_ (FB r (2 ^ (min (4:Int).toNat (A5 .u32)))) (laidT.getD (K9_ r 15).toNat 0)
def Op_:Nat->Int->Int
 |0,r=>r
 |k+1,r=>Op_ k (crc1 r)
def Gd_(r b:Int):Int:=Op_ 2 (Oh_ r b)
structure Frame where
 channel:Int
 kind:Int
 body:Bs
deriving DecidableEq
def Frame.cells(f:Frame):List Value:=[.int .u8 f.channel, .int .u8 f.kind,str f.body]
def Frame.wf(f:Frame):Prop:=(0<=f.channel/\f.channel<=255)/\(0<=f.kind/\f.kind<=255)/\f.body.length<=9223372036854775807
def Frame.zero:Frame:=⟨0,0,[]⟩
theorem N2_{r:Reply}(h:F4_ r=false):(r.M_.id=0/\r.M_.due=0/\r.M_.hops=0)/\(r.kind≠0->r.name=[])/\(r.kind≠3->r.yes=false/\r.M_.B4_=[]/\r.M_.key=[]/\r.M_.head=[]/\r.M_.body=[])
   /\ (¬(r.kind=3\/r.kind=6)->r.m=0)/\(¬(r.kind=3\/r.kind=6)->¬(r.kind=2\/r.kind=5\/r.kind=7)->r.n=0):=by
 unfold F4_ at h
 split at h
 . cases h
 . rename_i h1
   split at h
   . cases h
   . rename_i h2
     have a1:r.M_.id=0/\r.M_.due=0/\r.M_.hops=0:=by omega
     have a2:r.kind≠0->r.name=[]:=λq=>BO λq2=>h2 (.inl ⟨q2,q⟩)
     have a3:r.kind≠3->r.yes=false/\r.M_.B4_=[]/\r.M_.key=[]/\r.M_.head=[]/\r.M_.body=[]:=λq=>by
       have b1:¬r.yes=true:=λq2=>h2 (.inr ⟨q, .inl q2⟩)
       have b2:¬Dx_ r.M_=false:=λq2=>h2 (.inr ⟨q, .inr q2⟩)
       have b3:Dx_ r.M_=true:=by simpa using b2
       simp[Dx_] at b3
       obtain⟨⟨⟨c1,c2⟩,c3⟩,c4⟩:=b3
       exact⟨by simpa using b1,c1,c2,by first|exact c3|exact C8 xN,c4⟩
     refine⟨a1,a2,a3,?_,?_⟩
     . intro q
       rw[if_neg q] at h
       split at h
       simpa using h
       simp at h;exact h.2
     intro q q2
     rw[if_neg q,if_neg q2] at h
     simp at h;exact h.1
variable{P:Program}{n:Nat}{N:Rest}{H0:Env}{s:St}{T ty:TypeId}{y:Operand}
end Go.SW
namespace Go.SW
variable{P:Program}{n:Nat}{N:Rest}{H0:Env}{all rest:List Oper}{Q:Qs}{ks:List Kt}{s:St}{T T' T2 ty d:Nat}{pos:String}{af:Array Edge}{x y z:Operand}{K:St->Prop}{op:Op}{p:PV}
end Go.SW
namespace Go.SW
variable{P:Program}{n:Nat}{N:Rest}{H0:Env}{s:St}
end Go.SW
namespace Go.SW
variable{P:Program}{n:Nat}{N:Rest}{H0:Env}{s:St}{ty:TypeId}
end Go.SW
namespace Go.SW
variable{P:Program}{n:Nat}{N:Rest}{H0:Env}{all:List Oper}{s:St}{K:St->Prop}
end Go.SW
namespace Go.SW
variable{P:Program}{n:Nat}{N:Rest}{H0:Env}{all rest:List Oper}{Q:Qs}{ks:List Kt}{s:St}
end Go.SW
namespace Go.SW
section
variable{α:Type}{P:Program}{n:Nat}{N:Rest}{F:Fr}{H:Hp}{L:Ls}{ops:List Oper}{T T' T2 ty d:TypeId}{x y z:Operand}{pos:String}{af:Array Edge}{K:Fr->Hp->Ls->Prop}
end
variable{P:Program}{n:Nat}{N:Rest}{H0:Env}{all rest:List Oper}{Q:Qs}{ks:List Kt}{s:St}{T T' T2 ty d:Nat}{pos:String}{af:Array Edge}{x y z:Operand}{K:St->Prop}{op:Op}{p:PV}
end Go.SW
namespace Go.SW
variable{P:Program}{n:Nat}{N:Rest}{H0:Env}{all rest:List Oper}{Q:Qs}{ks:List Kt}{s:St}{T T' T2 ty d:Nat}{pos:String}{af:Array Edge}{x y z:Operand}{K:St->Prop}{op:Op}{p:PV}
def Pl(P:Program)(f:FuncId)(args:Array Value)(H:Hp)(en:Option (Nat×Obj))(R:Value->Hp->Option (Nat×Obj)->Prop):Prop:=
 ∀ N L w i,L i=en->Mem N H L w->Calls P f args w λe w'=>∃ v H' en',e = .returned v/\R v H' en'/\HLe H H'/\Mem N H' (lupd L i en') w'
end Go.SW
namespace Go.SW.V
open Go.SW
variable{P:Program}{n:Nat}{N:Rest}{H0:Env}{all rest:List Oper}{Q:Qs}{ks:List Kt}{fF:Nat->PV}{fL:Nat->Blk}{T T' T2 ty d:Nat}{pos:String}{af:Array Edge}{x y z:Operand}{K:St->Prop}{op:Op}{p:PV}
theorem call{all rest:List Oper}{Q:Qs}{ks:List Kt}{f:FuncId}{args:List PV}{res:PV}{x:Operand}{xs:Array Operand}{ats:Array TypeId}{ty d:Nat}{pos:String}{af:Array Edge}(h:Fn P H0.g f args res)(ha:argsP fF x xs.toList=some (f,args))(hd:Nat.blt d n=true)(k:res.wf->Hd P n N H0 Q (.ops all rest) ks ⟨updp fF d res,fL⟩):Hd P n N H0 Q (.ops all (⟨some d, .call ⟨.value x,xs,ats⟩,ty,pos,af,none⟩::rest)) ks ⟨fF,fL⟩:=SW.call (s:=⟨fF,fL⟩) h ha hd k
theorem callg{all rest:List Oper}{Q:Qs}{ks:List Kt}{f:FuncId}{args:List PV}{res:PV}{x:Operand}{xs:Array Operand}{ats:Array TypeId}{ty d j:Nat}{want g:Bool}{pos:String}{af:Array Edge}(hg:gOp ⟨fF,fL⟩ all j want=some g)(h:g=true->Fn P H0.g f args res)(ha:argsP (strG (Fl_ xs.toList) fF) x xs.toList=some (f,args))(hc:AllP (Fi_ fF g (Fl_ xs.toList) []))(hno:Db_ fF (Fl_ xs.toList)=true)(hd:Nat.blt d n=true)(k:(g=true->res.wf)->Hd P n N H0 Q (.ops all rest) ks ⟨updp fF d (.gv g res),fL⟩):Hd P n N H0 Q (.ops all (⟨some d, .call ⟨.value x,xs,ats⟩,ty,pos,af,some (j,want)⟩::rest)) ks ⟨fF,fL⟩:=SW.callg (s:=⟨fF,fL⟩) hg h ha hc hno hd k
theorem cnd{Q:Qs}{ks:List Kt}{c:Operand}{x y:Code}{b:Bool}(hc:evP fF c = .bool b)(ht:b=true->Hd P n N H0 Q (.code x) ks ⟨fF,fL⟩)(hf:b=false->Hd P n N H0 Q (.code y) ks ⟨fF,fL⟩):Hd P n N H0 Q (.code (.cond c x y)) ks ⟨fF,fL⟩:=SW.cnd (s:=⟨fF,fL⟩) hc ht hf
theorem cn{Q:Qs}{ks:List Kt}{c:Operand}{x y:Code}{p:Prop}[Decidable p](hc:evP fF c=.bool (decide p))(ht:p->Hd P n N H0 Q (.code x) ks ⟨fF,fL⟩)(hf:¬p->Hd P n N H0 Q (.code y) ks ⟨fF,fL⟩):Hd P n N H0 Q (.code (.cond c x y)) ks ⟨fF,fL⟩:=cnd hc (λh=>ht (of_decide_eq_true h)) λh=>hf (of_decide_eq_false h)
theorem loop{ι:Type _}{c:Code}{ks:List Kt}{Q:Qs}(keep kL:List Nat)(lv:ι->List (Nat×PV))(lL:ι->List (Nat×Blk))(Φ:ι->Prop)(μ:ι->Nat)(x0:ι)(h1:AllF fF (lv x0))(h2:AllL fL (lL x0))(hΦ:Φ x0)(body:∀ x,Φ x->Hd P n N H0 Q (.code c) (.lp (LJ (λx=>⟨mkF (lv x) keep fF,mkL (lL x) kL fL⟩) Φ μ (μ x))::ks) ⟨mkF (lv x) keep fF,mkL (lL x) kL fL⟩):Hd P n N H0 Q (.code (.loop c)) ks ⟨fF,fL⟩:=SW.loop (s:=⟨fF,fL⟩) keep kL lv lL Φ μ x0 h1 h2 hΦ body
theorem ef{o:Oper}{j:Option Nat}(h:E1 P n N H0 all o j ⟨fF,fL⟩ (λs'=>Hd P n N H0 Q (.ops all rest) ks s')):Hd P n N H0 Q (.ops all (o::rest)) ks ⟨fF,fL⟩:=SW.ef (s:=⟨fF,fL⟩) h
theorem boxA(i:Nat){cs:List PV}(hx:evP fF x = .agg cs)(hn:Ao_ cs=true)(hd:Nat.blt d n=true)(k:∀ b,K ⟨updp fF d (.own i b 0),lups fL i (.box b T cs)⟩):E1 P n N H0 all ⟨some d, .box T x,ty,pos,af,none⟩ (some i) ⟨fF,fL⟩ K:=SW.boxA (s:=⟨fF,fL⟩) i hx hn hd k
theorem box1(i:Nat){p:PV}(hx:evS (evP fF x)=some p)(ho:p.one=true)(hd:Nat.blt d n=true)(k:∀ b,K ⟨updp fF d (.own i b 0),lups fL i (.box b T [p])⟩):E1 P n N H0 all ⟨some d, .box T x,ty,pos,af,none⟩ (some i) ⟨fF,fL⟩ K:=SW.box1 (s:=⟨fF,fL⟩) i hx ho hd k
theorem alloc{tb:Tb}{ti:TI}{zs:List PV}(ht:tbB P tb=true)(i:Nat)(hti:lkT tb T=some ti)(hz:evL ti.zero=some zs)(hn:Ao_ zs=true)(hd:Nat.blt d n=true)(k:∀ b,K ⟨updp fF d (.own i b 0),lups fL i (.box b T zs)⟩):E1 P n N H0 all ⟨some d, .alloc T,ty,pos,af,none⟩ (some i) ⟨fF,fL⟩ K:=SW.alloc (s:=⟨fF,fL⟩) ht i hti hz hn hd k
theorem store1{tb:Tb}{ti:TI}{i b b' off T0:Nat}{cs cs':List PV}{p:PV}(ht:tbB P tb=true)(hx:evP fF x = .own i b off)(hb:fL i = .box b' T0 cs)(hti:lkT tb T=some ti)(hsz:ti.size=1)(hy:evS (evP fF y)=some p)(ho:p.one=true)(hl:Nat.blt off cs.length=true)(hbb:b'=b)(hc:evL (cs.set off p)=some cs')(k:K ⟨fF,lups fL i (.box b T0 cs')⟩):E1 P n N H0 all ⟨none, .store T x y,ty,pos,af,none⟩ (some i) ⟨fF,fL⟩ K:=SW.store1 (s:=⟨fF,fL⟩) ht hx hb hti hsz hy ho hl hbb hc k
theorem storeA{tb:Tb}{ti:TI}{i b b' off T0:Nat}{cs ps cs':List PV}(ht:tbB P tb=true)(hx:evP fF x = .own i b off)(hb:fL i = .box b' T0 cs)(hti:lkT tb T=some ti)(hy:evP fF y = .agg ps)(hn:Ao_ ps=true)(ho:all1 ps=true)(hsz:ps.length=ti.size)(hl:Nat.ble (off+ti.size) cs.length=true)(hbb:b'=b)(hc:evL (cs.take off++(ps++cs.drop (off+ti.size)))=some cs')(k:K ⟨fF,lups fL i (.box b T0 cs')⟩):E1 P n N H0 all ⟨none, .store T x y,ty,pos,af,none⟩ (some i) ⟨fF,fL⟩ K:=SW.storeA (s:=⟨fF,fL⟩) ht hx hb hti hy hn ho hsz hl hbb hc k
theorem src_l{α:Type}{enc:α->List PV}{k:Nat}{ys:List α}(hy:evP fF y = .sl enc ys)(hk:∀ a,(enc a).length=k):SrcP P N H0 ⟨fF,fL⟩ enc k y ys:=SW.src_l (s:=⟨fF,fL⟩) hy hk
theorem src_o{α:Type}{enc:α->List PV}{i e k:Nat}{u:Value}{ys:List α}(hy:evP fF y = .osl i)(hb:fL i = .arr u k e enc ys):SrcP P N H0 ⟨fF,fL⟩ enc k y ys:=SW.src_o (s:=⟨fF,fL⟩) hy hb
theorem app{α:Type}{tb:Tb}{i e k:Nat}{u:Value}{enc:α->List PV}{xs:List α}{te:TI}(ht:tbB P tb=true)(ys:List α)(hx:evP fF x = .osl i)(hb:fL i = .arr u k e enc xs){ti:TI}(hti:lkT tb T=some ti)(htk:ti.k = .slc e)(hT2:Jw_ tb T2=true)(hte:lkT tb e=some te)(hz:te.zero.length=te.size)(hby:Nat.blt 0 te.bytes=true)(hk:te.size=k)(hy:SrcP P N H0 ⟨fF,fL⟩ enc k y ys)(hs:(xs.length+ys.length)*te.bytes<=140737488355328)(hd:Nat.blt d n=true)(kk:∀ u',K ⟨updp (E2_ i fF) d (.osl i),lups (Cd_ i fL) i (.arr u' k e enc (xs++ys))⟩):E1 P n N H0 all ⟨some d, .call ⟨.builtin .append,#[x,y],#[T,T2]⟩,ty,pos,af,none⟩ (some i) ⟨fF,fL⟩ K:=SW.app (s:=⟨fF,fL⟩) ht ys hx hb hti htk hT2 hte hz hby hk hy hs hd kk
theorem bsl{α:Type}{tb:Tb}(i:Nat){e len:Nat}{ps:Array (Nat×Operand)}(enc:α->List PV)(xs:List α){rows:List (List PV)}{ti te:TI}(ht:tbB P tb=true)(hti:lkT tb T=some ti)(htk:ti.k = .slc e)(hte:lkT tb e=some te)(hr:bslP fF ps.toList 0=some rows)(hx:rows=xs.map enc)(hk:∀ a,(enc a).length=te.size)(hl:xs.length=len)(hs:len*te.size<=16777216)(hs2:len<=140737488355328)(hd:Nat.blt d n=true)(kk:∀ u',K ⟨updp (E2_ i fF) d (.osl i),lups (Cd_ i fL) i (.arr u' te.size e enc xs)⟩):E1 P n N H0 all ⟨some d, .buildSlice T len ps,ty,pos,af,none⟩ (some i) ⟨fF,fL⟩ K:=SW.bsl (s:=⟨fF,fL⟩) i enc xs ht hti htk hte hr hx hk hl hs hs2 hd kk
theorem give{α:Type}{e k:Nat}{u:Value}{enc:α->List PV}{xs:List α}(i:Nat)(hb:fL i = .arr u k e enc xs)(kk:Hd P n N H0 Q (.ops all rest) ks ⟨Ic_ i enc xs fF,Hf_ i enc xs fL⟩):Hd P n N H0 Q (.ops all rest) ks ⟨fF,fL⟩:=SW.give (s:=⟨fF,fL⟩) i hb kk
theorem givec{α:Type}{e k:Nat}{u:Value}{enc:α->List PV}{xs:List α}{c:Code}(i:Nat)(hb:fL i = .arr u k e enc xs)(kk:Hd P n N H0 Q (.code c) ks ⟨Ic_ i enc xs fF,Hf_ i enc xs fL⟩):Hd P n N H0 Q (.code c) ks ⟨fF,fL⟩:=SW.givec (s:=⟨fF,fL⟩) i hb kk
theorem calll{α:Type}{e k:Nat}{u:Value}{enc:α->List PV}{ls:List α}{f:FuncId}{args:List PV}{res:PV}{xs:Array Operand}{ats:Array TypeId}(i:Nat)(hb:fL i = .arr u k e enc ls)(h:Fn P H0.g f args res)(hf:res.flat=true)(ha:argsP (Ic_ i enc ls fF) x xs.toList=some (f,args))(hd:Nat.blt d n=true)(kk:res.wf->K ⟨updp fF d res,fL⟩):E1 P n N H0 all ⟨some d, .call ⟨.value x,xs,ats⟩,ty,pos,af,none⟩ none ⟨fF,fL⟩ K:=SW.calll (s:=⟨fF,fL⟩) i hb h hf ha hd kk
theorem any(xs:List Nat)(m:Nat){id:Nat}{ops:Array Oper}(hmx:P.follows .mixedOrders=true)(hm:ops.toList.length=m)(h:Hv P n N H0 Q (some xs) ops.toList m (Array.replicate m false) ks ⟨fF,fL⟩):Hd P n N H0 Q (.code (.region id ops true)) ks ⟨fF,fL⟩:=SW.any (s:=⟨fF,fL⟩) xs m hmx hm h
theorem vdone{xs:Option (List Nat)}{fuel:Nat}{listed:Array Bool}(h:Region.ready .any all.toArray listed=[])(k:Hd P n N H0 Q (.ex .normal) ks ⟨fF,fL⟩):Hv P n N H0 Q xs all fuel listed ks ⟨fF,fL⟩:=SW.vdone (s:=⟨fF,fL⟩) h k
theorem vcall{xs:Option (List Nat)}{fuel:Nat}{listed:Array Bool}{f:FuncId}{args:List PV}{res:PV}{as0:Array Operand}{ats:Array TypeId}(i:Nat)(hi:nth all i=some ⟨some d, .call ⟨.value x,as0,ats⟩,ty,pos,af,none⟩)(hck:(rdB all listed i&&apB n all listed i ⟨some d, .call ⟨.value x,as0,ats⟩,ty,pos,af,none⟩&&Nat.blt d n&&nosB (.call ⟨.value x,as0,ats⟩))=true)(h:Fn P H0.g f args res)(hf:res.flat=true)(ha:argsP fF x as0.toList=some (f,args))(k:res.wf->Hv P n N H0 Q xs all fuel (listed.setIfInBounds i true) ks ⟨updp fF d res,fL⟩):Hv P n N H0 Q xs all (fuel+1) listed ks ⟨fF,fL⟩:=SW.vcall (s:=⟨fF,fL⟩) i hi hck h hf ha k
theorem ve{xs:List Nat}{fuel:Nat}{listed:Array Bool}{o:Oper}{j:Option Nat}(i:Nat)(hi:nth all i=some o)(hr:Region.ready .any all.toArray listed=[i])(hj:(match j with|none=>true|some j=>memB xs j)=true)(h:E1 P n N H0 all o j ⟨fF,fL⟩ (λs'=>Hv P n N H0 Q (some xs) all fuel (listed.setIfInBounds i true) ks s')):Hv P n N H0 Q (some xs) all (fuel+1) listed ks ⟨fF,fL⟩:=SW.ve (s:=⟨fF,fL⟩) i hi hr hj h
theorem ecall{f:FuncId}{args:List PV}{res:PV}{as0:Array Operand}{ats:Array TypeId}(h:Fn P H0.g f args res)(ha:argsP fF x as0.toList=some (f,args))(hd:Nat.blt d n=true)(k:res.wf->K ⟨updp fF d res,fL⟩):E1 P n N H0 all ⟨some d, .call ⟨.value x,as0,ats⟩,ty,pos,af,none⟩ none ⟨fF,fL⟩ K:=SW.ecall (s:=⟨fF,fL⟩) h ha hd k
theorem q1(h:Qy P N H0 ⟨fF,fL⟩ op ty p)(hd:Nat.blt d n=true)(k:p.wf->Hd P n N H0 Q (.ops all rest) ks ⟨updp fF d p,fL⟩):Hd P n N H0 Q (.ops all (⟨some d,op,ty,pos,af,none⟩::rest)) ks ⟨fF,fL⟩:=SW.q1 (s:=⟨fF,fL⟩) h hd k
theorem eqy(h:Qy P N H0 ⟨fF,fL⟩ op ty p)(hd:Nat.blt d n=true)(k:p.wf->K ⟨updp fF d p,fL⟩):E1 P n N H0 all ⟨some d,op,ty,pos,af,none⟩ none ⟨fF,fL⟩ K:=SW.eqy (s:=⟨fF,fL⟩) h hd k
theorem vq{xs:Option (List Nat)}{fuel:Nat}{listed:Array Bool}(i:Nat)(h:Qy P N H0 ⟨fF,fL⟩ op ty p)(hi:nth all i=some ⟨some d,op,ty,pos,af,none⟩)(hck:(rdB all listed i&&apB n all listed i ⟨some d,op,ty,pos,af,none⟩&&Nat.blt d n&&nosB op)=true)(hl:B7_ op=false)(k:p.wf->Hv P n N H0 Q xs all fuel (listed.setIfInBounds i true) ks ⟨updp fF d p,fL⟩):Hv P n N H0 Q xs all (fuel+1) listed ks ⟨fF,fL⟩:=SW.vq (s:=⟨fF,fL⟩) i h hi hck hl k
theorem q1g{j:Nat}{want g:Bool}(ts:List Nat)(hg:gOp ⟨fF,fL⟩ all j want=some g)(h:g=true->Qy P N H0 (strS ts ⟨fF,fL⟩) op ty p)(hc:AllP (Fi_ fF g ts []))(hno:Db_ fF ts=true)(hpo:p.noOsl=true)(hd:Nat.blt d n=true)(k:(g=true->p.wf)->Hd P n N H0 Q (.ops all rest) ks ⟨updp fF d (.gv g p),fL⟩):Hd P n N H0 Q (.ops all (⟨some d,op,ty,pos,af,some (j,want)⟩::rest)) ks ⟨fF,fL⟩:=SW.q1g (s:=⟨fF,fL⟩) ts hg h hc hno hpo hd k
theorem sidx{tb:Tb}{ti:TI}{a:Bs}{k:IntKind}{i:Int}(ht:tbB P tb=true)(m:Nat)(hx:evP fF x = .str a)(hy:evP fF y = .int k i)(hti:lkT tb T=some ti)(htk:ti.k = .str)(hi:i=m)(hm:m<a.length):Qy P N H0 ⟨fF,fL⟩ (.index T x y) ty (.int .u8 (a.getD m 0).toNat):=SW.sidx (s:=⟨fF,fL⟩) ht m hx hy hti htk hi hm
theorem sslo{tb:Tb}{ti:TI}{a:Bs}{k:IntKind}{i:Int}(ht:tbB P tb=true)(m:Nat)(hx:evP fF x = .str a)(hy:evP fF y = .int k i)(hti:lkT tb T=some ti)(htk:ti.k = .str)(hi:i=m)(hm:m<=a.length):Qy P N H0 ⟨fF,fL⟩ (.slice T x (some y) none none) ty (.str (a.drop m)):=SW.sslo (s:=⟨fF,fL⟩) ht m hx hy hti htk hi hm
theorem ssl{tb:Tb}{ti:TI}{a:Bs}{k k':IntKind}{i j:Int}(ht:tbB P tb=true)(m q:Nat)(hx:evP fF x = .str a)(hy:evP fF y = .int k i)(hz:evP fF z = .int k' j)(hti:lkT tb T=some ti)(htk:ti.k = .str)(hi:i=m)(hj:j=q)(hm:m<=q)(hq:q<=a.length):Qy P N H0 ⟨fF,fL⟩ (.slice T x (some y) (some z) none) ty (.str ((a.drop m).take (q-m))):=SW.ssl (s:=⟨fF,fL⟩) ht m q hx hy hz hti htk hi hj hm hq
theorem qidx{α:Type}{tb:Tb}{ti te:TI}{e:TypeId}{enc:α->List PV}{xs:List α}{kk:IntKind}{i:Int}(ht:tbB P tb=true)(m:Nat){a:α}(hx:evP fF x = .sl enc xs)(hy:evP fF y = .int kk i)(hm:i=m)(ha:xs[m]? = some a)(hti:lkT tb T=some ti)(hk:ti.k = .slc e)(hte:lkT tb e=some te)(hsz:te.size=(enc a).length):Qy P N H0 ⟨fF,fL⟩ (.indexAddr T x y) ty (.el (enc a) 0):=SW.qidx (s:=⟨fF,fL⟩) ht m hx hy hm ha hti hk hte hsz
theorem lshi{α:Type}{tb:Tb}{ti te:TI}{e:TypeId}{enc:α->List PV}{xs:List α}{k:IntKind}{i:Int}(ht:tbB P tb=true)(m:Nat)(hx:evP fF x = .sl enc xs)(hy:evP fF y = .int k i)(hti:lkT tb T=some ti)(htk:ti.k = .slc e)(hte:lkT tb e=some te)(hw:∀ a,(enc a).length=te.size)(hi:i=m)(hm:m<=xs.length):Qy P N H0 ⟨fF,fL⟩ (.slice T x none (some y) none) ty (.sl enc (xs.take m)):=SW.lshi (s:=⟨fF,fL⟩) ht m hx hy hti htk hte hw hi hm
theorem sw_own{α:Type}{t k e:Nat}{c:Code}(i:Nat)(enc:α->List PV)(hF:fF t = .val (.slice none 0 0))(hno:fL i = .no)(kk:Hd P n N H0 Q (.code c) ks ⟨updp (E2_ i fF) t (.osl i),lups (Cd_ i fL) i (.arr (.slice none 0 0) k e enc [])⟩):Hd P n N H0 Q (.code c) ks ⟨fF,fL⟩:=SW.sw_own (s:=⟨fF,fL⟩) i enc hF hno kk
theorem qconv{tb:Tb}{ti td:TI}{k k':IntKind}{a:Int}(ht:tbB P tb=true)(hx:evP fF x = .int k a)(hti:lkT tb T=some ti)(htd:lkT tb T'=some td)(hk:td.k = .int k')(h:k'.min<=a/\a<=k'.max):Qy P N H0 ⟨fF,fL⟩ (.convert T T' x) ty (.int k' a):=SW.qconv (s:=⟨fF,fL⟩) ht hx hti htd hk h
theorem cndF{c:Operand}{x y:Code}{b:Bool}(hc:evP fF c = .bool b)(hb:b=false)(k:Hd P n N H0 Q (.code y) ks ⟨fF,fL⟩):Hd P n N H0 Q (.code (.cond c x y)) ks ⟨fF,fL⟩:=SW.cndF (s:=⟨fF,fL⟩) hc hb k
theorem rt1{tb:Tb}{rs:List ResultVar}{res p:PV}{as0 bs:List Nat}(h:Gu_ tb ⟨fF,fL⟩ rs=some ([p],as0,bs))(he:as0=bs)(hp:PLe p res):Hd P n N H0 (rtK tb rs res) (.ex .ret) [] ⟨fF,fL⟩:=SW.rt1 (s:=⟨fF,fL⟩) h he hp
theorem next{ι:Type _}{keep kL:List Nat}{G:Nat->PV}{GL:Nat->Blk}{lv:ι->List (Nat×PV)}{lL:ι->List (Nat×Blk)}{Φ:ι->Prop}{μ:ι->Nat}{m:Nat}{ks:List Kt}{Q:Qs}(x':ι)(h1:keep.map fF=keep.map G)(h2:kL.map fL=kL.map GL)(h3:AllF fF (lv x'))(h4:AllL fL (lL x'))(hm:μ x'<m)(hΦ:Φ x'):Hd P n N H0 Q (.ex .normal) (.lp (LJ (λx=>⟨mkF (lv x) keep G,mkL (lL x) kL GL⟩) Φ μ m)::ks) ⟨fF,fL⟩:=SW.next (s:=⟨fF,fL⟩) x' h1 h2 h3 h4 hm hΦ
theorem go{tb:Tb}(ht:tbB P tb=true)(k:Nat){c c':Cf}{ks':List Kt}{F':Nat->PV}{L':Nat->Blk}{ps:List Prop}{as0 bs:List Nat}(h:run tb n k c ks fF fL [] [] []=some ⟨c',ks',F',L',ps,as0,bs⟩)(he:as0=bs)(hp:AllP ps)(next :Hd P n N H0 Q c' ks' ⟨F',L'⟩):Hd P n N H0 Q c ks ⟨fF,fL⟩:=SW.go ht k h he hp next
theorem gov{tb:Tb}(ht:tbB P tb=true)(order:List Nat)(f:Nat){xs:Option (List Nat)}{fuel:Nat}{listed:Array Bool}{F':Nat->PV}{L':Nat->Blk}{ps:List Prop}{as0 bs:List Nat}(hf:fuel=f+order.length)(hc:chkV n all order listed=true)(h:runV tb xs all order fF fL [] [] []=some ⟨F',L',ps,as0,bs⟩)(he:as0=bs)(hp:AllP ps)(next :Hv P n N H0 Q xs all f (lst listed order) ks ⟨F',L'⟩):Hv P n N H0 Q xs all fuel listed ks ⟨fF,fL⟩:=SW.gov ht order f hf hc h he hp next
end Go.SW.V
namespace Go.SW
structure Feed where
 rest:Bs
 err:Int
def Feed.cells(f:Feed):List Value:=[str f.rest, .int .i64 f.err]
def mt:List Bs->List Bs->Bool
 |[],k=>k.isEmpty
 |w::p,k=>if w=[35] then (List.range (k.length+1)).any (λf=>mt p (k.drop f)) else match k with
   |[]=>false
   |x::r=>(decide (w=[42]) || decide (w=x))&&mt p r
theorem mt_cons{w:Bs}{p k:List Bs}(hw:w≠[35]):mt (w::p) k=true↔∃ x r,k=x::r/\(w=[42]\/w=x)/\mt p r=true:=by
 simp only[mt,if_neg hw]
 cases k with
 |nil=>simp
 |cons x r=>
   constructor
   . intro h;simp at h;exact⟨x,r,rfl,h.1,h.2⟩
   . rintro⟨x',r',e,h1,h2⟩;cases e;simp[h1,h2]
structure MI(p k:List Bs)(i j:Nat)(b:Int)(f:Nat):Prop where
 hi:i<=p.length
 hj:j<=k.length
 hf:f<=j
 hb:-1<=b
 hbi:b<=i
 no:b<0->(mt p k=true↔mt (p.drop i) (k.drop j)=true)
 seg:0<=b->j=f+(i-b.toNat)
 go:0<=b->(mt p k=true↔∃ g,f<=g/\mt (p.drop b.toNat) (k.drop g)=true)
 fw:0<=b->∀ g,mt (p.drop b.toNat) (k.drop g)=true->mt (p.drop i) (k.drop (g+(i-b.toNat)))=true
 bw:0<=b->mt (p.drop i) (k.drop j)=true->mt (p.drop b.toNat) (k.drop f)=true
theorem MI.start(p k:List Bs):MI p k 0 0 (-1) 0:=
 ⟨Nat.zero_le _,CR _,CR _,by omega,by omega,λ_=>by simp,λh=>absurd h xQ,λh=>absurd h xQ,λh=>absurd h xQ,λh=>absurd h xQ⟩
theorem MI.bad{p k:List Bs}{i j f:Nat}{b:Int}{x:Bs}(_:MI p k i j b f)(hk:k[j]? = some x)(hm:∀ w,p[i]? = some w->w≠[35]/\w≠[42]/\w≠x):mt (p.drop i) (k.drop j)=false:=by
 rw[Fj_ hk]
 cases hp:p[i]? with
 |none=>
   have :p.length<=i:=List.getElem?_eq_none_iff.1 hp
   rw[BY this];rfl
 |some w=>
   obtain⟨h1,h2,h3⟩:=hm w hp
   rw[Fj_ hp]
   cases q:mt (w::p.drop (i+1)) (x::k.drop (j+1)) with
   |false=>rfl
   |true=>
     obtain⟨x',r,e,hh,_⟩:=(mt_cons h1).1 q
     cases e
     rcases hh with hh|hh
     . exact absurd hh h2
     . exact absurd hh h3
theorem MI.none{p k:List Bs}{i j f:Nat}{b:Int}{x:Bs}(h:MI p k i j b f)(hk:k[j]? = some x)(hb:b<0)(hm:∀ w,p[i]? = some w->w≠[35]/\w≠[42]/\w≠x):mt p k=false:=by
 have hbad:=h.bad hk hm
 cases q:mt p k with
 |false=>rfl
 |true=>rw[(h.no hb).1 q] at hbad;cases hbad
def Mail.zero:Mail:=⟨0,[],[],[],[],0,0⟩
def Reply.zero:Reply:=⟨0,0,0,0,false,[],Mail.zero⟩
structure RIn where
 s:Bs
 pos:Int
 code:Int
def RIn.cells(i:RIn):List Value:=[str i.s, .int .i64 i.pos, .int .i64 i.code]
section
variable{α:Type}[DecidableEq α]{a b ra rb:List α}{x y:α}{k:Nat}
end
section
variable{α:Type}{p:α->Bool}{a r:List α}{x:α}{k:Nat}
theorem Ol_(h:a.all p=(a.drop k).all p)(ha:a.drop k=x::r)(e:p x=true):a.all p=r.all p:=by rw[h,ha];simp[e]
theorem Ok_(h:a.all p=(a.drop k).all p)(ha:a.drop k=x::r)(e:p x=false):a.all p=false:=by rw[h,ha];simp[e]
theorem all_end(h:a.all p=(a.drop k).all p)(ha:a.length<=k):a.all p=true:=by rw[h,BY ha];rfl
end
def Hi_(p:Pair):Bool:=decide (p.key.length<=40) && decide (p.text.length<=100)
def Eu_(h:List Pair):Bool:=decide (h.length<=12)&&h.all Hi_
def Fu_(r:Reply):Bool:=decide (max (r.name.length:Int) (r.M_.B4_.length:Int)<=40) && decide ((r.M_.key.length:Int)<=100)&&Eu_ r.M_.head && decide ((r.M_.body.length:Int)<=300)
theorem Kj_(h:List Pair)(e:Eu_ h=true):h.length<=12:=by
 simp[Eu_] at e;exact e.1
theorem Bp_(r:Reply)(e:Fu_ r=true):r.name.length<=40/\r.M_.B4_.length<=40/\r.M_.key.length<=100/\r.M_.head.length<=12/\r.M_.body.length<=300:=by
 simp only[Fu_,A2,decide_eq_true_eq] at e;obtain⟨⟨⟨h1,h3⟩,h4⟩,h5⟩:=e;have :=Kj_ _ h4;omega
theorem Hb_:∀ {t:Bs},(∀ c∈t,¬c=46)->dots t=[t]
 |[],_=>rfl
 |c::r,h=>by
   have ih:=Hb_ (t:=r) (λx hx=>h x xX)
   unfold dots
   rw[if_neg (h c xP),ih]
theorem Lp_:∀ {m:Nat} {t:Bs},(∀ c∈t.take m,¬c=46)->t[m]? = some 46->dots t=t.take m::dots (t.drop (m+1))
 |0,[],_,h=>by simp at h
 |0,c::r,_,h=>by
   have :c=46:=by simpa using h
   subst this
   rfl
 |m+1,[],_,h=>by simp at h
 |m+1,c::r,hn,h=>by
   have ih:=Lp_ (m:=m) (t:=r) (λx hx=>hn x xX) xY
   rw[dots,if_neg (hn c xP),ih]
   rfl
def Ij_(s:Bs)(f k:Nat):Prop:=∀ j,f<=j->j<k->¬s.getD j 0=46
theorem Hp_{s:Bs}{f k:Nat}(h:Ij_ s f k):∀ c∈(s.drop f).take (k-f),¬c=46:=λc hc=>by
 obtain⟨j,hj,rfl⟩:=List.getElem_of_mem hc
 rw[List.length_take,E2] at hj
 have :=h (f+j) xN xN
 rw[List.getElem_take,List.getElem_drop]
 rw[AO,A9 xN] at this
 exact this
theorem N4_{s:Bs}{f k:Nat}{out:List Bs}(h:dots s=out++dots (s.drop f))(hn:Ij_ s f k)(hf:f<=k)(hk:k<s.length)(hc:s.getD k 0=46):dots s=(out++[(s.drop f).take (k-f)])++dots (s.drop (k+1)):=by
 rw[h];have hg:(s.drop f)[k-f]? = some 46:=by
   rw[List.getElem?_drop,show f+(k-f)=k by omega,A9 hk]
   rw[AO,A9 hk] at hc
   exact congrArg some hc
 rw[Lp_ (Hp_ hn) hg,G9,show f+(k-f+1)=k+1 by omega];simp
theorem N3_{s:Bs}{f k:Nat}{out:List Bs}(h:dots s=out++dots (s.drop f))(hn:Ij_ s f k)(hk:s.length<=k):dots s=out++[s.drop f]:=by
 rw[h];have :=Hp_ hn;rw[BZ (by rw[E2];omega)] at this;rw[Hb_ this]
theorem Kp_{s:Bs}{f k:Nat}(h:Ij_ s f k)(hc:¬s.getD k 0=46):Ij_ s f (k+1):=λj h1 h2=>by
 by_cases e:j=k
 . subst e;exact hc
 . exact h j h1 xN
theorem Hq_{s:Bs}{f:Nat}:Ij_ s f f:=λj h1 h2=>by omega
theorem byteEq{c:UInt8}{n:Nat}(hn:n<256)(h:(c.toNat:Int)=n):c=UInt8.ofNat n:=by
 apply UInt8.toNat_inj.1
 rw[DC];have :(2:Nat) ^ 8=256:=rfl;omega
theorem byteNe{c:UInt8}{n:Nat}(hn:n<256)(h:¬(c.toNat:Int)=n):¬c=UInt8.ofNat n:=by
 rintro rfl;rw[DC] at h;have :(2:Nat) ^ 8=256:=rfl;omega
def V_(pattern:Bool):List Bs:=if pattern=true then [[42],[35]] else []
theorem Dp_{s:Bs}{k:Nat}(hk:k<s.length):(s.drop k).all (λc=>letter c.toNat)=(letter (s.getD k 0).toNat&&(s.drop (k+1)).all (λc=>letter c.toNat)):=by
 rw[Lq_ hk,GF]
theorem Hh_{p b:Bool}{w:Bs}(h:(decide ((w.length:Int)=0)||!plain w)=b):If_ (V_ p) w=(b&&!(p&&(decide (w=[42]) || decide (w=[35])))):=by
 subst h;have e:(w==[]) = decide ((w.length:Int)=0):=by
   cases w with
   |nil=>rfl
   |cons c r=>simp;omega
 unfold If_ V_;rw[e]
 cases p
 simp;simp[Bool.and_comm]
theorem Ac_(r:Reply):E4_ r = if 7<r.kind then 8
   else if r.M_.id≠0\/r.M_.due≠0\/r.M_.hops≠0\/(r.n≠0/\¬(r.kind=2\/r.kind=3\/r.kind=5\/r.kind=6\/r.kind=7))\/(r.m≠0/\¬(r.kind=3\/r.kind=6))\/(r.name≠[]/\r.kind≠0) then 4
   else if r.kind≠3 then (if r.yes=true\/r.M_.B4_≠[]\/r.M_.key≠[]\/(0:Int)<r.M_.head.length\/r.M_.body≠[] then 4 else if r.kind=0 then C2_ r.name else 0)
   else Ds_ r.M_:=by
 unfold E4_;by_cases h7:7<r.kind;rw[if_pos h7,if_pos h7];rw[if_neg h7,if_neg h7];by_cases hs:F4_ r=true
 . rw[if_pos hs]
   split
   rfl
   . rename_i h1
     have e3:r.kind≠3:=by
       intro k3
       have n2:¬((r.name≠[]/\r.kind≠0)\/(r.kind≠3/\(r.yes=true\/Dx_ r.M_=false))):=by
         rintro (q|q)
         . exact h1 (.inr (.inr (.inr (.inr (.inr q)))))
         . exact q.1 k3
       unfold F4_ at hs
       rw[if_neg xN,if_neg n2,if_pos (.inl k3)] at hs
       cases hs
     rw[if_pos e3]
     split
     rfl
     . rename_i h2
       exfalso
       unfold F4_ at hs
       have hb:Dx_ r.M_=true:=by
         have a1:r.M_.B4_=[]:=BO λq=>h2 (.inr (.inl q))
         have a2:r.M_.key=[]:=BO λq=>h2 (.inr (.inr (.inl q)))
         have a4:r.M_.body=[]:=BO λq=>h2 (.inr (.inr (.inr (.inr q))))
         simp[Dx_,a1,a2,a4]
         by_cases q:r.M_.head.length=0
         . exact C8 q
         . exact absurd (.inr (.inr (.inr (.inl xN)))) h2
       have hy:¬r.yes=true:=λq=>h2 (.inl q)
       have n2:¬((r.name≠[]/\r.kind≠0)\/(r.kind≠3/\(r.yes=true\/Dx_ r.M_=false))):=by
         rintro (q|⟨_,q|q⟩)
         . exact h1 (.inr (.inr (.inr (.inr (.inr q)))))
         . exact hy q
         . rw[hb] at q;cases q
       rw[if_neg xN,if_neg n2] at hs
       split at hs
       . cases hs
       . rename_i z1
         split at hs
         have q:r.m≠0:=by simpa using hs
         exact zF
         . rename_i z2
           have q:r.n≠0\/r.m≠0:=by simpa using hs
           rcases q with q|q
           exact h1 (.inr (.inr (.inr (.inl ⟨q,by omega⟩))))
           exact zF
 rw[if_neg hs];obtain⟨a1,a2,a3,a4,a5⟩:=N2_ (by simpa using hs);have n1:¬(r.M_.id≠0\/r.M_.due≠0\/r.M_.hops≠0\/(r.n≠0/\¬(r.kind=2\/r.kind=3\/r.kind=5\/r.kind=6\/r.kind=7))\/(r.m≠0/\¬(r.kind=3\/r.kind=6))\/(r.name≠[]/\r.kind≠0)):=by
   rintro (q|q|q|⟨q,z⟩|⟨q,z⟩|⟨q,z⟩)
   . exact q a1.1
   . exact q a1.2.1
   . exact q a1.2.2
   . exact q (a5 xN xN)
   . exact q (a4 z)
   . exact q (a2 z)
 rw[if_neg n1];by_cases k3:r.kind=3;have k0:¬r.kind=0:=by omega
 have n3:¬r.kind≠3:=λq=>q k3;rw[if_neg k0,if_pos k3,if_neg n3];obtain⟨b0,b1,b2,b3,b4⟩:=a3 k3;have n4:¬(r.yes=true\/r.M_.B4_≠[]\/r.M_.key≠[]\/(0:Int)<r.M_.head.length\/r.M_.body≠[]):=by
   rw[b0,b1,b2,b3,b4];simp
 have p3:r.kind≠3:=k3;rw[if_pos p3,if_neg n4,if_neg k3]
theorem Ap_(p:Pair)(ahead:List Pair):Cc_ p ahead = if C2_ p.key≠0 then C2_ p.key else if 2<p.kind then 8 else if p.kind=1/\(64:Int)<p.text.length then 5 else if p.kind=2/\(p.num<0\/1<p.num) then 7 else if p.kind=1/\p.num≠0\/p.kind≠1/\p.text≠[] then 4 else if (C6_ ahead p.key).isSome then 9 else 0:=by
 unfold Cc_;have e:(p.kind=2/\p.num≠0/\p.num≠1)↔(p.kind=2/\(p.num<0\/1<p.num)):=by omega
 simp only[e]
def tellsT:List Bs:=[[110],[],[],[65,110,120],[65],[65,110,109,120],[65],[65,79,112,104,121],[65,79,112,104,121],[65,79,112,104,121],[65,79,112,104,121],[65,107,104,109,98],[110],[65,110],[110],[65],[110,109,121],[],[],[],[]]
structure Rule where
 sort:Int
 key:Bs
 want:List Pair
 all:Bool
deriving DecidableEq
def Rule.cells(r:Rule)(a:Option Addr)(c:Nat):List Value:=[.int .u8 r.sort,str r.key, .slice a r.want.length c, .bool r.all]
def Rule.wf(r:Rule):Prop:=(0<=r.sort/\r.sort<=255)/\r.key.length<=9223372036854775807/\r.want.length<=9223372036854775807
structure Method where
 channel:Int
 kind:Int
 name:Bs
 other:Bs
 key:Bs
 head:List Pair
 body:Bs
 n:Int
 m:Int
 yes:Bool
deriving DecidableEq
def Method.cells(m:Method)(a:Option Addr)(c:Nat):List Value:=[.int .u8 m.channel, .int .u8 m.kind,str m.name,str m.other,str m.key, .slice a m.head.length c,str m.body, .int .u64 m.n, .int .u64 m.m, .bool m.yes]
def Method.wf(m:Method):Prop:=(0<=m.channel/\m.channel<=255)/\(0<=m.kind/\m.kind<=255)/\(0<=m.n/\m.n<=18446744073709551615)/\(0<=m.m/\m.m<=18446744073709551615)/\m.name.length<=9223372036854775807/\m.other.length<=9223372036854775807/\m.key.length<=9223372036854775807/\m.head.length<=9223372036854775807/\m.body.length<=9223372036854775807
structure D6_ where
 name:Bs
 sort:Int
 to':Bs
deriving DecidableEq
def D6_.cells(x:D6_):List Value:=[str x.name, .int .u8 x.sort,str x.to']
def D6_.wf(x:D6_):Prop:=x.name.length<=9223372036854775807/\(0<=x.sort/\x.sort<=255)/\x.to'.length<=9223372036854775807
structure Ct_ where
 name:Bs
 most:Int
 life:Int
 dead:Bs
deriving DecidableEq
def Ct_.cells(x:Ct_):List Value:=[str x.name, .int .u64 x.most, .int .u64 x.life,str x.dead]
def Ct_.wf(x:Ct_):Prop:=x.name.length<=9223372036854775807/\(0<=x.most/\x.most<=18446744073709551615)/\(0<=x.life/\x.life<=18446744073709551615)/\x.dead.length<=9223372036854775807
structure Cy_ where
 B4_:Bs
 to':Bs
 up:Bool
 key:Bs
 want:List Pair
 all:Bool
deriving DecidableEq
def Cy_.cells(x:Cy_)(a:Option Addr)(c:Nat):List Value:=[str x.B4_,str x.to', .bool x.up,str x.key, .slice a x.want.length c, .bool x.all]
def Cy_.wf(x:Cy_):Prop:=x.B4_.length<=9223372036854775807/\x.to'.length<=9223372036854775807/\x.key.length<=9223372036854775807/\x.want.length<=9223372036854775807
structure Eh_ where
 kind:Int
 tick:Int
 B4_:D6_
 queue:Ct_
 bind:Cy_
 name:Bs
 id:Int
 how:Int
 frm:Int
 code:Int
 number:Int
 M_:Mail
 text:Bs
deriving DecidableEq
def Eh_.cells(d:Eh_)(a:Option Addr)(c:Nat)(a':Option Addr)(c':Nat):List Value:=
 [.int .u8 d.kind, .int .u64 d.tick,str d.B4_.name, .int .u8 d.B4_.sort,str d.B4_.to',str d.queue.name, .int .u64 d.queue.most, .int .u64 d.queue.life,str d.queue.dead,
  str d.bind.B4_,str d.bind.to', .bool d.bind.up,str d.bind.key, .slice a d.bind.want.length c, .bool d.bind.all,str d.name, .int .u64 d.id, .int .u8 d.how, .int .u8 d.frm, .int .u8 d.code, .int .u64 d.number,
  .int .u64 d.M_.id,str d.M_.B4_,str d.M_.key, .slice a' d.M_.head.length c',str d.M_.body, .int .u64 d.M_.due, .int .u8 d.M_.hops,str d.text]
def Eh_.wf(d:Eh_):Prop:=(0<=d.kind/\d.kind<=255)/\(0<=d.tick/\d.tick<=18446744073709551615)/\d.B4_.wf/\d.queue.wf/\d.bind.wf/\d.name.length<=9223372036854775807/\(0<=d.id/\d.id<=18446744073709551615)/\(0<=d.how/\d.how<=255)/\(0<=d.frm/\d.frm<=255)/\(0<=d.code/\d.code<=255)/\(0<=d.number/\d.number<=18446744073709551615)/\d.M_.wf/\d.text.length<=9223372036854775807
def D6_.zero:D6_:=⟨[],0,[]⟩
def Ct_.zero:Ct_:=⟨[],0,0,[]⟩
def Cy_.zero:Cy_:=⟨[],[],false,[],[],false⟩
def Eh_.blank(k t:Int):Eh_:=⟨k,t, .zero, .zero, .zero,[],0,0,0,0,0, .zero,[]⟩
structure F8_ where
 shops:List D6_
 binds:List Cy_
deriving DecidableEq
def F8_.cells(x:F8_)(a1:Option Addr)(c1:Nat)(a2:Option Addr)(c2:Nat):List Value:=[.slice a1 x.shops.length c1, .slice a2 x.binds.length c2]
def F8_.wf(x:F8_):Prop:=x.shops.length<=9223372036854775807/\x.binds.length<=9223372036854775807
def F8_.zero:F8_:=⟨[],[]⟩
structure C4_ where
 l:List Eh_
deriving DecidableEq
def C4_.cells(x:C4_)(a1:Option Addr)(c1:Nat):List Value:=[.slice a1 x.l.length c1]
def C4_.wf(x:C4_):Prop:=x.l.length<=9223372036854775807
def C4_.zero:C4_:=⟨[]⟩
def Feed.pc(x:Feed):List PV:=[.str x.rest, .int .i64 x.err]
instance :Inhabited Feed:=⟨⟨[],0⟩⟩
def Out.pc(x:Out):List PV:=[.str x.s, .int .i64 x.err]
instance :Inhabited Out:=⟨⟨[],0⟩⟩
def In.pc(x:In):List PV:=[.str x.s, .int .i64 x.err]
instance :Inhabited In:=⟨⟨[],0⟩⟩
def RIn.pc(x:RIn):List PV:=[.str x.s, .int .i64 x.pos, .int .i64 x.code]
instance :Inhabited RIn:=⟨⟨[],0,0⟩⟩
def Pair.pc(x:Pair):List PV:=[.str x.key, .int .u8 x.kind, .int .i64 x.num, .str x.text]
instance :Inhabited Pair:=⟨⟨[],0,0,[]⟩⟩
theorem Pair.pwf{x:Pair}(h:PV.wfs (Pair.pc x)):Pair.wf x:=by
 simp only[Pair.pc,PV.wfs,PV.wf] at h;simp only[Pair.wf];omega
def Frame.pc(x:Frame):List PV:=[.int .u8 x.channel, .int .u8 x.kind, .str x.body]
instance :Inhabited Frame:=⟨⟨0,0,[]⟩⟩
def D6_.pc(x:D6_):List PV:=[.str x.name, .int .u8 x.sort, .str x.to']
instance :Inhabited D6_:=⟨⟨[],0,[]⟩⟩
def Ct_.pc(x:Ct_):List PV:=[.str x.name, .int .u64 x.most, .int .u64 x.life, .str x.dead]
instance :Inhabited Ct_:=⟨⟨[],0,0,[]⟩⟩
def Cy_.pc(x:Cy_):List PV:=[.str x.B4_, .str x.to', .bool x.up, .str x.key, .sl Pair.pc x.want, .bool x.all]
instance :Inhabited Cy_:=⟨⟨[],[],false,[],[],false⟩⟩
theorem Cy_.kd4{x:Cy_}(h:PV.wfs (Cy_.pc x)):∀ p∈x.want,0<=p.kind:=λp hp=>by
 have q:=Pair.pwf (h.2.2.2.2.1.2 p hp)
 simp only[Pair.wf] at q
 omega
def Rule.pc(x:Rule):List PV:=[.int .u8 x.sort, .str x.key, .sl Pair.pc x.want, .bool x.all]
instance :Inhabited Rule:=⟨⟨0,[],[],false⟩⟩
def Mail.pc(x:Mail):List PV:=[.int .u64 x.id, .str x.B4_, .str x.key, .sl Pair.pc x.head, .str x.body, .int .u64 x.due, .int .u8 x.hops]
instance :Inhabited Mail:=⟨⟨0,[],[],[],[],0,0⟩⟩
def Reply.pc(x:Reply):List PV:=[.int .u8 x.channel, .int .u8 x.kind, .int .u64 x.n, .int .u64 x.m, .bool x.yes, .str x.name, .int .u64 x.M_.id, .str x.M_.B4_, .str x.M_.key, .sl Pair.pc x.M_.head, .str x.M_.body, .int .u64 x.M_.due, .int .u8 x.M_.hops]
instance :Inhabited Reply:=⟨⟨0,0,0,0,false,[],⟨0,[],[],[],[],0,0⟩⟩⟩
theorem Reply.pwf{x:Reply}(h:PV.wfs (Reply.pc x)):Reply.wf x:=by
 simp only[Reply.pc,PV.wfs,PV.wf] at h;simp only[Reply.wf,Mail.wf];omega
theorem Reply.kd9{x:Reply}(h:PV.wfs (Reply.pc x)):∀ p∈x.M_.head,0<=p.kind:=λp hp=>by
 have q:=Pair.pwf (h.2.2.2.2.2.2.2.2.2.1.2 p hp)
 simp only[Pair.wf] at q
 omega
def Method.pc(x:Method):List PV:=[.int .u8 x.channel, .int .u8 x.kind, .str x.name, .str x.other, .str x.key, .sl Pair.pc x.head, .str x.body, .int .u64 x.n, .int .u64 x.m, .bool x.yes]
instance :Inhabited Method:=⟨⟨0,0,[],[],[],[],[],0,0,false⟩⟩
def Eh_.pc(x:Eh_):List PV:=[.int .u8 x.kind, .int .u64 x.tick, .str x.B4_.name, .int .u8 x.B4_.sort, .str x.B4_.to', .str x.queue.name, .int .u64 x.queue.most, .int .u64 x.queue.life, .str x.queue.dead, .str x.bind.B4_, .str x.bind.to', .bool x.bind.up, .str x.bind.key, .sl Pair.pc x.bind.want, .bool x.bind.all, .str x.name, .int .u64 x.id, .int .u8 x.how, .int .u8 x.frm, .int .u8 x.code, .int .u64 x.number, .int .u64 x.M_.id, .str x.M_.B4_, .str x.M_.key, .sl Pair.pc x.M_.head, .str x.M_.body, .int .u64 x.M_.due, .int .u8 x.M_.hops, .str x.text]
instance :Inhabited Eh_:=⟨⟨0,0,⟨[],0,[]⟩,⟨[],0,0,[]⟩,⟨[],[],false,[],[],false⟩,[],0,0,0,0,0,⟨0,[],[],[],[],0,0⟩,[]⟩⟩
def F8_.pc(x:F8_):List PV:=[.sl D6_.pc x.shops, .sl Cy_.pc x.binds]
instance :Inhabited F8_:=⟨⟨[],[]⟩⟩
def C4_.pc(x:C4_):List PV:=[.sl Eh_.pc x.l]
instance :Inhabited C4_:=⟨⟨[]⟩⟩
end Go.SW
namespace Go.SW.V
open Go.SW
def lt{α β:Type}(a:α)(f:α->β):β:=f a
theorem lt_eq{α β:Type}{a r:α}{f:α->β}(h:r=a):lt a f=f r:=by subst h;rfl
inductive Lo(σ ρ:Type) where
 |fin (s:σ)
 |ret (r:ρ)
def lt1{σ1 β:Type}(s:σ1)(f:σ1->β):β:=f s
theorem Gp_{σ1 β:Type}{l:β}{o:σ1}{f:σ1->β}{a1:σ1}(h:l=lt1 o f)(k:o=a1):l=f a1:=by subst k;exact h
theorem C9_{σ1 β:Type}{l:β}{X:σ1}{f:σ1->β}(h:l=lt1 X f):∃ o,o=X/\l=lt1 o f:=⟨_,rfl,h⟩
def gt{α:Type}[Inhabited α](xs:List α)(k:Nat):α:=xs.getD k default
theorem getG{α:Type}[Inhabited α]{xs:List α}{k:Nat}(h:k<xs.length):xs[k]? = some (gt xs k):=by
 rw[gt,AO,A9 h];rfl
theorem gt_mem{α:Type}[Inhabited α]{xs:List α}{k:Nat}(h:k<xs.length):gt xs k∈xs:=F5 (getG h)
theorem Nl_{α:Type}{p:PV}{a v:α}(f:α->PV)(e:a=v)(h:PLe p (f v)):PLe p (f a):=by subst e;exact h
variable{P:Program}{n:Nat}{N:Rest}{H0:Env}{all rest:List Oper}{Q:Qs}{ks:List Kt}{fF:Nat->PV}{fL:Nat->Blk}{T T' T2 ty d:Nat}{pos:String}{af:Array Edge}{x y z:Operand}{K:St->Prop}{op:Op}{p:PV}
theorem O4_{ι:Type}{X:Code}(keep kL:List Nat)(lv:ι->List (Nat×PV))(lL:ι->List (Nat×Blk))(Φ:ι->Prop)(h:Hd P n N H0 Q (.code X) (.lp (LJ (λx=>⟨mkF (lv x) keep fF,mkL (lL x) kL fL⟩) Φ (λ_=>0) 1)::ks) ⟨fF,fL⟩)(k:∀ x,Φ x->Hd P n N H0 Q (.ex .normal) ks ⟨mkF (lv x) keep fF,mkL (lL x) kL fL⟩):Hd P n N H0 Q (.code X) ks ⟨fF,fL⟩:=by
 intro F H L ha;refine Dk_ (λe F' H' L' hq=>?_) (h F H L ha);obtain⟨s',ha',hq'⟩:=hq
 cases e with
 |normal=>obtain⟨x,h1,_,h3⟩:=hq';exact⟨_,h3 _ _ _ _ ha',k x h1⟩
 |_=>exact⟨s',ha',hq'⟩
theorem callv{α:Type}(g:α)(res:α->PV){f:FuncId}{args:List PV}{xs:Array Operand}{ats:Array TypeId}(h:Fn P H0.g f args (res g))(ha:argsP fF x xs.toList=some (f,args))(hd:Nat.blt d n=true)(k:∀ r,r=g->(res r).wf->Hd P n N H0 Q (.ops all rest) ks ⟨updp fF d (res r),fL⟩):Hd P n N H0 Q (.ops all (⟨some d, .call ⟨.value x,xs,ats⟩,ty,pos,af,none⟩::rest)) ks ⟨fF,fL⟩:=call h ha hd (k g Y)
end Go.SW.V
namespace Go.SW
end Go.SW
namespace Go.SW.V
open Go.SW
theorem F0_{r:Reply}(h:E4_ r=0):r.kind<=7:=by
 unfold E4_ at h
 split at h
 . cases h
 omega
theorem E5_{r:Reply}(h:(PV.agg (Reply.pc r)).wf):0<=r.kind:=h.2.1.1
def decF:Nat->Nat->Bs
 |0,_=>[]
 |f+1,u=>if u<10 then [B7 (48+u)] else decF f (u/10)++[B7 (48+u%10)]
theorem Ll_:∀ (f u:Nat),u<10 ^ (f+1)->decF (f+1) u=Go.Lib.decDigits u
 |0,u,h=>by rw[decF,CI,if_pos xY,dif_pos xY]
 |f+1,u,h=>by
   rw[decF,CI]
   by_cases q:u<10
   . rw[if_pos q,dif_pos q]
   . rw[if_neg q,dif_neg q,Ll_ f (u/10) (by rw[Nat.pow_succ] at h;omega)]
def decB(n:Int):Bs:=if 0<=n/\n<=18446744073709551615 then decF 20 n.toNat else []
theorem decB_eq(n:Int):decB n = if 0<=n/\n<=18446744073709551615 then Go.Lib.decDigits n.toNat else []:=by
 unfold decB
 split
 have h20:(10:Nat) ^ 20=100000000000000000000:=by decide
 exact Ll_ 19 _ xN;rfl
theorem B_(n:Int):(decB n).length<=20:=by
 rw[decB_eq]
 split
 rw[Go.Lib.decDigits_length];exact Go.Lib.nDigits_le20 _ xN;simp
theorem Fp_{n:Int}(h0:0<=n)(h1:n<10):decB n=[UInt8.ofNat (48+n.toNat)]:=by
 rw[decB_eq,if_pos ⟨h0,by omega⟩,CI,dif_pos xN]
theorem Ov_{n:Int}(h0:10<=n)(h1:n<=18446744073709551615):decB n=decB (n/10)++decB (n%10):=by
 rw[Fp_ (n:=n%10) xN xN,decB_eq,decB_eq,if_pos ⟨by omega,h1⟩,if_pos ⟨by omega,by omega⟩,CI,dif_neg xN]
 congr 3<;>omega
def joinB:List Bs->Bs->Bs
 |[],_=>[]
 |[x],_=>x
 |x::y::r,s=>x++s++joinB (y::r) s
theorem joinB_eq:∀ (xs:List Bs) (s:Bs),joinB xs s=Go.Lib.join xs s
 |[],_=>rfl
 |[x],s=>(Go.Lib.join_one x s).symm
 |x::y::r,s=>by
   rw[joinB,joinB_eq (y::r) s,FI,FI]
   simp[Go.Lib.joinTail]
end Go.SW.V
namespace Go.SW
def GPow(H:Hp)(g:Nat):Prop:=∃ T fr,H g=some (.cells (Go.Lib.pow10Tab.map (BM .u64)).toArray T fr)
theorem GPow.mono{H H':Hp}{g:Nat}(h:GPow H g)(hl:HLe H H'):GPow H' g:=by
 exact zS
theorem GPow.tab{P:Program}{N:Rest}{H:Hp}{L:Ls}{w:World}{g:Nat}{name:String}(h:GPow H g)(hm:Mem N H L w)(hg:P.globalNamed name=some g):Go.Lib.TabIs P w name .u64 Go.Lib.pow10Tab:=by
 exact zT
def GSpc(H:Hp)(g:Nat):Prop:=∃ T fr,H g=some (.cells (Go.Lib.asciiSpaceTab.map (BM .u8)).toArray T fr)
theorem GSpc.mono{H H':Hp}{g:Nat}(h:GSpc H g)(hl:HLe H H'):GSpc H' g:=by
 exact zS
theorem GSpc.tab{P:Program}{N:Rest}{H:Hp}{L:Ls}{w:World}{g:Nat}{name:String}(h:GSpc H g)(hm:Mem N H L w)(hg:P.globalNamed name=some g):Go.Lib.TabIs P w name .u8 Go.Lib.asciiSpaceTab:=by
 exact zT
end Go.SW
namespace Go.SW.V
open Go.SW
def rplW:List Bs:=[[119,101,108,99,111,109,101],[100,111,110,101],[114,101,102,117,115,101,100],[115,101,110,116],[110,111,116,104,105,110,103],[107,101,112,116],[108,111,115,116],[98,121,101]]
def rplB:Bs:=[119,101,108,99,111,109,101,32,100,111,110,101,32,114,101,102,117,115,101,100,32,115,101,110,116,32,110,111,116,104,105,110,103,32,107,101,112,116,32,108,111,115,116,32,98,121,101]
theorem rpl_fields:Go.Lib.fields rplB=rplW:=by decide +kernel
theorem rpl_ascii:∀ (j:Nat) b,rplB[j]? = some b->b.toNat<128:=by
 have h:∀ b∈rplB,b.toNat<128:=by decide +kernel
 intro j b hb;exact h b (F5 hb)
theorem rpl_short:∀ z∈rplW,z.length<=10:=by decide +kernel
end Go.SW.V
namespace Go.SW
open Go.ChangeShapes Go.WideShapes Go.ChangeAt Go.RowKit
def hp(w:World):Hp:=λb=>w.heap[b]?
def Nr_(w:World):Rest:=⟨λ_=>none,w.os,w.tape,w.output⟩
theorem mem0(w:World):Mem (Nr_ w) (hp w) l0 w:=
 {os:=rfl,tape:=rfl,output:=rfl,n:=λ_ _ h=>wC,h:=λ_ _ h=>h,l:=λ_ _ _ h=>wC,nh:=λ_ _ h=>wC,nl:=λ_ _ _ h=>wC,ll:=λ_ _ _ _ _ h=>wC}
theorem Ko_{w w':World}{L:Ls}(h:Mem (Nr_ w) (hp w) L w'):Below w.heap.size w w':=by
 have hb:∀ k,k<w.heap.size->w'.heap[k]? = w.heap[k]? :=λk hk=>by
   have e:w.heap[k]? = some w.heap[k]:=Array.getElem?_eq_getElem hk
   rw[e];exact h.h k _ e
 refine⟨h.os,h.tape,h.output,?_,hb⟩;by_cases z:w.heap.size=0;omega;have :=hb (w.heap.size-1) xN;exact yJ
section
variable{Ht:Type}{enc:TypeId×Value->Ht}{P:Program}{w:World}{base fuel:Nat}{spare:Nat->Bool}{held:Bool}{cs:List Value}{x:DataW Ht×List MemPlace}{t:TypeId}
theorem rd_int{k:IntKind}(ht:P.underlying t=some (.int k))(h:DataW.trod enc P w base spare held fuel t cs=some x):∃ z:Int,cs=[.int k z]/\k.min<=z/\z<=k.max:=by
 obtain⟨z,h1,_,h2⟩:=DataW.trod_int ht h;refine⟨z,h1,?_⟩;simp only[Lit.wf,A2,decide_eq_true_eq] at h2;exact h2
theorem rd_bool(ht:P.underlying t=some .bool)(h:DataW.trod enc P w base spare held fuel t cs=some x):∃ z:Bool,cs=[.bool z]:=by
 obtain⟨z,h1,_⟩:=DataW.trod_bool ht h;exact⟨z,h1⟩
theorem rd_str(ht:P.underlying t=some .string)(h:DataW.trod enc P w base spare held fuel t cs=some x):∃ s:Bs,cs=[str s]/\s.length<=9223372036854775807:=by
 obtain⟨s,h1,_,h2⟩:=DataW.trod_string ht h;refine⟨s.data.toList,by rw[h1,J9_],?_⟩;have :s.data.toList.length=s.size:=Array.length_toList;rw[this];exact h2
theorem Mi_{α:Type}{Q:Nat->α->Prop}:∀ n,(∀ i,i<n->∃ r,Q i r)->∃ rs:List α,rs.length=n/\∀ i (h:i<rs.length),Q i rs[i]
 |0,_=>⟨[],rfl,λi h=>by cases h⟩
 |n+1,hq=>by
   obtain⟨rs,hl,hr⟩:=Mi_ n (λi hi=>hq i xN)
   obtain⟨r,hr0⟩:=hq n xN
   refine⟨rs++[r],by simp[hl],λi hi=>?_⟩
   by_cases e:i<rs.length
   . rw[List.getElem_append_left e];exact hr i e
   . have :i=rs.length:=by simp at hi;omega
     subst this
     rw[List.getElem_append_right (Nat.le_refl _)]
     simp only[Nat.sub_self,List.getElem_cons_zero]
     rw[hl];exact hr0
theorem rd_fld{fs:Array Field}{xs:List (DataW Ht×List MemPlace)}{n i o k:Nat}{f:Field}{ft:TypeId}(hf:∀ (i:Nat) (f:Field),fs[i]? = some f->DataW.trod enc P w base spare held n f.type ((cs.drop f.offset).take (P.cellsOf f.type))=xs[i]?)(hl:xs.length=fs.size)
   (hi:fs[i]? = some f) (ho:f.offset=o) (ht:f.type=ft) (hk:P.cellsOf ft=k):∃ y,DataW.trod enc P w base spare held n ft ((cs.drop o).take k)=some y:=by
 have h:=hf i f hi;have hlt:i<fs.size:=(Array.getElem?_eq_some_iff.1 hi).1;rw[ho,ht,hk,A9 xN] at h;exact⟨_,h⟩
end
theorem rd_agg{Ht:Type}{enc:TypeId×Value->Ht}{P:Program}{w:World}{r:Reach}{b0 base:Nat}{spare:Nat->Bool}{held:Bool}{t:TypeId}{fs:Array Field}{v:Value}{d:DataW Ht}{p:List MemPlace}(hs:P.underlying t=some (.struct fs))(hv:Value.okWide P w r b0 t v)
   (h:DataW.Trod enc P w base spare held t v d p):∃ (l:List Value) (fuel:Nat),v = .agg l.toArray/\DataW.trod enc P w base spare held fuel t l=some (d,p):=by
 obtain⟨cs,rfl,_⟩:=okWide_struct hs hv;obtain⟨fuel,hf⟩:=h;exact⟨cs.toList,fuel,rfl,hf⟩
theorem Ni_{P:Program}{ts:Array TypeId}(h:(ts.toList.all λt=>P.readableRec t && decide (t<P.types.size))=true):∀ t∈ts.toList,P.readableRec t=true/\t<P.types.size:=λt ht=>by
 have :=List.all_eq_true.1 h t ht
 exact xC
theorem Kv_{Ht:Type}{enc:TypeId×Value->Ht}{P:Program}{w:World}{r:Reach}{b0 base:Nat}{spare:Nat->Bool}{held:Bool}{t:TypeId}{k:IntKind}{v:Value}{d:DataW Ht}{p:List MemPlace}(hs:P.underlying t=some (.int k))(hv:Value.okWide P w r b0 t v)
   (h:DataW.Trod enc P w base spare held t v d p):∃ z:Int,v = .int k z/\k.min<=z/\z<=k.max:=by
 obtain⟨z,rfl,_,_,hw⟩:=open_int hs hv h;refine⟨z,rfl,?_⟩;simp only[Lit.wf,A2,decide_eq_true_eq] at hw;exact hw
def flatD:Nat->DataW Unit->List Value
 |_, .lit (.int k n)=>[.int k n]
 |_, .lit (.string s)=>[.string ⟨s.toArray⟩]
 |_, .lit (.bool b)=>[.bool b]
 |n+1, .agg l=>l.flatMap (flatD n)
 |_,_=>[]
def layD(d:DataW Unit):Obj->Obj
 | .cells _ t frozen=> .cells (flatD 5 d).toArray t frozen
 |o=>o
theorem G4_{Ht:Type}{enc:TypeId×Value->Ht}{P:Program}(hl:laidOutB P=true){W W':World}(hb:Below W.heap.size W W'){sp:Nat->Bool}:∀ {ts:List TypeId} {vs:List Value} {ds:List (DataW Ht)} {ps:List MemPlace},(∀ t∈ts,P.readableRec t=true/\t<P.types.size) ->
   DataW.TrodAll enc P W 0 (λ_=>true) true ts vs ds ps->(∀ x∈ps,x.block<W.heap.size)->(∀ x∈ps,sp x.block=true)->DataW.TrodAll enc P W' 0 sp true ts vs ds ps:=by
 intro ts
 induction ts with
 |nil=>intro vs ds ps _ h _ _;cases vs<;>cases ds<;>first|exact h|exact h.elim
 |cons t ts ih=>
   intro vs ds ps hr h hlt hsp
   obtain⟨v,vs',d,ds',p,q,rfl,rfl,rfl,h1,h2⟩:=trodAll_cons h
   exact trodAll_cons_mk (WideElems.Trod_stays hl (hr t xP).1 (hr t xP).2 h1 (λx hx=>hb.same (hlt x xX)) (λx hx=>hsp x xX)) (ih (λu hu=>hr u (by simp[hu])) h2 (λx hx=>hlt x xX) (λx hx=>hsp x xX))
section
variable{Ht:Type}{enc:TypeId×Value->Ht}{P:Program}
theorem O8_{f:Func}{s:ChangeSpec}{apart fresh again:Bool}{W W':World}{args:Array Value}{ds:List (DataW Ht)}{before:List MemPlace}{tb:TypeId}(hvars:s.vars=[])
   (hW:DataW.Whole enc P f.params.toList s.vars apart W args.toList ds [] before) (hb:Below W.heap.size W W') (hl:laidOutB P=true) (hr:∀ t∈f.params.toList,P.readableRec t=true/\t<P.types.size)
   (hres:f.resultTypes = #[tb]) (hu:P.underlying tb=some .bool) (hfn:s.fn Ht (ds++[])={results:=[.lit (.bool true)],args:=ds}):s.post enc P f apart fresh false again W args (.bool true) W':=by
 have hlt:∀ p∈before,p.block<W.heap.size:=λp hp=>hW.lt p hp;have hold:∀ p∈before,(λb=>decide (b<W.heap.size)) p.block=true:=λp hp=>by simpa using hlt p hp
 have hW0:=hW;obtain⟨p,q,hA,hV,rfl,hz,hn⟩:=hW0;have hq:q=[]:=by
   rw[hvars] at hV
   exact (trodVars_none hV).2
 subst hq;rw[FZ] at hlt hold hz hn hW;have hA0:EC enc P W 0 (λ_=>true) true f.params.toList args.toList ds p:=hA;have hargs:∀ sp:Nat->Bool,(∀ x∈p,sp x.block=true)->EC enc P W' 0 sp true f.params.toList args.toList ds p:=λsp hs=>G4_ hl hb hr hA0 hlt hs;have hvs:∀ sp:Nat->Bool,DataW.TrodVars enc P W' sp s.vars ([]:List (DataW Ht)) []:=λsp=>by rw[hvars];rfl
 have hR:∀ (b:Nat) (sp:Nat->Bool) (hd:Bool),EC enc P W' b sp hd f.resultTypes.toList ((H6 true).resultList f.resultTypes.size) [.lit (.bool true)] []:=λb sp hd=>by
   rw[hres]
   exact trodAll_mk1 (shut_bool hu true)
 have hok:∀ (j:Nat) (t:TypeId) (r:Value),f.resultTypes[j]? = some t->((H6 true).resultList f.resultTypes.size)[j]? = some r->Value.okWide P W' .any 0 t r:=ok_one hres Y (okWide_bool_mk hu true);refine⟨ds,[],p,[],p,[],hW,?_,?_,?_,World.keptBut_mono (λx hx=>⟨hx,Or.inr (by simpa using hx)⟩) (hb.frame (· ∈ p)),λ_=>?_⟩;rw[hfn];exact hR _ _ _;rw[hfn];exact hargs _ hold;rw[hfn];exact hvs _;refine⟨hok,_,_,([]++p)++[],⟨[]++p,[],trodAll_append (hargs _ (λ_ _=>rfl)) (hR _ _ _),hvs _,rfl,?_,?_⟩,?_⟩;intro b off hp;have hin:MemPlace.cell b off∈p:=by simpa using hp
 rw[hb.frozen (hlt _ hin)];exact hz b off hin;intro ha;have :=hn ha;exact xC;intro x hx _;simpa using hx
theorem Gl_{w:World}{g:Nat}{t:TypeId}{zero:Array Value}(h:w.ShapedOpen P)(hg:g<P.globals.size)
   (h0:((begin P (λ_ _=>0) default).world.heap[g]?).bind Obj.row?=some (zero,t)) (hz:zero.size=1)
   (hb:P.buildable t=true) (hc:P.cellTypes P.depth t=some [t]) (hu:P.underlying t=some (.int .i64)):GInt (hp w) g:=by
 obtain⟨cs,hh,hs,hr⟩:=h.1 g zero t hg h0;obtain⟨ts,hts,_,hall⟩:=hr hb;rw[hc] at hts
 cases hts
 have h1:0<cs.size:=by omega
 obtain⟨u,hu',hok⟩:=hall 0 cs[0] (by simp[h1]);have :u=t:=by simpa using hu'.symm
 subst this;unfold Cell.ok at hok;rw[hu] at hok;have hv:∃ m,cs[0] = .int .i64 m:=by
   cases hv:cs[0]<;>rw[hv] at hok<;>first|exact⟨_,by rw[hok.1]⟩|simp at hok
 obtain⟨m,hm⟩:=hv;refine⟨m,u,(0,0),?_⟩;show w.heap[g]? = _;rw[hh];have e:cs = #[.int .i64 m]:=by
   apply Array.ext
   . simp;omega
   . intro i hi1 hi2
     have :i=0:=by simp at hi2;omega
     subst this
     simpa using hm
 rw[e]
theorem Id_{w:World}{g n:Nat}{name:String}{k:IntKind}{zs:List Int}{rest:List (String×DataW Unit)}{t e:TypeId}(hg:P.globalNamed name=some g)(hty:(P.globals[g]?).map (·.type)=some t)(ht:P.underlying t=some (.array n e))(he:P.underlying e=some (.int k))(hce:P.cellsOf e=1)(hct:P.cellsOf t=n)
   (h:laidMet P ((name,Lib.tabData k zs)::rest) w):∃ T fr,hp w g=some (.cells (zs.map (Value.int k)).toArray T fr):=by
 have hT:=Lib.tabIs_of_head hg hty ht he hce hct h;unfold Lib.TabIs World.var? at hT;rw[hg] at hT;simp only[Option.bind_some] at hT
 split at hT
 . rename_i cs T fr hh
   cases hT
   exact⟨T,fr,hh⟩
 . cases hT
end
variable{P:Program}
theorem Lk_{Ht:Type}{enc:TypeId×Value->Ht}{w:World}{base fuel:Nat}{spare:Nat->Bool}{held:Bool}{a:Option Addr}{l c:Nat}{x:DataW Ht×List MemPlace}{t e:TypeId}(ht:P.underlying t=some (.slice e))
   (h:DataW.trod enc P w base spare held fuel t [.slice a l c]=some x):x.1 = .nil/\l=0\/∃ el sp,x.1 = .slice el sp/\el.length=l:=by
 rcases EY ht h with ⟨h1,h2⟩|⟨a',len,cap,m,nf,D,Pl,h1,_,hl,hm,hmm,hx,_⟩
 . cases h1;subst h2;exact .inl ⟨rfl,rfl⟩
 . cases h1;subst hx;exact .inr ⟨_,_,rfl,by simp⟩
end Go.SW
namespace Go.SW
open Go.ChangeShapes Go.WideShapes Go.ChangeAt Go.RowKit
variable{P:Program}
def Rdv{α:Type}(P:Program)(t:TypeId)(en:α->List PV)(k:Nat):Prop:=
 ∀ (Ht:Type) (enc:TypeId×Value->Ht) (w:World) (base:Nat) (spare:Nat->Bool) (held:Bool) (fuel:Nat) (cs:List Value) (x:DataW Ht×List MemPlace),
   DataW.trod enc P w base spare held fuel t cs=some x->(∀ n∈x.1.weights P t,n<=reachBytes)->∃ r:α,RowE en k (hp w) r cs
theorem Nu_{α:Type}{en:α->List PV}{H:Hp}{r:α}{p:PV}{v:Value}(he:en r=[p])(h:Sim H p v)(ho:v.oneCell'=true):RowE en 1 H r [v]:=
 ⟨by rw[he];rfl,by rw[he];exact Sims.nil.cons h,λu hu=>by rw[List.mem_singleton.1 hu];exact ho⟩
theorem B1_{k:IntKind}{t:TypeId}(ht:P.underlying t=some (.int k)):Rdv P t (λz:Int=>[.int k z]) 1:=λ_ _ _ _ _ _ _ _ _ h _=>by
 obtain⟨z,rfl,h1,h2⟩:=rd_int ht h
 exact⟨z,Nu_ Y (.int h1 h2) Y⟩
theorem Ps_{t:TypeId}(ht:P.underlying t=some .bool):Rdv P t (λz:Bool=>[.bool z]) 1:=λ_ _ _ _ _ _ _ _ _ h _=>by
 obtain⟨z,rfl⟩:=rd_bool ht h
 exact⟨z,Nu_ Y .bool Y⟩
theorem Dv_{t:TypeId}(ht:P.underlying t=some .string):Rdv P t (λs:Bs=>[.str s]) 1:=λ_ _ _ _ _ _ _ _ _ h _=>by
 obtain⟨s,rfl,h1⟩:=rd_str ht h
 exact⟨s,Nu_ Y (.str h1) Y⟩
theorem Cx_{H:Type}{e:TypeId}:∀ {ds:List (DataW H)} {d:DataW H} {n:Nat},d∈ds->n∈d.weights P e->n∈DataW.weightsAll P e ds
 |[],_,_,h,_=>by cases h
 |d0::r,d,n,h,hn=>by
   simp only[DataW.weightsAll,G0]
   rcases List.mem_cons.1 h with rfl|q
   . exact .inl hn
   . exact .inr (Cx_ q hn)
theorem Np_{α:Type}{en:α->List PV}{k:Nat}{t e:TypeId}(ht:P.underlying t=some (.slice e))(hk:P.cellsOf e=k)(h0:0<k)(hb:0<P.bytesOf e)(he:Rdv P e en k):Rdv P t (λxs:List α=>[.sl en xs]) 1:=λHt enc w base spare held fuel cs x h hw=>by
 have hlen:∀ {a:Option Addr} {l c:Nat},cs=[.slice a l c]->l<=140737488355328:=λ{a l c} hcs=>by
   subst hcs
   rcases Lk_ ht h with ⟨_,rfl⟩|⟨el,sp,hx,rfl⟩
   . exact CR _
   . have :=hw ((el.length+sp.length)*P.bytesOf e) (by rw[hx];simp[ED,ht])
     have h1:el.length<=(el.length+sp.length)*P.bytesOf e:=C7 (Nat.le_add_right _ _) (ES _ hb)
     have h2:reachBytes=140737488351232:=by decide
     omega
 rcases EY ht h with ⟨h1,_⟩|⟨a,len,cap,m,nf,D,Pl,h1,_,hl,hm,hmm,hx,hi⟩
 . subst h1
   exact⟨[],Nu_ Y (Sim.of_slh (k:=0) Iy_ xP) rfl⟩
 . have hs0:0<len->a=⟨a.block,a.off,none⟩:=by
     intro hl0
     obtain⟨cs',hc,hT⟩:=hi 0 (by rw[hmm];split<;>omega)
     rw[hk,Nat.zero_mul] at hc
     obtain⟨_,hcl,hat⟩:=FJ hc
     have ha0:=hat 0 h0
     rw[A9 xN] at ha0
     obtain⟨ab,ao,asp⟩:=a
     cases asp with
     |none=>rfl
     |some z=>
       exfalso
       unfold B2 at ha0
       simp only[Addr.add] at ha0
       split at ha0<;>simp at ha0
   have hwD:∀ i,i<len->∀ n∈(D i).weights P e,n<=reachBytes:=λi hil n hn=>by
     refine hw n ?_
     rw[hx]
     simp only[ED,ht,List.mem_cons,G0]
     exact .inr (.inl (Cx_ (List.mem_map.2 ⟨i,List.mem_range.2 hil,rfl⟩) hn))
   have key:∀ i,i<len->∃ r:α,∃ cs',RowE en k (hp w) r cs'/\SlAt (hp w) (.slice (some a) len cap) k i cs':=by
     intro i hil
     have ha:=hs0 xN
     obtain⟨cs',hc,hT⟩:=hi i (by rw[hmm];split<;>omega)
     obtain⟨r,hr⟩:=he _ _ _ _ _ _ _ _ _ hT (hwD i hil)
     rw[hk] at hc
     obtain⟨_,hcl,hat⟩:=FJ hc
     refine⟨r,cs',hr,?_⟩
     generalize a.block=ab at ha
     generalize a.off=ao at ha
     subst ha
     simp only[K_] at hat
     have ha0:=hat 0 h0
     rw[A9 xN] at ha0
     unfold B2 at ha0
     simp only at ha0
     split at ha0
     . rename_i c T fr hb
       refine⟨ab,ao,len,cap,c,T,fr,rfl,hb,hcl,λj hj=>?_⟩
       have :=hat j hj
       unfold B2 at this
       simp only at this
       rw[hb] at this
       exact xC
     . cases ha0
   obtain⟨rs,hlen',hr⟩:=Mi_ (Q:=λi (r:α)=>∃ cs',RowE en k (hp w) r cs'/\SlAt (hp w) (.slice (some a) len cap) k i cs') len key
   have hs:SlH (RowE en k) k (hp w) (.slice (some a) rs.length cap) rs:=⟨⟨some a,cap,rfl,by omega⟩,λi hi=>by rw[hlen'];exact hr i hi⟩
   subst h1
   have hle:=hlen (rfl :[Value.slice (some a) len cap]=_)
   refine⟨rs,Nu_ Y (v:= .slice (some a) len cap) (by rw[<- hlen'];exact Sim.of_slh hs xN) Y⟩
theorem Pu_{ps qs:List PV}{H:Hp}{cs ds:List Value}{m n:Nat}(h:ps.length=m/\Sims H ps cs/\∀ u∈cs,u.oneCell'=true)(k:qs.length=n/\Sims H qs ds/\∀ u∈ds,u.oneCell'=true):(ps++qs).length=m+n/\Sims H (ps++qs) (cs++ds)/\∀ u∈cs++ds,u.oneCell'=true:=
 ⟨by simp[h.1,k.1],h.2.1.append k.2.1,λu hu=>by rcases List.mem_append.1 hu with q|q;exact h.2.2 u q;exact k.2.2 u q⟩
theorem Aj_{Ht:Type}{enc:TypeId×Value->Ht}{w:World}{base:Nat}{spare:Nat->Bool}{held:Bool}{cs:List Value}{t:TypeId}{fs:Array Field}{xs:List (DataW Ht×List MemPlace)}{n i o k:Nat}{f:Field}{ft:TypeId}{α:Type}{en:α->List PV}(ht:P.underlying t=some (.struct fs))
   (hf:∀ (i:Nat) (f:Field),fs[i]? = some f->DataW.trod enc P w base spare held n f.type ((cs.drop f.offset).take (P.cellsOf f.type))=xs[i]?) (hl:xs.length=fs.size) (hw:∀ q∈(DataW.agg (xs.map (·.1)):DataW Ht).weights P t,q<=reachBytes)
   (hi:fs[i]? = some f) (ho:f.offset=o) (hft:f.type=ft) (hk:P.cellsOf ft=k) (hr:Rdv P ft en k):∃ r,RowE en k (hp w) r ((cs.drop o).take k):=by
 obtain⟨y,hy⟩:=rd_fld hf hl hi ho hft hk;refine hr _ _ _ _ _ _ _ _ _ hy λq hq=>hw q ?_;have h:=hf i f hi;rw[ho,hft,hk,hy] at h;simp only[ED,ht];refine EM (j:=i) (t:=ft) (d:=y.1) ?_ ?_ q hq;rw[AR,Array.getElem?_toList,hi];simp[hft];rw[AR,<- h];rfl
theorem Ar_{en:List PV}{H:Hp}{cs:List Value}{o k:Nat}{q:Nat}(h:en.length=k/\Sims H en ((cs.drop o).take k)/\∀ u∈(cs.drop o).take k,u.oneCell'=true){es:List PV}(hr:es.length=q/\Sims H es (cs.drop (o+k))/\∀ u∈cs.drop (o+k),u.oneCell'=true):(en++es).length=k+q/\Sims H (en++es) (cs.drop o)/\∀ u∈cs.drop o,u.oneCell'=true:=by
 have :=Pu_ h hr;rw[<- G9,List.take_append_drop] at this;exact this
theorem Gv_{en:List PV}{H:Hp}{cs:List Value}{o k:Nat}(hl:cs.length=o+k)(h:en.length=k/\Sims H en ((cs.drop o).take k)/\∀ u∈(cs.drop o).take k,u.oneCell'=true):en.length=k/\Sims H en (cs.drop o)/\∀ u∈cs.drop o,u.oneCell'=true:=by
 rw[BZ xS] at h;exact h
section
variable{Ht:Type}{enc:TypeId×Value->Ht}{w:World}{r:Reach}{b0 base:Nat}{spare:Nat->Bool}{held:Bool}{t:TypeId}{v:Value}{d:DataW Ht}{p:List MemPlace}
theorem arg_int{k:IntKind}(hs:P.underlying t=some (.int k))(hv:Value.okWide P w r b0 t v)(h:DataW.Trod enc P w base spare held t v d p):∃ z:Int,Sim (hp w) (.int k z) v:=by
 obtain⟨z,rfl,h1,h2⟩:=Kv_ hs hv h;exact⟨z, .int h1 h2⟩
theorem arg_rec{α:Type}{en:α->List PV}{k:Nat}{fs:Array Field}(hs:P.underlying t=some (.struct fs))(hv:Value.okWide P w r b0 t v)(h:DataW.Trod enc P w base spare held t v d p)(hw:∀ q∈d.weights P t,q<=reachBytes)(hr:Rdv P t en k):∃ z:α,Sim (hp w) (.agg (en z)) v:=by
 obtain⟨l,fuel,rfl,h1⟩:=rd_agg hs hv h;obtain⟨z,h2⟩:=hr _ _ _ _ _ _ _ _ _ h1 hw;exact⟨z,Sim.toAgg h2.2.1⟩
theorem wt_arg{ts:List TypeId}{ds:List (DataW Ht)}{j:Nat}(hw:(DataW.weightsEach P ts ds).all (· <= reachBytes)=true)(ht:ts[j]? = some t)(hd:ds[j]? = some d):∀ q∈d.weights P t,q<=reachBytes:=λq hq=>by
 have :=List.all_eq_true.1 hw q (EM ht hd q hq)
 exact xC
end
theorem law_run{G:Gb}{f:FuncId}{args:List PV}{b:Bool}{vs:List Value}{W:World}(h:Fn P G f args (.bool b))(hg:G.p (hp W))(hs:Sims (hp W) args vs)(hb:b=true):Calls P f vs.toArray W λe W'=>e = .returned (.bool true)/\Mem (Nr_ W) (hp W) l0 W':=
 (h.run (Nr_ W) (hp W) l0 W vs hg hs (mem0 W)).mono λ_ _ ⟨v,H',h1,h2,h3,h4⟩=>⟨by rw[h1,h2.inv_bool,hb],h4.le h3⟩
end Go.SW
namespace Go.SW.V
open Go.SW
variable{P:Program}{n m:Nat}{N:Rest}{H0:Env}{all rest:List Oper}{Q:Qs}{ks:List Kt}{fF gF:Nat->PV}{fL gL:Nat->Blk}{T ty d:Nat}{pos:String}{af:Array Edge}{x y z:Operand}
end Go.SW.V
namespace Go.SW.V
open Go.SW
variable{P:Program}{n:Nat}{N:Rest}{H0:Env}{all rest:List Oper}{Q:Qs}{ks:List Kt}{fF:Nat->PV}{fL:Nat->Blk}{T ty d:Nat}{pos:String}{af:Array Edge}{x y z:Operand}{K:St->Prop}
end Go.SW.V
namespace Go.SW.V
open Go.SW
variable{P:Program}{n:Nat}{N:Rest}{H0:Env}{all rest:List Oper}{Q:Qs}{ks:List Kt}{fF:Nat->PV}{fL:Nat->Blk}{T ty d:Nat}{pos:String}{af:Array Edge}{x y z:Operand}{K:St->Prop}
end Go.SW.V
namespace Go.SW
end Go.SW
namespace Go.SW.V
open Go.SW
variable{P:Program}{n:Nat}{N:Rest}{H0:Env}{all rest:List Oper}{Q:Qs}{ks:List Kt}{fF:Nat->PV}{fL:Nat->Blk}{T ty d:Nat}{pos:String}{af:Array Edge}{x y z:Operand}{K:St->Prop}
theorem lo_sidx{F:Fr}{H:Hp}{L:Ls}{kk:IntKind}{k m b o len cap:Nat}{i:Int}{e:TypeId}(hx:ev F x = .slice (some ⟨b,o,none⟩) len cap)(hy:ev F y = .int kk i)(hT:P.underlying T=some (.slice e))(hk:Sz P e k)(hi:i=m)(hm:m<len):SW.Lo P N (.indexAddr T x y) ty F H L (.pointer (some ⟨b,o+m*k,none⟩)):=λd pos af g w _=>by
 subst hi
 simp[execOp,hx,hy,Instr.indexAt,asIntOf,run_underlying hT,hk w,hm,K_]
theorem Qf_{α:Type}{s:St}{F:Fr}{H:Hp}{L:Ls}{i k e:Nat}{u:Value}{enc:α->List PV}{xs:List α}(ha:Abs H0 s F H L)(hb:s.L i = .arr u k e enc xs)(h0:0<xs.length) :
   ∃ b cap c f,u = .slice (some ⟨b,f.length,none⟩) xs.length cap/\L i=some (b,bx e (f++c))/\cap*k<=c.length/\xs.length<=cap/\Rl (RowE enc k) H xs (c.take (xs.length*k))/\xs.length<=140737488355328/\(k=1->f=[]):=by
 have h3:=ha.l i;rw[hb] at h3;obtain⟨cs,⟨hl,⟨_,h0',_⟩|⟨b,cap,c,f,rfl,hL,hcl,hle,htk,hff⟩⟩,hr,hm⟩:=h3;omega;exact⟨b,cap,c,f,rfl,hL,hcl,hle,by rw[htk];exact hr,hm,hff⟩
theorem eidx{α:Type}{tb:Tb}{ti te:TI}{kk:IntKind}{i e k:Nat}{z:Int}{u:Value}{enc:α->List PV}{xs:List α}(m:Nat)(ht:tbB P tb=true)(hx:evP fF x = .osl i)(hb:fL i = .arr u k e enc xs)(hy:evP fF y = .int kk z)(hti:lkT tb T=some ti)(htk:ti.k = .slc e)(hte:lkT tb e=some te)(hk:te.size=k)(hi:z=(m:Int))(hm:m<xs.length) :
   Qy P N H0 ⟨fF,fL⟩ (.indexAddr T x y) ty (.val (.pointer (some ⟨sBlk u,sOff u+m*k,none⟩))):=λF H L ha=>by
 have h1:=Av_ ha.f x
 unfold Ok1 at h1
 simp only at h1
 rw[hx] at h1
 simp only[SimT,hb] at h1
 have h2:=(Av_ ha.f y).sim
 simp only at h2
 rw[hy] at h2
 obtain⟨b,cap,c,f,rfl,hL,_⟩:=Qf_ ha (i:=i) hb xN
 have hsz:=(At_ ht hte).sz
 rw[hk] at hsz
 exact⟨_,Sim.val,λ_ _ _=>lo_sidx h1 h2.inv_int.1 ((At_ ht hti).slc htk) hsz hi hm⟩
theorem row_at{α:Type}{H:Hp}{enc:α->List PV}{k m:Nat}{xs:List α}{a:α}{c:List Value}(hr:Rl (RowE enc k) H xs (c.take (xs.length*k)))(ha:xs[m]? = some a):∃ ds,RowE enc k H a ds/\∀ j,j<k->c[m*k+j]? = ds[j]? :=by
 obtain⟨hm,rfl⟩:=List.getElem?_eq_some_iff.1 ha;obtain⟨ds,p,q⟩:=rl_at Ce_ hr m hm;refine⟨ds,p,λj hj=>?_⟩;have :(m+1)*k<=xs.length*k:=Nat.mul_le_mul_right k xN;rw[Nat.add_mul] at this;rw[<- q j hj,AD,if_pos xN]
theorem elod1{α:Type}{tb:Tb}{ti:TI}{i e k off:Nat}{u:Value}{enc:α->List PV}{xs:List α}{a:α}(p:PV)(m o:Nat)(ht:tbB P tb=true)(hx:evP fF x = .val (.pointer (some ⟨sBlk u,off,none⟩)))(hb:fL i = .arr u k e enc xs)(hti:lkT tb T=some ti)(hag:ti.k.isAgg=false)(ha':xs[m]? = some a)(hoff:off=sOff u+m*k+o)(hp:(enc a)[o]? = some p)(hn:p.noOsl=true)(hd:Nat.blt d n=true)(kk:p.wf->K ⟨updp fF d p,fL⟩):E1 P n N H0 all ⟨some d, .load T x,ty,pos,af,none⟩ none ⟨fF,fL⟩ K:=by
 intro F H L ha;have h1:=(Av_ ha.f x).sim;simp only at h1;rw[hx] at h1;have hm:m<xs.length:=(List.getElem?_eq_some_iff.1 ha').1;obtain⟨b,cap,c,f,rfl,hL,hcl,hle,hr,hbb,hff⟩:=Qf_ ha (i:=i) hb xN;obtain⟨ds,⟨q1,q2,q3⟩,q4⟩:=row_at hr ha';have ho:o<k:=by rw[<- q1];exact (List.getElem?_eq_some_iff.1 hp).1
 obtain⟨v,hv⟩:∃ v,ds[o]? = some v:=⟨_,A9 (by rw[q2.1,q1];exact ho)⟩;have hs:=q2.2 o p v hp hv;have hg:=(At_ ht hti).ag;rw[hag] at hg;exact Du_ hd (A2_ h1.inv_val hg hL (by rw[hoff];show (f++c)[f.length+m*k+o]? = _;rw[Nat.add_assoc,AT xN,BX,q4 o ho];exact hv)) ⟨.refl H,λ_ _=>rfl,_,ha.put d (hs.simT hn),kk hs.wf⟩
end Go.SW.V
namespace Go.SW
variable{P:Program}{n:Nat}{N:Rest}{H0:Env}{Q:Qs}{ks:List Kt}{s:St}
end Go.SW
namespace Go.SW
variable{P:Program}{n:Nat}{N:Rest}{H0:Env}{all:List Oper}{Q:Qs}{ks:List Kt}{s:St}
end Go.SW
namespace Go.SW.V
open Go.SW
variable{P:Program}{n:Nat}{N:Rest}{H0:Env}{all:List Oper}{Q:Qs}{ks:List Kt}{fF:Nat->PV}{fL:Nat->Blk}
end Go.SW.V
namespace Go.SW
variable{P:Program}{n:Nat}{N:Rest}{H0:Env}{all:List Oper}{Q:Qs}{ks:List Kt}{s:St}
end Go.SW
namespace Go.SW.V
open Go.SW
variable{P:Program}{n:Nat}{N:Rest}{H0:Env}{all:List Oper}{Q:Qs}{ks:List Kt}{fF:Nat->PV}{fL:Nat->Blk}
end Go.SW.V
namespace Go.SW.V
open Go.SW
variable{P:Program}{n:Nat}{N:Rest}{H0:Env}{all:List Oper}{Q:Qs}{ks:List Kt}{fF:Nat->PV}{fL:Nat->Blk}{T ty:Nat}{x y:Operand}
end Go.SW.V
namespace Go.SW
variable{P:Program}{n:Nat}{N:Rest}{H0:Env}{all rest:List Oper}{Q:Qs}{ks:List Kt}{s:St}{T ty d:Nat}{pos:String}{af:Array Edge}{x y:Operand}{K:St->Prop}{op:Op}{p:PV}
end Go.SW
namespace Go.SW.V
open Go.SW
variable{P:Program}{n:Nat}{N:Rest}{H0:Env}{ks:List Kt}{fF:Nat->PV}{fL:Nat->Blk}{tb:Tb}{rs:List ResultVar}{res p q r t u:PV}{as0 bs:List Nat}
end Go.SW.V
namespace Go.SW.V
open Go.SW
variable{P:Program}{n:Nat}{N:Rest}{H0:Env}{all rest:List Oper}{Q:Qs}{ks:List Kt}{fF:Nat->PV}{fL:Nat->Blk}{T ty d:Nat}{pos:String}{af:Array Edge}{x y z:Operand}{K:St->Prop}
structure EfR where
 F:Nat->PV
 L:Nat->Blk
 eq:Option (Nat×Nat)
def mkE(tb:Tb)(n:Nat)(i b:Nat)(F:Nat->PV)(L:Nat->Blk)(o:Oper):Option EfR:=
 match o.guard with
 |some _=>none
 |none=>match o.dst with
   |none=>none
   |some d=>match AC d n with
     |false=>none
     |true=>match o.op with
       | .alloc T=>match lkT tb T with
         |some ti=>match evL ti.zero with
           |some zs=>match Ao_ zs with
             |true=>some ⟨updp F d (.own i b 0),lups L i (.box b T zs),none⟩
             |false=>none
           |none=>none
         |none=>none
       | .box T x=>match evP F x with
         | .agg cs=>match Ao_ cs with
           |true=>some ⟨updp F d (.own i b 0),lups L i (.box b T cs),none⟩
           |false=>none
         |v=>match evS v with
           |some p=>match p.one with
             |true=>some ⟨updp F d (.own i b 0),lups L i (.box b T [p]),none⟩
             |false=>none
           |none=>none
       |_=>none
def stE(tb:Tb)(F:Nat->PV)(L:Nat->Blk)(o:Oper):Option EfR:=
 match o.guard with
 |some _=>none
 |none=>match o.dst with
   |some _=>none
   |none=>match o.op with
     | .store T x y=>match evP F x with
       | .own i b off=>match L i with
         | .box b' T0 cs=>match lkT tb T with
           |some ti=>match evP F y with
             | .agg ps=>match Ao_ ps with
               |true=>match all1 ps with
                 |true=>match A3 ps.length ti.size with
                   |true=>match Nat.ble (off+ti.size) cs.length with
                     |true=>match evL (cs.take off++(ps++cs.drop (off+ti.size))) with
                       |some cs'=>some ⟨F,lups L i (.box b T0 cs'),some (b',b)⟩
                       |none=>none
                     |false=>none
                   |false=>none
                 |false=>none
               |false=>none
             |v=>match A3 ti.size 1 with
               |true=>match evS v with
                 |some p=>match p.one with
                   |true=>match AC off cs.length with
                     |true=>match evL (cs.set off p) with
                       |some cs'=>some ⟨F,lups L i (.box b T0 cs'),some (b',b)⟩
                       |none=>none
                     |false=>none
                   |false=>none
                 |none=>none
               |false=>none
           |none=>none
         |_=>none
       |_=>none
     |_=>none
def kindE(o:Op):Nat:=
 match o with
 | .alloc _=>0
 | .box _ _=>0
 | .store _ _ _=>1
 |_=>2
def runE(tb:Tb)(n:Nat):Nat->List Nat->(Nat->Nat)->Cf->List Kt->(Nat->PV)->(Nat->Blk)->List Prop->List Nat->List Nat->Option RR
 |0,_,_,c,ks,F,L,ps,as0,bs=>frcP ps λps=>frcN as0 λas0=>frcN bs λbs=>some ⟨c,ks,F,L,ps,as0,bs⟩
 |k+1,is,B,c,ks,F,L,ps,as0,bs=>
   match c with
   | .ops all (o::rest)=>match kindE o.op with
     |0=>match is with
       |[]=>none
       |i::is=>match mkE tb n i (B 0) F L o with
         |some ⟨F,L,_⟩=>runE tb n k is (λi=>B (i+1)) (.ops all rest) ks F L ps as0 bs
         |none=>none
     |1=>match stE tb F L o with
       |some ⟨F,L,e⟩=>match e with
         |some (a,b)=>runE tb n k is B (.ops all rest) ks F L ps (a::as0) (b::bs)
         |none=>none
       |none=>none
     |_=>match run tb n 1 (.ops all (o::rest)) ks F L ps as0 bs with
       |some ⟨c,ks,F,L,ps,as0,bs⟩=>runE tb n k is B c ks F L ps as0 bs
       |none=>none
   |c=>match run tb n 1 c ks F L ps as0 bs with
     |some ⟨c,ks,F,L,ps,as0,bs⟩=>runE tb n k is B c ks F L ps as0 bs
     |none=>none
theorem mkE_ok{tb:Tb}(ht:tbB P tb=true){i:Nat}{F:Nat->PV}{L:Nat->Blk}{o:Oper}(h:∀ b,∃ r,mkE tb n i b F L o=some r/\Hd P n N H0 Q (.ops all rest) ks ⟨r.F,r.L⟩):Hd P n N H0 Q (.ops all (o::rest)) ks ⟨F,L⟩:=by
 obtain⟨dst,op,ty,pos,af,g⟩:=o;have h0:=h 0
 cases g with
 |some q=>obtain⟨r,h1,_⟩:=h0;simp[mkE] at h1
 |none=>
   cases dst with
   |none=>obtain⟨r,h1,_⟩:=h0;simp[mkE] at h1
   |some d=>
     cases hd:AC d n with
     |false=>obtain⟨r,h1,_⟩:=h0;simp[mkE,hd] at h1
     |true=>
       cases op with
       |alloc T=>
         simp only[mkE,hd] at h
         cases hti:lkT tb T with
         |none=>rw[hti] at h;obtain⟨r,h1,_⟩:=h 0;simp at h1
         |some ti=>
           rw[hti] at h
           simp only at h
           cases hz:evL ti.zero with
           |none=>rw[hz] at h;obtain⟨r,h1,_⟩:=h 0;simp at h1
           |some zs=>
             rw[hz] at h
             simp only at h
             cases hn:Ao_ zs with
             |false=>rw[hn] at h;obtain⟨r,h1,_⟩:=h 0;simp at h1
             |true=>
               rw[hn] at h
               refine ef (alloc ht i hti hz hn hd λb=>?_)
               obtain⟨r,h1,h2⟩:=h b
               simp only[Option.some.injEq] at h1
               subst h1;exact h2
       |box T x=>
         simp only[mkE,hd] at h
         split at h
         . rename_i cs hx
           cases hn:Ao_ cs with
           |false=>rw[hn] at h;obtain⟨r,h1,_⟩:=h 0;simp at h1
           |true=>
             rw[hn] at h
             refine ef (boxA i hx hn hd λb=>?_)
             obtain⟨r,h1,h2⟩:=h b
             simp only[Option.some.injEq] at h1
             subst h1;exact h2
         . cases hs:evS (evP F x) with
           |none=>rw[hs] at h;obtain⟨r,h1,_⟩:=h 0;simp at h1
           |some p=>
             rw[hs] at h
             simp only at h
             cases ho:p.one with
             |false=>rw[ho] at h;obtain⟨r,h1,_⟩:=h 0;simp at h1
             |true=>
               rw[ho] at h
               refine ef (box1 i hs ho hd λb=>?_)
               obtain⟨r,h1,h2⟩:=h b
               simp only[Option.some.injEq] at h1
               subst h1;exact h2
       |_=>obtain⟨r,h1,_⟩:=h0;simp[mkE,hd] at h1
theorem stE_ok{tb:Tb}(ht:tbB P tb=true){F:Nat->PV}{L:Nat->Blk}{o:Oper}{r:EfR}(h:stE tb F L o=some r)(he:∀ q,r.eq=some q->q.1=q.2)(k:Hd P n N H0 Q (.ops all rest) ks ⟨r.F,r.L⟩):Hd P n N H0 Q (.ops all (o::rest)) ks ⟨F,L⟩:=by
 obtain⟨dst,op,ty,pos,af,g⟩:=o
 cases g with
 |some q=>simp[stE] at h
 |none=>
   cases dst with
   |some d=>simp[stE] at h
   |none=>
     cases op with
     |store T x y=>
       simp only[stE] at h
       split at h
       . rename_i i b off hx
         split at h
         . rename_i b' T0 cs hb
           split at h
           . rename_i ti hti
             split at h
             . rename_i ps hy
               split at h
               . rename_i hn
                 split at h
                 . rename_i ho
                   split at h
                   . rename_i hsz
                     split at h
                     . rename_i hl
                       split at h
                       . rename_i cs' hc
                         simp only[Option.some.injEq] at h
                         subst h
                         exact ef (storeA ht hx hb hti hy hn ho (A0 hsz) hl (he _ Y) hc k)
                       . cases h
                     . cases h
                   . cases h
                 . cases h
               . cases h
             . split at h
               . rename_i hsz
                 split at h
                 . rename_i p hs
                   split at h
                   . rename_i ho
                     split at h
                     . rename_i hl
                       split at h
                       . rename_i cs' hc
                         simp only[Option.some.injEq] at h
                         subst h
                         exact ef (store1 ht hx hb hti (A0 hsz) hs ho hl (he _ Y) hc k)
                       . cases h
                     . cases h
                   . cases h
                 . cases h
               . cases h
           . cases h
         . cases h
       . cases h
     |_=>simp[stE] at h
def okR(P:Program)(n:Nat)(N:Rest)(H0:Env)(Q:Qs)(r:RR):Prop:=AllP r.ps/\r.as0=r.bs/\Hd P n N H0 Q r.c r.ks ⟨r.F,r.L⟩
theorem Iv_{tb:Tb}(ht:tbB P tb=true):∀ (k:Nat) (is:List Nat) (c:Cf) (ks:List Kt) (F:Nat->PV) (L:Nat->Blk) (ps:List Prop) (as0 bs:List Nat),(∀ B:Nat->Nat,∃ r,runE tb n k is B c ks F L ps as0 bs=some r/\okR P n N H0 Q r)->AllP ps/\as0=bs/\Hd P n N H0 Q c ks ⟨F,L⟩:=by
 intro k
 induction k with
 |zero=>
   intro is c ks F L ps as0 bs h
   obtain⟨r,h1,h2,h3,h4⟩:=h (λ_=>0)
   simp only[runE,Er_,Gk_,Option.some.injEq] at h1
   subst h1
   exact⟨h2,h3,h4⟩
 |succ k ih=>
   intro is c ks F L ps as0 bs h
   have one:(∀ B:Nat->Nat,∃ r,(match run tb n 1 c ks F L ps as0 bs with
       |some ⟨c,ks,F,L,ps,as0,bs⟩=>runE tb n k is B c ks F L ps as0 bs
       |none=>none)=some r/\okR P n N H0 Q r)->AllP ps/\as0=bs/\Hd P n N H0 Q c ks ⟨F,L⟩:=by
     intro h
     cases hr:run tb n 1 c ks F L ps as0 bs with
     |none=>obtain⟨r,h1,_⟩:=h (λ_=>0);rw[hr] at h1;cases h1
     |some q=>
       obtain⟨c',ks',F',L',ps',as',bs'⟩:=q
       obtain⟨i1,i2,i3⟩:=ih is c' ks' F' L' ps' as' bs' (λB=>by obtain⟨r,h1,h2⟩:=h B;rw[hr] at h1;exact⟨r,h1,h2⟩)
       obtain⟨j1,j2,j3⟩:=Ny_ ht (Q:=Q) (N:=N) (H0:=H0) 1 c ks F L ps as0 bs _ hr i1 i2
       exact⟨j1,j2,j3 i3⟩
   cases c with
   |code c=>exact one h
   |ex e=>exact one h
   |ops all l=>
     cases l with
     |nil=>exact one h
     |cons o rest=>
       simp only[runE] at h
       split at h
       . cases is with
         |nil=>obtain⟨r,h1,_⟩:=h (λ_=>0);cases h1
         |cons i is=>
           have hb:∀ b,∃ r,mkE tb n i b F L o=some r/\AllP ps/\as0=bs/\Hd P n N H0 Q (.ops all rest) ks ⟨r.F,r.L⟩:=by
             intro b
             cases hm:mkE tb n i b F L o with
             |none=>obtain⟨r,h1,_⟩:=h (λ_=>b);simp only[hm] at h1;cases h1
             |some q=>
               obtain⟨F',L',e⟩:=q
               refine⟨_,rfl,ih is (.ops all rest) ks F' L' ps as0 bs λB=>?_⟩
               obtain⟨r,h1,h2⟩:=h (λj=>match j with|0=>b|j+1=>B j)
               simp only[hm] at h1
               exact⟨r,h1,h2⟩
           obtain⟨_,_,q1,q2,_⟩:=hb 0
           exact⟨q1,q2,mkE_ok ht λb=>by obtain⟨r,h1,_,_,h2⟩:=hb b;exact⟨r,h1,h2⟩⟩
       . cases hs:stE tb F L o with
         |none=>obtain⟨r,h1,_⟩:=h (λ_=>0);rw[hs] at h1;cases h1
         |some q=>
           obtain⟨F',L',e⟩:=q
           cases e with
           |none=>obtain⟨r,h1,_⟩:=h (λ_=>0);rw[hs] at h1;cases h1
           |some ab=>
             obtain⟨a,b⟩:=ab
             obtain⟨i1,i2,i3⟩:=ih is (.ops all rest) ks F' L' ps (a::as0) (b::bs) (λB=>by obtain⟨r,h1,h2⟩:=h B;rw[hs] at h1;exact⟨r,h1,h2⟩)
             simp only[List.cons.injEq] at i2
             exact⟨i1,i2.2,stE_ok ht hs (λq hq=>by cases hq;exact i2.1) i3⟩
       . exact one h
theorem gmp{tb:Tb}(ht:tbB P tb=true)(k:Nat)(is:List Nat){c c':Cf}{ks':List Kt}{F':(Nat->Nat)->Nat->PV}{L':(Nat->Nat)->Nat->Blk}{ps:(Nat->Nat)->List Prop}{as0 bs:(Nat->Nat)->List Nat}(h:∀ B,runE tb n k is B c ks fF fL [] [] []=some ⟨c',ks',F' B,L' B,ps B,as0 B,bs B⟩)(he:∀ B,as0 B=bs B)(hp:∀ B,AllP (ps B))(next :∀ B:Nat->Nat,Hd P n N H0 Q c' ks' ⟨F' B,L' B⟩):Hd P n N H0 Q c ks ⟨fF,fL⟩:=
 (Iv_ ht k is c ks fF fL [] [] [] λB=>⟨_,h B,hp B,he B,next B⟩).2.2
theorem gx{tb:Tb}(ht:tbB P tb=true)(k:Nat){c c':Cf}{ks':List Kt}{F':Nat->PV}{L':Nat->Blk}{as0 bs:List Nat}(next :Hd P n N H0 Q c' ks' ⟨F',L'⟩)(h:run tb n k c ks fF fL [] [] []=some ⟨c',ks',F',L',[],as0,bs⟩:=by exact Y)(he:as0=bs:=by exact Y):Hd P n N H0 Q c ks ⟨fF,fL⟩:=go ht k h he Z next
theorem gm{tb:Tb}(ht:tbB P tb=true)(k:Nat)(is:List Nat){c c':Cf}{ks':List Kt}{F':(Nat->Nat)->Nat->PV}{L':(Nat->Nat)->Nat->Blk}{as0 bs:(Nat->Nat)->List Nat}(next :∀ B:Nat->Nat,Hd P n N H0 Q c' ks' ⟨F' B,L' B⟩)(h:∀ B,runE tb n k is B c ks fF fL [] [] []=some ⟨c',ks',F' B,L' B,[],as0 B,bs B⟩:=by exact λ_=>rfl)(he:∀ B,as0 B=bs B:=by exact λ_=>rfl):Hd P n N H0 Q c ks ⟨fF,fL⟩:=gmp ht k is h he (λ_=>trivial) next
abbrev jIn(xs:List Nat)(j:Option Nat):Bool:=match j with|none=>true|some j=>memB xs j
theorem sO{tb:Tb}{ti:TI}{i b b' off T0:Nat}{cs cs':List PV}{p:PV}(ht:tbB P tb=true)(k:K ⟨fF,lups fL i (.box b T0 cs')⟩)(hx:evP fF x = .own i b off:=by exact Y)(hb:fL i = .box b' T0 cs:=by exact Y)(hti:lkT tb T=some ti:=by exact Y)(hsz:ti.size=1:=by exact Y)(hy:evS (evP fF y)=some p:=by exact Y)(ho:p.one=true:=by exact Y)(hl:Nat.blt off cs.length=true:=by exact Y)(hbb:b'=b:=by exact Y)(hc:evL (cs.set off p)=some cs':=by exact Y):E1 P n N H0 all ⟨none, .store T x y,ty,pos,af,none⟩ (some i) ⟨fF,fL⟩ K:=store1 ht hx hb hti hsz hy ho hl hbb hc k
theorem eC{f:FuncId}{args:List PV}{res:PV}{as0:Array Operand}{ats:Array TypeId}(h:Fn P H0.g f args res)(ha:argsP fF x as0.toList=some (f,args))(k:res.wf->K ⟨updp fF d res,fL⟩)(hd:Nat.blt d n=true:=by exact Y):E1 P n N H0 all ⟨some d, .call ⟨.value x,as0,ats⟩,ty,pos,af,none⟩ none ⟨fF,fL⟩ K:=ecall h ha hd k
theorem vE{xs:List Nat}{fuel:Nat}{listed:Array Bool}{o:Oper}{j:Option Nat}(i:Nat)(hi:nth all i=some o)(h:E1 P n N H0 all o j ⟨fF,fL⟩ (λs'=>Hv P n N H0 Q (some xs) all fuel (listed.setIfInBounds i true) ks s'))(hr:Region.ready .any all.toArray listed=[i]:=by kernel_rfl)(hj:jIn xs j=true:=by exact Y):Hv P n N H0 Q (some xs) all (fuel+1) listed ks ⟨fF,fL⟩:=ve i hi hr hj h
theorem vD{xs:Option (List Nat)}{fuel:Nat}{listed:Array Bool}(k:Hd P n N H0 Q (.ex .normal) ks ⟨fF,fL⟩)(h:Region.ready .any all.toArray listed=[]:=by kernel_rfl):Hv P n N H0 Q xs all fuel listed ks ⟨fF,fL⟩:=vdone h k
theorem aN(xs:List Nat)(m:Nat){id:Nat}{ops:Array Oper}(hmx:P.follows .mixedOrders=true)(h:Hv P n N H0 Q (some xs) ops.toList m (Array.replicate m false) ks ⟨fF,fL⟩)(hm:ops.toList.length=m:=by exact Y):Hd P n N H0 Q (.code (.region id ops true)) ks ⟨fF,fL⟩:=any xs m hmx hm h
theorem gX{tb:Tb}(ht:tbB P tb=true)(order:List Nat)(f:Nat){xs:Option (List Nat)}{fuel:Nat}{listed:Array Bool}{F':Nat->PV}{L':Nat->Blk}{as0 bs:List Nat}(next :Hv P n N H0 Q xs all f (lst listed order) ks ⟨F',L'⟩)(hf:fuel=f+order.length:=by exact Y)(hc:chkV n all order listed=true:=by kernel_rfl)(h:runV tb xs all order fF fL [] [] []=some ⟨F',L',[],as0,bs⟩:=by exact Y)(he:as0=bs:=by exact Y):Hv P n N H0 Q xs all fuel listed ks ⟨fF,fL⟩:=gov ht order f hf hc h he Z next
theorem vC{xs:Option (List Nat)}{fuel:Nat}{listed:Array Bool}{f:FuncId}{args:List PV}{res:PV}{as0:Array Operand}{ats:Array TypeId}(i:Nat)(hi:nth all i=some ⟨some d, .call ⟨.value x,as0,ats⟩,ty,pos,af,none⟩)(h:Fn P H0.g f args res)(ha:argsP fF x as0.toList=some (f,args))(k:res.wf->Hv P n N H0 Q xs all fuel (listed.setIfInBounds i true) ks ⟨updp fF d res,fL⟩)(hck:(rdB all listed i&&apB n all listed i ⟨some d, .call ⟨.value x,as0,ats⟩,ty,pos,af,none⟩&&Nat.blt d n&&nosB (.call ⟨.value x,as0,ats⟩))=true:=by kernel_rfl)(hf:res.flat=true:=by exact Y):Hv P n N H0 Q xs all (fuel+1) listed ks ⟨fF,fL⟩:=vcall i hi hck h hf ha k
theorem nX{ι:Type _}{keep kL:List Nat}{G:Nat->PV}{GL:Nat->Blk}{lv:ι->List (Nat×PV)}{lL:ι->List (Nat×Blk)}{Φ:ι->Prop}{μ:ι->Nat}{m:Nat}{ks:List Kt}{Q:Qs}(x':ι)(hΦ:Φ x')(h3:AllF fF (lv x'))(h4:AllL fL (lL x'))(h1:keep.map fF=keep.map G:=by exact Y)(h2:kL.map fL=kL.map GL:=by exact Y)(hm:μ x'<m:=by decide):Hd P n N H0 Q (.ex .normal) (.lp (LJ (λx=>⟨mkF (lv x) keep G,mkL (lL x) kL GL⟩) Φ μ m)::ks) ⟨fF,fL⟩:=next x' h1 h2 h3 h4 hm hΦ
theorem cE{α:Type}{v a b:α}{c:Operand}{p q:Code}{t:Bool}(e:v = bif t then a else b)(ht:t=true->v=a->Hd P n N H0 Q (.code p) ks ⟨fF,fL⟩)(hf:t=false->v=b->Hd P n N H0 Q (.code q) ks ⟨fF,fL⟩)(hc:evP fF c = .bool t:=by exact Y):Hd P n N H0 Q (.code (.cond c p q)) ks ⟨fF,fL⟩:=cnd hc (λh=>ht h (e.trans (by rw[h];rfl))) (λh=>hf h (e.trans (by rw[h];rfl)))
theorem cD{α:Type}{v a b:α}{c:Operand}{p q:Code}{t:Prop}[Decidable t](e:v = bif decide t then a else b)(ht:t->v=a->Hd P n N H0 Q (.code p) ks ⟨fF,fL⟩)(hf:¬t->v=b->Hd P n N H0 Q (.code q) ks ⟨fF,fL⟩)(hc:evP fF c = .bool (decide t):=by exact Y):Hd P n N H0 Q (.code (.cond c p q)) ks ⟨fF,fL⟩:=cE e (λh=>ht (of_decide_eq_true h)) (λh=>hf (of_decide_eq_false h)) hc
theorem cN{α:Type}{v a b:α}{c:Operand}{p q:Code}{t:Prop}[Decidable t](e:v = bif !decide t then a else b)(ht:¬t->v=a->Hd P n N H0 Q (.code p) ks ⟨fF,fL⟩)(hf:t->v=b->Hd P n N H0 Q (.code q) ks ⟨fF,fL⟩)(hc:evP fF c = .bool (!decide t):=by exact Y):Hd P n N H0 Q (.code (.cond c p q)) ks ⟨fF,fL⟩:=cE e (λh=>ht xY) (λh=>hf xY) hc
theorem fC{tb:Tb}{G:Gb}{m:Nat}{f:FuncId}{fn:Func}{c:Code}{args:List PV}{res:PV}(hf:P.funcs[f]? = some fn)(ht:tbB P tb=true)(hn:fn.ntmps=m)(h:PV.wfs args->∀ N H,G.p H->Hd P m N ⟨H,G⟩ (rtK tb fn.results.toList res) (.code c) [] ⟨L9_ args,λ_=> .no⟩)(hb:fn.body=some c:=by exact Y)(hs:Nat.ble args.length m=true:=by exact Y)(h1:(fn.name == "runtime.NumGoroutine")=false:=by kernel_rfl)(h2:fn.body.isNone=false:=by kernel_rfl)(hno:res.noOsl=true:=by exact Y)(hna:Ao_ args=true:=by exact Y):Fn P G f args res:=fn_cw ht hf hb hn hs (Ak_ hf h1 h2) hno hna h
variable{tb:Tb}{rs:List ResultVar}{as0 bs:List Nat}{res q0 q1 q2 q3:PV}
theorem qr1(h:Gu_ tb ⟨fF,fL⟩ rs=some ([q0],as0,bs):=by exact Y)(he:as0=bs:=by exact Y)(hp:PLe q0 res:=by exact ple Y):Hd P n N H0 (rtK tb rs res) (.ex .ret) [] ⟨fF,fL⟩:=rt1 h he hp
theorem cV{α β:Type}{v:β}{g:α}{kf:α->β}{f:FuncId}{args:List PV}{xs:Array Operand}{ats:Array TypeId}(e:v=lt g kf)(enc:α->PV)(h:Fn P H0.g f args (enc g))(ha:argsP fF x xs.toList=some (f,args))(k:∀ r,r=g->v=kf r->(enc r).wf->Hd P n N H0 Q (.ops all rest) ks ⟨updp fF d (enc r),fL⟩)(hd:Nat.blt d n=true:=by exact Y):Hd P n N H0 Q (.ops all (⟨some d, .call ⟨.value x,xs,ats⟩,ty,pos,af,none⟩::rest)) ks ⟨fF,fL⟩:=
 callv g enc h ha hd λr hr w=>k r hr (e.trans (lt_eq hr)) w
theorem gy{tb:Tb}(ht:tbB P tb=true)(k:Nat){c c':Cf}{ks':List Kt}{F':Nat->PV}{L':Nat->Blk}{ps:List Prop}{as0 bs:List Nat}(next :Hd P n N H0 Q c' ks' ⟨F',L'⟩)(h:run tb n k c ks fF fL [] [] []=some ⟨c',ks',F',L',ps,as0,bs⟩:=by exact Y)(he:as0=bs:=by exact Y)(hp:AllP ps:=by repeat' (first|exact Z|refine And.intro ?_ ?_|exact λhc=>hc|exact Y|exact λhc=>rfl|omega|(intro hc;omega)|(intro hc;rw[hc];rfl))):Hd P n N H0 Q c ks ⟨fF,fL⟩:=go ht k h he hp next
theorem gmy{tb:Tb}(ht:tbB P tb=true)(k:Nat)(is:List Nat){c c':Cf}{ks':List Kt}{F':(Nat->Nat)->Nat->PV}{L':(Nat->Nat)->Nat->Blk}{ps:(Nat->Nat)->List Prop}{as0 bs:(Nat->Nat)->List Nat}(next :∀ B:Nat->Nat,Hd P n N H0 Q c' ks' ⟨F' B,L' B⟩)(h:∀ B,runE tb n k is B c ks fF fL [] [] []=some ⟨c',ks',F' B,L' B,ps B,as0 B,bs B⟩:=by exact λ_=>rfl)(he:∀ B,as0 B=bs B:=by exact λ_=>rfl)(hp:∀ B,AllP (ps B):=by intro B;repeat' (first|exact Z|refine And.intro ?_ ?_|exact λhc=>hc|exact Y|exact λhc=>rfl|omega|(intro hc;omega)|(intro hc;rw[hc];rfl))):Hd P n N H0 Q c ks ⟨fF,fL⟩:=gmp ht k is h he hp next
theorem gXy{tb:Tb}(ht:tbB P tb=true)(order:List Nat)(f:Nat){xs:Option (List Nat)}{fuel:Nat}{listed:Array Bool}{F':Nat->PV}{L':Nat->Blk}{ps:List Prop}{as0 bs:List Nat}(next :Hv P n N H0 Q xs all f (lst listed order) ks ⟨F',L'⟩)(hf:fuel=f+order.length:=by exact Y)(hc:chkV n all order listed=true:=by kernel_rfl)(h:runV tb xs all order fF fL [] [] []=some ⟨F',L',ps,as0,bs⟩:=by exact Y)(he:as0=bs:=by exact Y)(hp:AllP ps:=by repeat' (first|exact Z|refine And.intro ?_ ?_|exact λhc=>hc|exact Y|exact λhc=>rfl|omega|(intro hc;omega)|(intro hc;rw[hc];rfl))):Hv P n N H0 Q xs all fuel listed ks ⟨fF,fL⟩:=gov ht order f hf hc h he hp next
end Go.SW.V
namespace Go.SW
open Go.RowKit
def cuts(p:UInt8):Bs->List Bs
 |[]=>[[]]
 |c::r=>if c=p then []::cuts p r else match cuts p r with
   |[]=>[[c]]
   |w::t=>(c::w)::t
theorem E9_(p:UInt8):∀ s:Bs,Lib.splitK [p] 0 (Lib.count s [p]) s=cuts p s
 |[]=>by rw[D3 (by simp[AW])];rfl
 |b::l=>by
   have ih:=E9_ p l
   by_cases hb:b=p
   . subst hb
     rw[FP,H3]
     have hix:AW (b::l) [b]=0:=by rw[AW];simp[CO]
     unfold EA cuts
     rw[hix]
     simp[ih]
   . rw[FQ _ _ _ hb]
     have hp:([p]:List UInt8).isPrefixOf (b::l)=false:=by simp[CO,Ne.symm hb]
     have hix:AW (b::l) [p] = if AW l [p] == -1 then -1 else AW l [p]+1:=by rw[AW,hp];simp
     unfold cuts
     rw[if_neg hb,<- ih]
     cases hc:ET l [p] with
     |zero=>rfl
     |succ k=>
       unfold EA
       rw[hix]
       by_cases hm:AW l [p] = -1
       . rw[D3 hm] at hc;cases hc
       . have hge:=H4 l [p]
         obtain⟨j,hj⟩:∃ j:Nat,AW l [p]=j:=⟨(AW l [p]).toNat,by omega⟩
         exact yO
theorem E7_(p:UInt8)(s:Bs):(Lib.splitB ⟨#[p]⟩ 0 (Lib.countB ⟨s.toArray⟩ ⟨#[p]⟩) ⟨s.toArray⟩).map Value.string=(cuts p s).map str:=by
 have h:=G8 ⟨#[p]⟩ 0 (CP ⟨s.toArray⟩ ⟨#[p]⟩) ⟨s.toArray⟩;have hc:CP ⟨s.toArray⟩ ⟨#[p]⟩=ET s [p]:=by simp[CP]
 rw[hc] at h ⊢;have e:=E9_ p s;exact yU
theorem Iz_(p:UInt8)(s:Bs):Lib.countB ⟨s.toArray⟩ ⟨#[p]⟩+1=(cuts p s).length:=by
 have h:=congrArg EB (E7_ p s);rw[BI,BI,GG ⟨#[p]⟩ (by simp[ByteArray.size]) 0 _ _ rfl] at h;exact h
theorem Dj_(p:UInt8):∀ (s w:Bs),w∈cuts p s->w.length<=s.length
 |[],w,h=>by simp[cuts] at h;simp[h]
 |c::r,w,h=>by
   unfold cuts at h
   split at h
   . rcases List.mem_cons.1 h with rfl|h
     . simp
     . have :=Dj_ p r w h;simp;omega
   . split at h
     . simp at h;subst h;simp
     . rename_i x t e
       have ih:=Dj_ p r
       rw[e] at ih
       rcases List.mem_cons.1 h with rfl|h
       . have :=ih x xP;simp;omega
       . have :=ih w (by simp[h]);simp;omega
def dec(s:Bs):Nat:=match Lib.parseUintB 64 s with| .ok n=>n|_=>0
theorem Mem.below{N:Rest}{H:Hp}{L:Ls}{w w':World}(hm:Mem N H L w)(hb:Below w.heap.size w w'):Mem N H L w':=
 hm.of_same hb.os hb.tape hb.output λc o ho=>by
   exact yN
variable{P:Program}
theorem join_fn{G:Gb}{f:FuncId}(cb:S_ P f)
   (hN:∀ (a:Option Addr) (c:Nat) (sep:ByteArray) (w:World),Calls P f #[.slice a 0 c, .string sep] w λe w'=>e = .returned (.string ⟨#[]⟩)/\w'=w)
   (hJ:∀ (bk o c:Nat) (xs:List ByteArray) (sep:ByteArray) (w:World),(∀ (j:Nat) x,xs[j]? = some x->w.cell? ⟨bk,o+j,none⟩=some (.string x))->bk<w.heap.size->xs.length<=140737488355328->xs.length<=c ->
     (Go.Lib.join (xs.map (·.data.toList)) sep.data.toList).length<=140737488355328 ->
     Calls P f #[.slice (some ⟨bk,o,none⟩) xs.length c, .string sep] w λe w'=>e = .returned (.string ⟨(Go.Lib.join (xs.map (·.data.toList)) sep.data.toList).toArray⟩)/\Below w.heap.size w w')
   (xs:List Bs) (sep:Bs) (hl:(V.joinB xs sep).length<=140737488355328):Fn P G f [.sl strc xs, .str sep] (.str (V.joinB xs sep)):=by
 refine⟨cb,rfl,λN H L w us hg hsim hm=>?_⟩
 obtain⟨v1,_,rfl,h1,h2⟩:=hsim.inv_cons
 obtain⟨v2,_,rfl,h3,h4⟩:=h2.inv_cons
 cases h4.inv_nil
 rw[h3.inv_str.1]
 obtain⟨k,⟨⟨a,c,rfl,hc⟩,hx⟩,hb⟩:=h1.slh
 have fin:∀ e w',(e = .returned (str (V.joinB xs sep))/\Below w.heap.size w w')->∃ v H',e=Ending.returned v/\Sim H' (.str (V.joinB xs sep)) v/\HLe H H'/\Mem N H' L w':=λe w' ⟨he,hb⟩=>⟨_,H,he,Sim.str xN, .refl H,Mem.below hm hb⟩
 cases xs with
 |nil=>exact (hN a c _ w).mono λe w' ⟨he,hw⟩=>fin e w' ⟨by rw[he];rfl,hw ▸ Below.refl _ _⟩
 |cons x r=>
   obtain⟨cs,hE,b,off,l,cap,c',T,fr,e1,e2,e3,e4⟩:=hx 0 xP
   obtain rfl :k=1:=hE.1.symm
   have e1':=e1
   injection e1' with e5 e6 e7
   subst e5
   have hbk:b<w.heap.size:=by
     have :=hm.h _ _ e2
     by_cases q:b<w.heap.size
     . exact q
     . rw[Array.getElem?_eq_none xN] at this;cases this
   have hcell:∀ (j:Nat) y,((x::r).map λs:Bs=>(⟨s.toArray⟩:ByteArray))[j]? = some y->w.cell? ⟨b,off+j,none⟩=some (.string y):=λj y hy=>by
     rw[AR] at hy
     cases hz:(x::r)[j]? with
     |none=>rw[hz] at hy;cases hy
     |some z=>
       rw[hz] at hy;cases hy
       obtain⟨hj,rfl⟩:=List.getElem?_eq_some_iff.1 hz
       obtain⟨ds,hF,hs⟩:=hx j hj
       obtain⟨v,hv,hsv⟩:=hF.2.1.get (i:=0) (p:= .str (x::r)[j]) Y
       have :=hm.cellAt hs hv
       simp only[sBlk,sOff,Nat.mul_one,Nat.add_zero] at this
       rw[this,hsv.inv_str.1];rfl
   have hmm:((x::r).map λs:Bs=>(⟨s.toArray⟩:ByteArray)).map (·.data.toList)=x::r:=by
     rw[List.map_map];exact List.map_id'' (λ_=>rfl) _
   have :=hJ b off c ((x::r).map λs:Bs=>(⟨s.toArray⟩:ByteArray)) ⟨sep.toArray⟩ w hcell hbk (by rw[BI];exact hb) (by rw[BI];exact hc) (by rw[hmm];rw[V.joinB_eq] at hl;exact hl)
   rw[hmm,BI] at this
   refine this.mono λe w' ⟨he,hw⟩=>fin e w' ⟨by rw[he,V.joinB_eq];rfl,hw⟩
end Go.SW
namespace Go.SW.V
open Go.SW
def Ai_:(List Bs):=
 rplW
def U_(s:Bs):Bs:=
 (bif decide (s=[]) then
 [46]
 else s)
def A_(n:Int):Bs:=
 (decB n)
def A3_(s:Bs):Bs:=
 (bif decide (s=[]) then
 [46]
 else s)
def Bg_(client:Int)(r:Reply):Bs:=
 lt (Ai_) λr1=>
 (lt1 ((bif decide (r.kind=0) then
 ([(A_ client),(A_ r.channel),(gt r1 (((AA .u8 ((A4 (A5 .u8) r.kind &&& A4 (A5 .u8) 7).toNat))).toNat))]++[r.name])
 else (lt1 ((bif decide (r.kind=2) then
 (decide (r.kind=2))
 else (bif decide (r.kind=5) then
 (decide (r.kind=5))
 else (decide (r.kind=7))))) (λv=>
 (bif v then
 lt (A_ r.n) λr2=>
 ([(A_ client),(A_ r.channel),(gt r1 (((AA .u8 ((A4 (A5 .u8) r.kind &&& A4 (A5 .u8) 7).toNat))).toNat))]++[r2])
 else (bif decide (r.kind=6) then
 ([(A_ client),(A_ r.channel),(gt r1 (((AA .u8 ((A4 (A5 .u8) r.kind &&& A4 (A5 .u8) 7).toNat))).toNat))]++[(A_ r.n),(A_ r.m)])
 else (bif decide (r.kind=3) then
 (lt1 ((bif r.yes then
 [121,101,115]
 else [110,111])) (λyes=>
 ([(A_ client),(A_ r.channel),(gt r1 (((AA .u8 ((A4 (A5 .u8) r.kind &&& A4 (A5 .u8) 7).toNat))).toNat))]++[(A_ r.n),(A_ r.m),yes,r.M_.B4_,(U_ r.M_.key),(U_ r.M_.body)])))
 else [(A_ client),(A_ r.channel),(gt r1 (((AA .u8 ((A4 (A5 .u8) r.kind &&& A4 (A5 .u8) 7).toNat))).toNat))]))))))) (λl=>
 (joinB l [32])))
def Cp_(client:Int)(r:Reply):Bs:=
 (bif decide (r.kind=0) then
 (((((((decB client)++[32])++(decB r.channel))++[32])++(gt [[119,101,108,99,111,109,101],[100,111,110,101],[114,101,102,117,115,101,100],[115,101,110,116],[110,111,116,104,105,110,103],[107,101,112,116],[108,111,115,116],[98,121,101]] ((r.kind).toNat)))++[32])++r.name)
 else (bif ((decide (r.kind=1))||(decide (r.kind=4))) then
 (((((decB client)++[32])++(decB r.channel))++[32])++(gt [[119,101,108,99,111,109,101],[100,111,110,101],[114,101,102,117,115,101,100],[115,101,110,116],[110,111,116,104,105,110,103],[107,101,112,116],[108,111,115,116],[98,121,101]] ((r.kind).toNat)))
 else (bif decide (r.kind=6) then
 (((((((((decB client)++[32])++(decB r.channel))++[32])++(gt [[119,101,108,99,111,109,101],[100,111,110,101],[114,101,102,117,115,101,100],[115,101,110,116],[110,111,116,104,105,110,103],[107,101,112,116],[108,111,115,116],[98,121,101]] ((r.kind).toNat)))++[32])++(decB r.n))++[32])++(decB r.m))
 else (bif !decide (r.kind=3) then
 (((((((decB client)++[32])++(decB r.channel))++[32])++(gt [[119,101,108,99,111,109,101],[100,111,110,101],[114,101,102,117,115,101,100],[115,101,110,116],[110,111,116,104,105,110,103],[107,101,112,116],[108,111,115,116],[98,121,101]] ((r.kind).toNat)))++[32])++(decB r.n))
 else (lt1 ((bif r.yes then
 [32,121,101,115,32]
 else [32,110,111,32])) (λyes=>
 (((((((((((((((decB client)++[32])++(decB r.channel))++[32])++(gt [[119,101,108,99,111,109,101],[100,111,110,101],[114,101,102,117,115,101,100],[115,101,110,116],[110,111,116,104,105,110,103],[107,101,112,116],[108,111,115,116],[98,121,101]] ((r.kind).toNat)))++[32])++(decB r.n))++[32])++(decB r.m))++yes)++r.M_.B4_)++[32])++(A3_ r.M_.key))++[32])++(A3_ r.M_.body))))))))
def Al_(client:Int)(r:Reply):Bool:=
 (bif ((!(Fu_ r))||(!decide ((E4_ r)=0))) then
 true
 else (decide ((Bg_ client r)=(Cp_ client r))))
end Go.SW.V
namespace Go.SW.V
open Go.SW Go.Proofs
abbrev ty9:TI:=⟨.str,1,16,[.str []]⟩
abbrev ty79:TI:=⟨.slc 9,1,24,[.sl strc []]⟩
abbrev ty28:TI:=⟨.int .u64,1,8,[.int .u64 0]⟩
abbrev ty2:TI:=⟨.int .i64,1,8,[.int .i64 0]⟩
abbrev ty5:TI:=⟨.int .u8,1,1,[.int .u8 0]⟩
abbrev ty53:TI:=⟨.slc 113,1,24,[.sl Pair.pc []]⟩
abbrev ty113:TI:=⟨.agg [(0,1),(1,1),(2,1),(3,1)],4,48,[.str [], .int .u8 0, .int .i64 0, .str []]⟩
abbrev ty55:TI:=⟨.agg [(0,1),(1,1),(2,1),(3,1),(4,1),(5,1),(6,1)],7,96,[.int .u64 0, .str [], .str [], .sl Pair.pc [], .str [], .int .u64 0, .int .u8 0]⟩
abbrev ty57:TI:=⟨.agg [(0,1),(1,1),(2,1),(3,1),(4,1),(5,1),(6,7)],13,144,[.int .u8 0, .int .u8 0, .int .u64 0, .int .u64 0, .bool false, .str [], .int .u64 0, .str [], .str [], .sl Pair.pc [], .str [], .int .u64 0, .int .u8 0]⟩
abbrev ty60:TI:=⟨.agg [(0,1),(1,1),(2,1),(3,1),(4,1),(5,1),(6,7)],13,144,[.int .u8 0, .int .u8 0, .int .u64 0, .int .u64 0, .bool false, .str [], .int .u64 0, .str [], .str [], .sl Pair.pc [], .str [], .int .u64 0, .int .u8 0]⟩
abbrev ty4:TI:=⟨.bool,1,1,[.bool false]⟩
def tbu:Tb:=[(9,ty9),(5,ty5),(55,ty55),(79,ty79),(4,ty4),(28,ty28),(53,ty53),(57,ty57),(60,ty60),(113,ty113),(2,ty2)]
theorem X_:tbB prog tbu=true:=by kernel_rfl
section
variable{n:Nat}{N:Rest}{H0:Env}{all:List Oper}{Q:Qs}{ks:List Kt}{fF:Nat->PV}{fL:Nat->Blk}
theorem kA(k:Nat){c c':Cf}{ks':List Kt}{F':Nat->PV}{L':Nat->Blk}{az bs:List Nat}(next :Hd prog n N H0 Q c' ks' ⟨F',L'⟩)(h:run tbu n k c ks fF fL [] [] []=some ⟨c',ks',F',L',[],az,bs⟩:=by exact Y)(he:az=bs:=by exact Y):Hd prog n N H0 Q c ks ⟨fF,fL⟩:=gx X_ k next h he
theorem kB(k:Nat)(is:List Nat){c c':Cf}{ks':List Kt}{F':(Nat->Nat)->Nat->PV}{L':(Nat->Nat)->Nat->Blk}{az bs:(Nat->Nat)->List Nat}(next :∀ B:Nat->Nat,Hd prog n N H0 Q c' ks' ⟨F' B,L' B⟩)(h:∀ B,runE tbu n k is B c ks fF fL [] [] []=some ⟨c',ks',F' B,L' B,[],az B,bs B⟩:=by exact λ_=>rfl)(he:∀ B,az B=bs B:=by exact λ_=>rfl):Hd prog n N H0 Q c ks ⟨fF,fL⟩:=gm X_ k is next h he
theorem kC(k:Nat){c c':Cf}{ks':List Kt}{F':Nat->PV}{L':Nat->Blk}{ps:List Prop}{az bs:List Nat}(next :Hd prog n N H0 Q c' ks' ⟨F',L'⟩)(h:run tbu n k c ks fF fL [] [] []=some ⟨c',ks',F',L',ps,az,bs⟩:=by exact Y)(he:az=bs:=by exact Y)(hp:AllP ps:=by repeat' (first|exact Z|refine And.intro ?_ ?_|exact λhc=>hc|exact Y|exact λhc=>rfl|omega|(intro hc;omega)|(intro hc;rw[hc];rfl))):Hd prog n N H0 Q c ks ⟨fF,fL⟩:=gy X_ k next h he hp
theorem kD(k:Nat)(is:List Nat){c c':Cf}{ks':List Kt}{F':(Nat->Nat)->Nat->PV}{L':(Nat->Nat)->Nat->Blk}{ps:(Nat->Nat)->List Prop}{az bs:(Nat->Nat)->List Nat}(next :∀ B:Nat->Nat,Hd prog n N H0 Q c' ks' ⟨F' B,L' B⟩)(h:∀ B,runE tbu n k is B c ks fF fL [] [] []=some ⟨c',ks',F' B,L' B,ps B,az B,bs B⟩:=by exact λ_=>rfl)(he:∀ B,az B=bs B:=by exact λ_=>rfl)(hp:∀ B,AllP (ps B):=by intro B;repeat' (first|exact Z|refine And.intro ?_ ?_|exact λhc=>hc|exact Y|exact λhc=>rfl|omega|(intro hc;omega)|(intro hc;rw[hc];rfl))):Hd prog n N H0 Q c ks ⟨fF,fL⟩:=gmy X_ k is next h he hp
theorem kE(order:List Nat)(f:Nat){xs:Option (List Nat)}{fuel:Nat}{listed:Array Bool}{F':Nat->PV}{L':Nat->Blk}{az bs:List Nat}(next :Hv prog n N H0 Q xs all f (lst listed order) ks ⟨F',L'⟩)(hf:fuel=f+order.length:=by exact Y)(hc:chkV n all order listed=true:=by kernel_rfl)(h:runV tbu xs all order fF fL [] [] []=some ⟨F',L',[],az,bs⟩:=by exact Y)(he:az=bs:=by exact Y):Hv prog n N H0 Q xs all fuel listed ks ⟨fF,fL⟩:=gX X_ order f next hf hc h he
theorem kF(order:List Nat)(f:Nat){xs:Option (List Nat)}{fuel:Nat}{listed:Array Bool}{F':Nat->PV}{L':Nat->Blk}{ps:List Prop}{az bs:List Nat}(next :Hv prog n N H0 Q xs all f (lst listed order) ks ⟨F',L'⟩)(hf:fuel=f+order.length:=by exact Y)(hc:chkV n all order listed=true:=by kernel_rfl)(h:runV tbu xs all order fF fL [] [] []=some ⟨F',L',ps,az,bs⟩:=by exact Y)(he:az=bs:=by exact Y)(hp:AllP ps:=by repeat' (first|exact Z|refine And.intro ?_ ?_|exact λhc=>hc|exact Y|exact λhc=>rfl|omega|(intro hc;omega)|(intro hc;rw[hc];rfl))):Hv prog n N H0 Q xs all fuel listed ks ⟨fF,fL⟩:=gXy X_ order f next hf hc h he hp
theorem kG{G:Gb}{m:Nat}{f:FuncId}{fn:Func}{c:Code}{args:List PV}{res:PV}(hf:prog.funcs[f]? = some fn)(hn:fn.ntmps=m)(h:PV.wfs args->∀ N H,G.p H->Hd prog m N ⟨H,G⟩ (rtK tbu fn.results.toList res) (.code c) [] ⟨L9_ args,λ_=> .no⟩)(hb:fn.body=some c:=by exact Y)(hs:Nat.ble args.length m=true:=by exact Y)(h1:(fn.name == "runtime.NumGoroutine")=false:=by kernel_rfl)(h2:fn.body.isNone=false:=by kernel_rfl)(hno:res.noOsl=true:=by exact Y)(hna:Ao_ args=true:=by exact Y):Fn prog G f args res:=fC hf X_ hn h hb hs h1 h2 hno hna
theorem kI{T ty d:Nat}{rest:List Oper}{pos:String}{af:Array Edge}{x y:Operand}{α:Type}{ti te:TI}{e:TypeId}{enc:α->List PV}{xs:List α}{kk:IntKind}{i:Int}(m:Nat){a:α}(hm:xs[m]? = some a)(k:(PV.el (enc a) 0).wf->Hd prog n N H0 Q (.ops all rest) ks ⟨updp fF d (.el (enc a) 0),fL⟩)(hx:evP fF x = .sl enc xs:=by exact Y)(hy:evP fF y = .int kk i:=by exact Y)(hi:i=m:=by exact Y)(hti:lkT tbu T=some ti:=by exact Y)(htk:ti.k = .slc e:=by exact Y)(hte:lkT tbu e=some te:=by exact Y)(hsz:te.size=(enc a).length:=by exact Y)(hd:Nat.blt d n=true:=by exact Y):Hd prog n N H0 Q (.ops all (⟨some d, .indexAddr T x y,ty,pos,af,none⟩::rest)) ks ⟨fF,fL⟩:=q1 (qidx X_ m hx hy hi hm hti htk hte hsz) hd k
theorem kN(k:Nat){c:Cf}{ks':List Kt}{F':Nat->PV}{L':Nat->Blk}{az:List Nat}{x:Operand}{y z:Code}{t:Prop}{i:Decidable t}(p:t->Hd prog n N H0 Q (.code y) ks' ⟨F',L'⟩)(q:¬t->Hd prog n N H0 Q (.code z) ks' ⟨F',L'⟩)(h:run tbu n k c ks fF fL [] [] []=some ⟨.code (.cond x y z),ks',F',L',[],az,az⟩:=by exact Y)(hc:evP F' x = .bool (decide t):=by exact Y):Hd prog n N H0 Q c ks ⟨fF,fL⟩:=kA k (cn hc p q) h Y
theorem kM(k:Nat){c:Cf}{ks':List Kt}{F':Nat->PV}{L':Nat->Blk}{az:List Nat}{x:Operand}{y z:Code}{t:Bool}(p:t=true->Hd prog n N H0 Q (.code y) ks' ⟨F',L'⟩)(q:t=false->Hd prog n N H0 Q (.code z) ks' ⟨F',L'⟩)(h:run tbu n k c ks fF fL [] [] []=some ⟨.code (.cond x y z),ks',F',L',[],az,az⟩:=by exact Y)(hc:evP F' x = .bool t:=by exact Y):Hd prog n N H0 Q c ks ⟨fF,fL⟩:=kA k (cnd hc p q) h Y
theorem kL(k:Nat){c:Cf}{ks':List Kt}{F':Nat->PV}{L':Nat->Blk}{az:List Nat}{rest:List Oper}{f:FuncId}{args:List PV}{res:PV}{x:Operand}{xs:Array Operand}{ats:Array TypeId}{ty d:Nat}{pos:String}{af:Array Edge}(g:Fn prog H0.g f args res)(h:run tbu n k c ks fF fL [] [] []=some ⟨.ops all (⟨some d, .call ⟨.value x,xs,ats⟩,ty,pos,af,none⟩::rest),ks',F',L',[],az,az⟩)(ha:argsP F' x xs.toList=some (f,args))(hd:Nat.blt d n=true)(q:res.wf->Hd prog n N H0 Q (.ops all rest) ks' ⟨updp F' d res,L'⟩):Hd prog n N H0 Q c ks ⟨fF,fL⟩:=kA k (call g ha hd q) h Y
theorem kR(k:Nat){c:Cf}{F':Nat->PV}{L':Nat->Blk}{az as0:List Nat}{rs:List ResultVar}{res p:PV}(q:p=res)(h:run tbu n k c ks fF fL [] [] []=some ⟨.ex .ret,[],F',L',[],az,az⟩:=by exact Y)(hs:Gu_ tbu ⟨F',L'⟩ rs=some ([p],as0,as0):=by exact Y):Hd prog n N H0 (rtK tbu rs res) c ks ⟨fF,fL⟩:=kA k (rt1 hs Y (ple q)) h Y
theorem jA(k:Nat){c c':Cf}{ks':List Kt}{F':Nat->PV}{L':Nat->Blk}{az:List Nat}(h:run tbu n k c ks fF fL [] [] []=some ⟨c',ks',F',L',[],az,az⟩)(q:Hd prog n N H0 Q c' ks' ⟨F',L'⟩):Hd prog n N H0 Q c ks ⟨fF,fL⟩:=kA k q h Y
end
def gb:Gb:=⟨λH=>GInt H 4/\GTab H 7 laidT/\GStrs H 3 tellsT/\GPow H 1/\GSpc H 0,λH H' hl h=>⟨h.1.mono hl,h.2.1.mono hl,h.2.2.1.mono hl,h.2.2.2.1.mono hl,h.2.2.2.2.mono hl⟩⟩
theorem gbML{H:Hp}(h:gb.p H):GInt H 4:=h.1
theorem gbCrc{H:Hp}(h:gb.p H):GTab H 7 laidT:=h.2.1
theorem gbTells{H:Hp}(h:gb.p H):GStrs H 3 tellsT:=h.2.2.1
theorem gbPow{H:Hp}(h:gb.p H):GPow H 1:=h.2.2.2.1
theorem gbSpc{H:Hp}(h:gb.p H):GSpc H 0:=h.2.2.2.2
theorem Hv_(c:Int):Fn prog gb 62 [.int .u8 c] (.bool (letter c)):=by
 refine kG func62 ntmps62 λw N H hG=>?_;refine kC 33 ?_;refine rt1 Y Y (ple ?_);simp[letter, *]
end Go.SW.V
namespace Go.SW
open Go.Proofs
theorem ag115:Ag prog 115 false:=λw=>by kernel_rfl
theorem ag9:Ag prog 9 false:=λw=>by kernel_rfl
theorem cb104:S_ prog 104:=Ak_ func104 xO xO
theorem H8_:Fld prog 118 0 0:=λb o w=>by kernel_rfl
theorem Mf_:liesAt prog prog.depth 118 (2/prog.cellsOf 118) 0 118 1=true:=by kernel_rfl
theorem ne143:NoEsc prog 143:=Jv_ func143 xO xO xO xO
theorem sz115:Sz prog 115 1:=λw=>by kernel_rfl
theorem sz9:Sz prog 9 1:=λw=>by kernel_rfl
theorem ti118:∃ j,prog.info? 118=some j:=Option.isSome_iff_exists.1 xO
theorem tz118:∃ j,prog.info? 118=some j/\j.size≠0:=exInfo xO
set_option maxRecDepth 100000 in
theorem copyCheck{n:Nat}{N:Rest}{F:Fr}{H:Hp}{L:Ls}{ops:List Oper}{ty d:Nat}{pos:String}{af:Array Edge}{K:Fr->Hp->Ls->Prop}{x:Operand}{ats:Array TypeId}{b:Nat}{p v:Value}(i:Nat)(hx:ev F x = .pointer (some ⟨b,0,none⟩))(hi:L i=some (b,bx 118 [p,v]))
   (hp:p = .pointer none\/p = .pointer (some ⟨b,0,none⟩)) (hd:Nat.blt d n=true) (k:K (upd F d (.tuple #[])) H (lupd L i (some (b,bx 118 [.pointer (some ⟨b,0,none⟩),v])))):Op1 prog n N ops ⟨some d, .call ⟨.value (.func 104),#[x],ats⟩,ty,pos,af,none⟩ K F H L:=by
 refine M6_ (en_f (vs:=[.pointer (some ⟨b,0,none⟩)]) cb104 (by simp[evs,hx])) func104 rfl ntmps104 rfl hd (Ab_ (O_ (ol rfl (Az_ (v:= .pointer (some ⟨_,_,none⟩)) rfl) (ol rfl (W_ rfl) (ol rfl (R_ rfl H8_) ?_)))));refine ol Y (A2_ (i:=i) (v:=p) Y ag115 hi Y) ?_
 rcases hp with rfl|rfl
 refine ol Y (lo_pnil Y Y underlying115) (Ah_ (Ae_ (G9_ Y Y (O_ (ol Y (Az_ (v:= .pointer (some ⟨_,_,none⟩)) Y) ?_)))));refine ol Y (Az_ (v:= .pointer (some ⟨_,_,none⟩)) Y) (ol Y (Ey_ (i:=i) Y hi Y underlying115 underlying225 (tz118).choose_spec.1 (tz118).choose_spec.2) (ol Y (Pc_ (v:= .pointer (some ⟨_,_,none⟩)) ne143 Y) (ol Y (C8_ (i:=i) Y hi underlying225 underlying115 (ti118).choose_spec Mf_) (ol Y (W_ Y) (ol Y (R_ Y H8_) ?_)))));refine ow1 (Co_ (i:=i) (v:= .pointer (some ⟨_,_,none⟩)) Y Y Y sz115 hi Y ?_);refine Ah_ ?_;exact fnK_n (res0 Y) (.refl _) k
 . refine ol Y (Km_ Y Y underlying115) (Ah_ (Ae_ (Em_ Y Y (Ab_ (O_ ?_)))))
   refine ol Y (Az_ (v:= .pointer (some ⟨_,_,none⟩)) Y) (ol Y (W_ Y) (ol Y (R_ Y H8_) (ol Y (A2_ (i:=i) (v:= .pointer (some ⟨b,0,none⟩)) Y ag115 hi Y) (ol Y (Az_ (v:= .pointer (some ⟨_,_,none⟩)) Y) (ol Y (Ih_ Y Y underlying115 (ti118).choose_spec) ?_)))))
   refine Ah_ (Ae_ (Em_ Y Y (En_ (fnK_n (res0 Y) (.refl _) ?_))))
   rwa [Ju_ hi] at k
theorem sz5:Sz prog 5 1:=λw=>by kernel_rfl
theorem ag116:Ag prog 116 false:=λw=>by kernel_rfl
theorem ag237:Ag prog 237 true:=λw=>by kernel_rfl
theorem by5:By prog 5 1:=by_of xO
theorem cb220:S_ prog 220:=Ak_ func220 xO xO
theorem cb69:S_ prog 69:=Ak_ func69 xO xO
theorem co5:prog.cellsOf 5=1:=by kernel_rfl
theorem Gi_:Fld prog 118 1 1:=λb o w=>by kernel_rfl
theorem L3_:Fld prog 237 0 0:=λb o w=>by kernel_rfl
theorem mixd:prog.follows .mixedOrders=true:=by kernel_rfl
theorem sz116:Sz prog 116 1:=λw=>by kernel_rfl
theorem sz237:Sz prog 237 2:=λw=>by kernel_rfl
theorem zr118:Zr prog 118 [.pointer none, .slice none 0 0]:=λw=>⟨.agg #[.pointer none, .slice none 0 0],by kernel_rfl,rfl⟩
theorem zr237:Zr prog 237 [str [], .int .i64 0]:=λw=>⟨.agg #[str [], .int .i64 0],by kernel_rfl,rfl⟩
theorem zr5:Zr prog 5 [.int .u8 0]:=λw=>⟨.int .u8 0,by kernel_rfl,rfl⟩
theorem zx5:∃ z,∀ w,(zeroValue 5).run prog w = .ok z w:=⟨.int .u8 0,λw=>by kernel_rfl⟩
theorem out_Num(H:Hp)(o:Out)(n:Int)(n_r:0<=n/\n<=18446744073709551615)(bytes:Int)(bytes_r:-9223372036854775808<=bytes/\bytes<=9223372036854775807)(hlen:o.s.length<=4611686018427387904):Pr prog 158 #[.agg (Out.cells o).toArray, .int .u64 n, .int .i64 bytes] H (.agg (Out.cells (Ne_ o n bytes)).toArray):=by
 refine pr_cw func158 Y ntmps158 Y (λN=>?_);refine Ab_ (O_ (ow1 (M4_ (cs:=[_,_]) 0 Y Y (λb1=>?_))));refine ow1 (Ca_ 1 Y zr237 (λb2=>?_));refine Ah_ (Ae_ (Ab_ (O_ (ow1 (Ca_ 2 Y zr118 (λb3=>?_))))));refine Ah_ (Ae_ (Ab_ (Ab_ (O_ (omi Y Y ?_)))));refine ol Y (Q2_ Y Y) (ol Y (Q3_ Y Y) (ol Y (Q6_ Y Y (J5_ xN)) (oai Y Y (Ah_ (Ae_ ?_)))));refine Bi_ ?_;refine Ou_ [8,13,14,15,16,17,18,19,20,21,22] [2,3,4] (λ(j:Nat) (bs:Bs) (p:Value) (v:Value) (en:Option (Nat×Obj)) G=>upd (G) 8 (.int .i64 ((j:Int)-1))) (λ(j:Nat) (bs:Bs) (p:Value) (v:Value) (en:Option (Nat×Obj)) G=>lupd (lupd (G) 2 (some (b3,bx 118 [p,v]))) 3 (en)) (λ(j:Nat) (bs:Bs) (p:Value) (v:Value) (en:Option (Nat×Obj)) H'=>bs++numB j n.toNat=numB (numK bytes) n.toNat/\bs.length+j=numK bytes/\OwnV 1 5 v en bs.length (bs.map u8v)/\(bs.length=0->v = .slice none 0 0)/\(p = .pointer none\/p = .pointer (some ⟨b3,0,none⟩))) (λ(j:Nat) (bs:Bs) (p:Value) (v:Value) (en:Option (Nat×Obj))=>j) (numK bytes) [] (.pointer none) (.slice none 0 0) none (Bt_ (Cm_ wM) (congrArg (BM .i64) (show min (max bytes 0) 8-1=((numK bytes:Nat):Int)-1 by unfold numK;omega))) (Cl_ (Cl_ (Bz_ Dd_) Y) Y) ?_ ?_;exact⟨rfl,by simp,Gs_,λ_=>rfl, .inl rfl⟩;intro j bs p v en J5 JL5 H5 hp4 hl5;obtain⟨hk1,hk2,ho,hz,hpp⟩:=hp4;have hk8:numK bytes<=8:=by unfold numK;omega
 refine Ab_ (Ab_ (O_ (omi Y Y (ol Y (Q0_ Y Y) (Ah_ ?_)))));refine Ae_ (El_ Y (λh6=>?_) (λh6=>?_));have p7:=dt h6;refine En_ (Ae_ (Ab_ (Bi_ (O_ (omi Y Y ?_)))));refine omi Y Y (ol Y (lo_mul Y Y (J5_ xN)) (ol Y (Jr_ Y Y xN) ?_));have :=wr_u8 (FB n (2 ^ (min ((8*((j:Int)-1)):Int).toNat (A5 .u64))));refine ol Y (Gn_ Y (by rw[underlying28];rfl) underlying5) ?_;refine ow1 (M6_ (en_f cb220 Y) func220 Y ntmps220 Y Y ?_);refine Ab_ (O_ (ol Y (Bf_ Y) (Ah_ (Ae_ (Ab_ ?_)))));refine O_ (ol Y (Az_ (v:= .pointer (some ⟨_,_,none⟩)) Y) ?_);refine ow1 (copyCheck 2 Y Y hpp Y ?_);refine Ah_ (Ae_ (Ab_ (O_ (ol Y (Az_ (v:= .pointer (some ⟨_,_,none⟩)) Y) (ol Y (Az_ (v:= .pointer (some ⟨_,_,none⟩)) Y) ?_)))));refine ol Y (W_ Y) (ol Y (R_ Y Gi_) (ol Y (A2_ (i:=2) Y ag116 Y Y) (omi Y Y ?_)));refine ow1 (Cn_ (cs:=[_]) 4 Y underlying116 sz5 zx5 Y ⟨Y,Y,Z⟩ Y Y xQ (λb8=>?_));refine ow1 (M3_ 3 Y Y underlying116 underlying116 Y sz5 by5 xQ zr5 ho (src_bx (i:=4) Y Y) (List.all_eq_true.1 Y) Y xN Y (λv9 en10 ho11=>?_));have ho12:=Oo_ (bs:=bs) ho11 (by first|rfl|simp) (wrap8r _);refine ol Y (W_ Y) (ol Y (R_ Y Gi_) ?_);refine ow1 (Co_ (i:=2) Y Y (Pj_ ho12) sz116 Y Y ?_);refine Ah_ (Ae_ (Ab_ (O_ (ol Y (Bf_ Y) (Ah_ ?_)))));refine Ae_ (Fo_ (L5_ (res1 Y (rv_t Y)) (.refl _) (Ah_ (Qg_ (Ae_ ?_)))));refine O_ (omi Y Y (ol Y (Q6_ Y Y (J5_ xN)) (oai Y Y (Ah_ ?_))));refine next5 (j-1) (bs++[B7 ((AA .u8 (FB n (2 ^ (min ((8*((j:Int)-1)):Int).toNat (A5 .u64)))))).toNat]) (.pointer (some ⟨b3,0,none⟩)) v9 en10 (Bt_ (Cm_ wM) (congrArg (BM .i64) (show ((j:Int)-1)-1=((j-1:Nat):Int)-1 by omega))) (Cl_ (Cl_ (Bz_ wW) Y) Y) hl5 ?_ ?_;refine⟨?_,?_,ho12,(nz_of ho12 xP), .inr rfl⟩;rw[byte_of n_r.1 xN xN,DN,<- hk1];obtain⟨q,rfl⟩:∃ q,j=q+1:=⟨j-1,by omega⟩;simp[numB];simp;omega;omega;have p13:=df h6;refine Ge_ (Re_ (Mr_ (I9_ (Ae_ (Ab_ ?_)))));refine Li_ 3 mixd (vw_q 0 Y xO xW (λ_ _ hh hl=>R_ Y L3_) ?_);refine vw_q 1 Y xO xW (λ_ _ hh hl=>A2_ (i:=0) (v:=str _) Y ag9 (hl _ _ Y) Y) ?_;refine vw_e 2 Y xO (M6_ (en_f cb69 Y) func69 Y ntmps69 Y Y ?_);refine Ab_ (O_ (ol Y (Bf_ (v:=str _) Y) (Ah_ (Ae_ (Ab_ ?_)))));refine Li_ 3 mixd ?_;refine vw_q 0 Y xO xW (λ_ _ hh hl=>Az_ (v:= .pointer (some ⟨_,_,none⟩)) Y) ?_;refine vw_q 1 Y xO xW (λ_ _ hh hl=>W_ Y) ?_;refine vw_q 2 Y xO xW (λ_ _ hh hl=>R_ Y Gi_) ?_;refine vw_q 3 Y xO xW (λ_ _ hh hl=>A2_ (i:=2) Y ag116 (hl _ _ Y) Y) ?_;refine vw_q 4 Y xO xW (λ_ _ hh hl=>lo_usd Y ho hz) ?_;refine vw_q 5 Y xO xW (λ_ _ hh hl=>Az_ (v:= .pointer (some ⟨_,_,none⟩)) Y) ?_;refine vw_q 6 Y xO xW (λ_ _ hh hl=>W_ Y) ?_;refine vw_q 7 Y xO xW (λ_ _ hh hl=>R_ Y Gi_) ?_;refine vw_q 8 Y xO xW (λ_ _ hh hl=>A2_ (i:=2) Y ag116 (hl _ _ Y) Y) ?_;refine vw_q 9 Y xO xW (λ_ _ hh hl=>Fw_ Y ho underlying116) ?_;refine vw_e 10 Y xO (Pg_ (l:=bs) 3 Y Y underlying173 co5 ho hz wU Y ?_);refine⟨⟨(.refl _),xW⟩,?_⟩;refine vw_q 11 Y xO xW (λ_ _ hh hl=>Bf_ (v:=str _) Y) ?_;refine I5_ xO (Ae_ (Fo_ (L5_ (res1 Y (rv_t (v:=str _) Y)) (.refl _) ?_)));refine⟨⟨(.refl _),xW⟩,?_⟩;refine vw_q 3 Y xO xW (λ_ _ hh hl=>Mk_ Y Y wU) ?_;refine vw_q 4 Y xO xW (λ_ _ hh hl=>R_ Y L3_) ?_;refine vw_t 5 Y xO xO (Co_ (i:=0) (v:=str _) Y Y Y sz9 Y Y ?_);refine I5_ xO (Ae_ (Ab_ (O_ (ol Y (Eb_ (i:=0) (vs:=[_,_]) Y ag237 sz237 Y Y Y) ?_))));refine ow1 (Fz_ (i:=1) (vs:=[_,_]) Y Y Y sz237 Y Y Y ?_);refine Ah_ (Ae_ (Fo_ (L5_ (res1 Y (rv_c (i:=1) (vs:=[_,_]) Y ag237 sz237 Y Y Y)) ((HLe.refl _).trans hl5) ?_)));obtain rfl :j=0:=by omega
 simp only[numB,FZ] at hk1;subst hk1;rfl
end Go.SW
namespace Go.Proofs
open Go.Shelf
def Tryz.lays146_ren:Go.Shelf.Ren:=⟨λ|146=>58|221=>93|268=>131|138=>132|143=>133|195=>186|197=>187|218=>188|219=>189|260=>277|217=>278|225=>279|224=>280|267=>281|266=>372|314=>373|n=>n,λ|9=>9|31=>79|3=>3|4=>4|0=>0|105=>302|21=>21|5=>5|46=>221|119=>172|139=>512|138=>511|146=>513|51=>68|n=>n,λ|1=>4|3=>10|4=>11|n=>n⟩
theorem Tryz.lays146:Go.Proofs.Lays.n146 prog Tryz.lays146_ren:={
 mixed:=by kernel_rfl
 f138:=func132.trans (congrArg some xO)
 f143:=func133.trans (congrArg some xO)
 f146:=func58.trans (congrArg some xO)
 f195:=func186.trans (congrArg some xO)
 f197:=func187.trans (congrArg some xO)
 f217:=func278.trans (congrArg some xO)
 f218:=func188.trans (congrArg some xO)
 f219:=func189.trans (congrArg some xO)
 f221:=func93.trans (congrArg some xO)
 f224:=func280.trans (congrArg some xO)
 f225:=func279.trans (congrArg some xO)
 f260:=func277.trans (congrArg some xO)
 f266:=func372.trans (congrArg some xO)
 f267:=func281.trans (congrArg some xO)
 f268:=func131.trans (congrArg some xO)
 f314:=func373.trans (congrArg some xO)
 t0:=underlying0
 a0:=isAgg0
 z0:=sizeOf0
 v0:=zeroValue0
 t3:=underlying3
 a3:=isAgg3
 z3:=sizeOf3
 v3:=zeroValue3
 t4:=underlying4
 a4:=isAgg4
 z4:=sizeOf4
 v4:=zeroValue4
 t5:=underlying5
 a5:=isAgg5
 z5:=sizeOf5
 v5:=zeroValue5
 t9:=underlying9
 a9:=isAgg9
 z9:=sizeOf9
 v9:=zeroValue9
 t21:=underlying21
 a21:=isAgg21
 z21:=sizeOf21
 v21:=zeroValue21
 t31:=underlying79
 a31:=isAgg79
 z31:=sizeOf79
 v31:=zeroValue79
 t46:=underlying221
 a46:=isAgg221
 z46:=sizeOf221
 v46:=zeroValue221
 t51:=underlying68
 a51:=isAgg68
 z51:=sizeOf68
 v51:=zeroValue68
 t105:=underlying302
 a105:=isAgg302
 z105:=sizeOf302
 v105:=zeroValue302
 t119:=underlying172
 a119:=isAgg172
 z119:=sizeOf172
 t138:=underlying511
 a138:=isAgg511
 z138:=sizeOf511
 v138:=zeroValue511
 t139:=underlying512
 a139:=isAgg512
 z139:=sizeOf512
 v139:=zeroValue512
 t146:=underlying513
 a146:=isAgg513
 z146:=sizeOf513
 v146:=zeroValue513
 g1:=by kernel_rfl
 g3:=by kernel_rfl
 g4:=by kernel_rfl}
open Go.RowKit Go.Lib in
theorem Tryz.strings_Split(s sep:ByteArray)(m:Int)(w:World)(hs:s.size<4294967281)(hm:w.cell? ⟨4,0,none⟩=some (.int .i64 m))(h1:1<=sep.size) :
   Calls prog 58 #[.string s, .string sep] w λe w'=>
     e = .returned (.slice (some ⟨w.heap.size,0,none⟩) (Lib.countB s sep+1) (Lib.countB s sep+1))/\w'=w.alloc (.cells ((Lib.splitB sep 0 (Lib.countB s sep) s).map Value.string).toArray 9):=Any.strings_Split Tryz.lays146 xO s sep m w hs hm h1
end Go.Proofs
namespace Go.SW
open Go.Proofs
theorem strings_Split(H:Hp)(s p:Bs)(hp:p=[46])(hML:GInt H 4)(hs:s.length<4294967281):Ph prog 58 #[str s,str p] H (λv H'=>∃ (a:Option Addr) (c:Nat),v = .slice a (dots s).length c/\SlH strE 1 H' (.slice a (dots s).length c) (dots s)):=by
 subst hp;refine Iq_ (T:=9) (λw hw=>by have :=Dl_ s w hw;omega) λN L w hm=>?_;obtain⟨m,hc⟩:=hML.cell hm;refine (Tryz.strings_Split ⟨s.toArray⟩ ⟨#[46]⟩ m w (by simpa [Au_] using hs) hc xQ).mono λe w' ⟨he,hw⟩=>⟨?_,?_⟩;rw[he,F5_];rw[hw,E8_]
theorem Oj_(H:Hp)(s p:Bs)(hp:p=[10])(hML:GInt H 4)(hs:s.length<4294967281):Ph prog 58 #[str s,str p] H (λv H'=>∃ (a:Option Addr) (c:Nat),v = .slice a (cuts 10 s).length c/\SlH strE 1 H' (.slice a (cuts 10 s).length c) (cuts 10 s)):=by
 subst hp;refine Iq_ (T:=9) (λw hw=>by have :=Dj_ 10 s w hw;omega) λN L w hm=>?_;obtain⟨m,hc⟩:=hML.cell hm;refine (Tryz.strings_Split ⟨s.toArray⟩ ⟨#[10]⟩ m w (by simpa [Au_] using hs) hc xQ).mono λe w' ⟨he,hw⟩=>⟨?_,?_⟩;rw[he,Iz_];rw[hw,E7_]
theorem ag68:Ag prog 68 false:=λw=>by kernel_rfl
theorem sz68:Sz prog 68 1:=λw=>by kernel_rfl
theorem Oq_(H:Hp)(r:Int)(r_r:0<=r/\r<=4294967295)(b:Int)(b_r:0<=b/\b<=255)(hCrc:GTab H 7 laidT):Pr prog 221 #[.int .u32 r, .int .u8 b] H (.int .u32 (Gd_ r b)):=by
 refine pr_cw func221 Y ntmps221 Y (λN=>?_);obtain⟨T0,fr0,hT0⟩:=hCrc;refine Ab_ (O_ (oai Y Y (Ah_ (Ae_ (Ab_ ?_)))));refine O_ (omi Y Y (omi Y Y (ol Y (Dq_ Y (by rw[underlying5];rfl) underlying68 (rg_u32 xN)) ?_)));have :=Og_ ((A4 (A5 .u32) r ^^^ A4 (A5 .u32) b).toNat);refine ol Y (Mp_ Y Y) (oai Y Y (Ah_ (Ae_ (Ab_ (Ab_ ?_)))));refine O_ (omi Y Y (Ah_ (Ae_ (Bi_ (Ot_ [0,9,10,11,12,13,14,15,16,17,18] [] (λ(k:Nat) (q:Int) G=>upd (upd (G) 0 (.int .u32 q)) 9 (.int .i64 (k:Int))) (λ(k:Nat) (q:Int) G=>G) (λ(k:Nat) (q:Int) H'=>k<=2/\Op_ (2-k) q=Gd_ r b) (λ(k:Nat) (q:Int)=>2-k) 0 (Oh_ r b) (Bt_ (Bt_ (Cm_ wM) Y) Y) (Bz_ Dd_) ?_ ?_)))));exact zG;intro k q J2 JL2 H2 hp1 hl2;obtain⟨hk1,hk2⟩:=hp1;refine Ab_ (O_ (ol Y (Q1_ Y Y) (Ah_ (Ae_ (Ab_ ?_)))));refine El_ Y (λh3=>?_) (λh3=>?_);have p4:=dt h3;refine En_ (Ae_ (Ab_ (Bi_ (O_ (omi Y Y ?_)))));refine ol Y (Jr_ Y Y xN) (omi Y Y ?_);have :=Og_ ((A4 (A5 .u32) q &&& A4 (A5 .u32) 15).toNat);refine ol Y (Qw_ Y Y) (ol Y (lo_gidx (m:=((AA .u32 ((A4 (A5 .u32) q &&& A4 (A5 .u32) 15).toNat))).toNat) Y underlying450 sz68 xN (I6_ _)) (ol Y (Jp_ Y ag68 (((HLe.refl _).trans hl2) _ _ hT0) (tab_get (I6_ _))) ?_));have :=Og_ ((A4 (A5 .u32) (FB q (2 ^ (min (4:Int).toNat (A5 .u32)))) ^^^ A4 (A5 .u32) (laidT.getD ((AA .u32 ((A4 (A5 .u32) q &&& A4 (A5 .u32) 15).toNat))).toNat 0)).toNat);refine ol Y (Mp_ Y Y) (oai Y Y (Ah_ (Qg_ (Ae_ (O_ ?_)))));refine ol Y (lo_add Y Y (J5_ xN)) (omi Y Y (Ah_ ?_));refine next2 (k+1) (crc1 q) (Bt_ (Bt_ (Cm_ wM) Y) Y) (Bz_ wW) hl2 ?_ ?_;refine⟨by omega,?_⟩;rw[<- hk2,show 2-k=(2-(k+1))+1 by omega];rfl;omega;have p5:=df h3;refine Ge_ (Re_ (Mr_ (I9_ (Ae_ (Ab_ ?_)))));refine O_ (omi Y Y (oai Y Y (Ah_ (Ae_ (Fo_ ?_)))));refine L5_ (res1 Y (rv_t (v:= .int _ _) Y)) ((HLe.refl _).trans hl2) ?_;obtain rfl :k=2:=by omega
 exact congrArg (BM .u32) hk2
end Go.SW
