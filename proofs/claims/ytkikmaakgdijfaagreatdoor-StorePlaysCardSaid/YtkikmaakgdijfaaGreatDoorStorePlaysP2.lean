/-
  A part of the proof of StorePlays: Runs of quiet steps: one computation, proved once. Over any program that the table fits; it asks what it
-/
import Derived.Test.YtkikmaakgdijfaaGreatDoorStorePlaysP1
import Derived.Lib.SplitLaws
import Derived.Lib.IndexAny
set_option linter.unusedVariables false
set_option linter.unusedSimpArgs false
set_option maxRecDepth 100000
set_option maxHeartbeats 4000000
namespace Go.SW
variable {P:Program} {n:Nat} {N:Rest} {H0:Env}
def frc0 {α:Type _} (v:PV) (c:PV->α):α:=
 match v with
 | .int k z=>c (.int k z)
 | .bool b=>c (.bool b)
 | .str s=>c (.str s)
 | .agg cs=>c (.agg cs)
 | .sl e x=>c (.sl e x)
 | .own i b o=>c (.own i b o)
 | .osl i=>c (.osl i)
 | .el r o=>c (.el r o)
 | .fn f a b=>c (.fn f a b)
 | .tup vs=>c (.tup vs)
 | .gv g v=>c (.gv g v)
 | .val v=>c (.val v)
 | .usl v=>c (.usl v)
 | .junk=>c .junk
theorem frc0_eq {α:Type _} (v:PV) (c:PV->α):frc0 v c=c v:=by cases v<;>rfl
def frcL {α:Type _}:List PV->(List PV->α)->α
 |[],c=>c []
 |p::r,c=>frc0 p λp=>frcL r λr=>c (p::r)
theorem Ta_ {α:Type _}:∀ (l:List PV) (c:List PV->α),frcL l c=c l
 |[],c=>rfl
 |p::r,c=>by simp only[frcL,frc0_eq,Ta_ r]
def frc {α:Type _} (v:PV) (c:PV->α):α:=
 match v with
 | .agg cs=>frcL cs λcs=>c (.agg cs)
 | .gv g v=>match v with
   | .agg cs=>frcL cs λcs=>c (.gv g (.agg cs))
   |v=>frc0 v λv=>c (.gv g v)
 |v=>frc0 v c
theorem Xu_ {α:Type _} (v:PV) (c:PV->α):frc v c=c v:=by
 unfold frc;split<;>first|(simp only[Ta_];done)|(split<;>simp only[Ta_,frc0_eq];done)|simp only[frc0_eq]
def frcP {α:Type _}:List Prop->(List Prop->α)->α
 |[],c=>c []
 |p::r,c=>frcP r λr=>c (p::r)
theorem U5_ {α:Type _}:∀ (l:List Prop) (c:List Prop->α),frcP l c=c l
 |[],c=>rfl
 |p::r,c=>by simp only[frcP,U5_ r]
def frcN {α:Type _}:List Nat->(List Nat->α)->α
 |[],c=>c []
 |p::r,c=>frcN r λr=>c (p::r)
theorem Zd_ {α:Type _}:∀ (l:List Nat) (c:List Nat->α),frcN l c=c l
 |[],c=>rfl
 |p::r,c=>by simp only[frcN,Zd_ r]
inductive Cf where
 |code (c:Code)
 |ops (all rest:List Oper)
 |ex (e:Exit)
def Cf.holds (P:Program) (n:Nat) (N:Rest) (H0:Env) (Q:Qs):Cf->St->Prop
 | .code c,s=>Sw P n N H0 c Q s
 | .ops all rest,s=>So P n N H0 all rest Q s
 | .ex e,s=>Q e s
def Hd (P:Program) (n:Nat) (N:Rest) (H0:Env) (Q:Qs) (c:Cf) (ks:List Kt) (s:St):Prop:=Cf.holds P n N H0 (Kt.den P n N H0 ks Q) c s
structure RR where
 c:Cf
 ks:List Kt
 F:Nat->PV
 L:Nat->Blk
 ps:List Prop
 as0:List Nat
 bs:List Nat
def apP:List Prop->List Prop->List Prop
 |[],k=>k
 |p::r,k=>p::apP r k
theorem Pr_:∀ {ps qs:List Prop},AllP (apP ps qs)->AllP ps/\AllP qs
 |[],_,h=>⟨trivial,h⟩
 |_::_,_,h=>⟨⟨h.1,(Pr_ h.2).1⟩,(Pr_ h.2).2⟩
theorem apP_nil:∀ (l:List Prop),apP l []=l
 |[]=>rfl
 |p::r=>by simp only[apP,apP_nil r]
def addP {α:Type _} (ps qs:List Prop) (c:List Prop->α):α:=
 match qs with
 |[]=>c ps
 |q::r=>frcP (apP ps (q::r)) c
theorem Yq_ {α:Type _} (ps qs:List Prop) (c:List Prop->α):addP ps qs c=c (apP ps qs):=by
 unfold addP;split;rw[apP_nil];rw[U5_]
def vOp (tb:Tb) (s:St) (all:List Oper) (o:Oper):Option PR:=
 match o.guard with
 |none=>pop tb s.L s.F o.op
 |some (j,want)=>match nth all j with
   |some oj=>match oj.dst with
     |some dj=>match gC (s.F dj) want with
       |some g=>match Kv_ s.F (tsOf o.op) with
         |true=>pG1 tb s.L s.F o.op g
         |false=>none
       |none=>none
     |none=>none
   |none=>none
def run (tb:Tb) (n:Nat):Nat->Cf->List Kt->(Nat->PV)->(Nat->Blk)->List Prop->List Nat->List Nat->Option RR
 |0,c,ks,F,L,ps,as0,bs=>frcP ps λps=>frcN as0 λas0=>frcN bs λbs=>some ⟨c,ks,F,L,ps,as0,bs⟩
 |k+1,c,ks,F,L,ps,as0,bs=>
   match c with
   | .code c=>match c with
     | .seq a b=>run tb n k (.code a) (.seq b::ks) F L ps as0 bs
     | .skip=>run tb n k (.ex .normal) ks F L ps as0 bs
     | .label _=>run tb n k (.ex .normal) ks F L ps as0 bs
     | .block id b=>run tb n k (.code b) (.blk id::ks) F L ps as0 bs
     | .scope b=>run tb n k (.code b) (.sc::ks) F L ps as0 bs
     | .exit i=>run tb n k (.ex (.exit i)) ks F L ps as0 bs
     | .ret=>run tb n k (.ex .ret) ks F L ps as0 bs
     | .region _ ops draw=>match draw with
       |false=>run tb n k (.ops ops.toList ops.toList) ks F L ps as0 bs
       |true=>none
     | .cond c a b=>match evP F c with
       | .bool p=>match p with
         |true=>run tb n k (.code a) ks F L ps as0 bs
         |false=>run tb n k (.code b) ks F L ps as0 bs
       |_=>none
     |_=>none
   | .ops all rest=>match rest with
     |[]=>run tb n k (.ex .normal) ks F L ps as0 bs
     |o::rest=>match o.dst with
       |some d=>match Nat.blt d n with
         |true=>match vOp tb ⟨F,L⟩ all o with
           |some ⟨v0,ps0,lk0⟩=>match lk0 with
             |none=>addP ps ps0 λps=>frc v0 λv=>run tb n k (.ops all rest) ks (updp F d v) L ps as0 bs
             |some (_,a,b)=>addP ps ps0 λps=>frc v0 λv=>run tb n k (.ops all rest) ks (updp F d v) L ps (a::as0) (b::bs)
           |none=>none
         |false=>none
       |none=>none
   | .ex e=>match ks with
     |[]=>none
     | .seq y::ks=>match e with
       | .normal=>run tb n k (.code y) ks F L ps as0 bs
       |e=>run tb n k (.ex e) ks F L ps as0 bs
     | .blk id::ks=>match e with
       | .exit i=>match Nat.beq i id with
         |true=>run tb n k (.ex .normal) ks F L ps as0 bs
         |false=>run tb n k (.ex (.exit i)) ks F L ps as0 bs
       |e=>run tb n k (.ex e) ks F L ps as0 bs
     | .sc::ks=>match e with
       | .goto _=>none
       |e=>run tb n k (.ex e) ks F L ps as0 bs
     | .lp _::ks=>match e with
       | .normal=>none
       |e=>run tb n k (.ex e) ks F L ps as0 bs
theorem gv_dec {c b want:Bool}:(c&&(b==want))=(c&&gOf b want):=by cases b<;>cases want<;>rfl
theorem gqn {F:Fr} {H:Hp} {L:Ls} {ops rest:List Oper} {op:Op} {ty d j:Nat} {pos:String} {af:Array Edge} {Q:Qt} {want c b:Bool} {v:Value} (hy:yF ops F j=some (gv c (.bool b))) (hd:Nat.blt d n=true) (h:(c&&gOf b want)=true->Lo P N op ty F H L v)
   (k:Ow P n N ops rest Q (upd F d (gv (c&&gOf b want) v)) H L):Ow P n N ops (⟨some d,op,ty,pos,af,some (j,want)⟩::rest) Q F H L:=
 gq (c:=c) (b:=b) (v:=v) hy hd (λe=>h (gv_dec ▸ e)) (gv_dec (c:=c) (b:=b) (want:=want) ▸ k)
theorem yF_of {ops:List Oper} {F:Fr} {j d:Nat} {o:Oper} (h:nth ops j=some o) (hd:o.dst=some d):yF ops F j=some (F d):=by
 rw[Kx_] at h;simp[yF,h,hd]
theorem gC_ok {p:PV} {v:Value} {H:Hp} {want g:Bool} (hg:gC p want=some g) (h:Sim H p v):∃ c b,v=gv c (.bool b)/\g=(c&&gOf b want):=by
 unfold gC at hg
 split at hg
 . cases hg;exact⟨true,_,h.inv_bool,by simp⟩
 . rename_i c q
   split at hg
   . rename_i b
     cases hg
     rcases h.inv_gv with ⟨rfl,h1⟩|⟨rfl,h1⟩
     exact⟨true,b,h1.inv_bool,rfl⟩
     exact⟨false,b,h1,rfl⟩
   . cases hg
 . cases hg
theorem so_v {tb:Tb} {all rest:List Oper} {o:Oper} {d:Nat} {Q:Qs} {s:St} {r:PR} (ht:tbB P tb=true) (ho:o.dst=some d) (hd:Nat.blt d n=true) (h:vOp tb s all o=some r) (hp:AllP r.ps) (he:∀ x,r.lk=some x->x.2.1=x.2.2)
   (k:So P n N H0 all rest Q ⟨updp s.F d r.v,s.L⟩):So P n N H0 all (o::rest) Q s:=by
 obtain⟨d',op,ty,pos,af,g⟩:=o
 cases ho
 unfold vOp at h
 split at h
 . rename_i hg
   cases hg
   exact so_pop ht hd h hp he k
 . rename_i j want hg
   cases hg
   split at h
   . rename_i oj hj
     split at h
     . rename_i dj hdj
       split at h
       . rename_i g hgc
         split at h
         . rename_i hno
           unfold pG1 at h
           split at h
           . rename_i v0 ps0 lk0 hr0
             split at h
             . rename_i hnv
               cases h
               intro F H L ha
               obtain⟨c,b,hv,hge⟩:=gC_ok hgc (ha.f dj).sim
               have hy:yF all F j=some (gv c (.bool b)):=by rw[yF_of hj hdj,hv]
               obtain⟨hp1,hp2⟩:=Lh_ hp
               cases hgv:(c&&gOf b want) with
               |false=>
                 refine gqn (v:=undef) hy hd (λe=>by rw[hgv] at e;cases e) (k _ _ _ (ha.put d ?_))
                 rw[hge,hgv]
                 exact Sim.gvf
               |true=>
                 have hgt:g=true:=hge.trans hgv
                 obtain⟨val,h1,h2⟩:=pop_ok (N:=N) (ty:=ty) ht (Rc_ ha.f (λt ht c v e=>hp2 t ht c v e hgt) (Kw_ hno)) ha.l hr0 (U7_ hgt hp1) he
                 refine gqn (v:=val) hy hd (λ_=>h2 H L (.refl H) (λ_ _=>rfl)) (k _ _ _ (ha.put d ?_))
                 rw[hge,hgv]
                 exact Sim.gvt h1.sim
             . cases h
           . cases h
         . cases h
       . cases h
     . cases h
   . cases h
theorem den_seq {y:Code} {r:List Kt} {Q:Qs} {e:Exit} {s:St} (h:e = .normal->False) (x:Kt.den P n N H0 r Q e s):Kt.den P n N H0 (.seq y::r) Q e s:=by cases e<;>first|exact x|exact (h Y).elim
theorem den_lp {J:St->Prop} {r:List Kt} {Q:Qs} {e:Exit} {s:St} (h:e = .normal->False) (x:Kt.den P n N H0 r Q e s):Kt.den P n N H0 (.lp J::r) Q e s:=by cases e<;>first|exact x|exact (h Y).elim
theorem den_blk {id:Nat} {r:List Kt} {Q:Qs} {e:Exit} {s:St} (h:∀ i,e = .exit i->False) (x:Kt.den P n N H0 r Q e s):Kt.den P n N H0 (.blk id::r) Q e s:=by cases e<;>first|exact x|exact (h _ Y).elim
theorem den_sc {r:List Kt} {Q:Qs} {e:Exit} {s:St} (h:∀ i,e = .goto i->False) (x:Kt.den P n N H0 r Q e s):Kt.den P n N H0 (.sc::r) Q e s:=by cases e<;>first|exact x|exact (h _ Y).elim
theorem run_ok {tb:Tb} (ht:tbB P tb=true) {Q:Qs}:∀ (k:Nat) (c:Cf) (ks:List Kt) (F:Nat->PV) (L:Nat->Blk) (ps:List Prop) (as0 bs:List Nat) (r:RR),run tb n k c ks F L ps as0 bs=some r->AllP r.ps->r.as0=r.bs->AllP ps/\as0=bs/\(Hd P n N H0 Q r.c r.ks ⟨r.F,r.L⟩->Hd P n N H0 Q c ks ⟨F,L⟩)
 |0,c,ks,F,L,ps,as0,bs,r,h,hp,he=>by
   simp only[run,U5_,Zd_,Option.some.injEq] at h
   subst h
   exact⟨hp,he,id⟩
 |k+1,c,ks,F,L,ps,as0,bs,r,h,hp,he=>by
   have ih:=run_ok ht (Q:=Q) k
   unfold run at h
   split at h
   . split at h
     . obtain⟨h1,h0,h2⟩:=ih _ _ _ _ _ _ _ _ h hp he;exact⟨h1,h0,λx=>sw_seq (h2 x)⟩
     . obtain⟨h1,h0,h2⟩:=ih _ _ _ _ _ _ _ _ h hp he;exact⟨h1,h0,λx=>sw_skip (h2 x)⟩
     . obtain⟨h1,h0,h2⟩:=ih _ _ _ _ _ _ _ _ h hp he;exact⟨h1,h0,λx=>sw_label (h2 x)⟩
     . obtain⟨h1,h0,h2⟩:=ih _ _ _ _ _ _ _ _ h hp he;exact⟨h1,h0,λx=>sw_block (h2 x)⟩
     . obtain⟨h1,h0,h2⟩:=ih _ _ _ _ _ _ _ _ h hp he;exact⟨h1,h0,λx=>sw_scope (h2 x)⟩
     . obtain⟨h1,h0,h2⟩:=ih _ _ _ _ _ _ _ _ h hp he;exact⟨h1,h0,λx=>sw_exit (h2 x)⟩
     . obtain⟨h1,h0,h2⟩:=ih _ _ _ _ _ _ _ _ h hp he;exact⟨h1,h0,λx=>sw_ret (h2 x)⟩
     . split at h
       . obtain⟨h1,h0,h2⟩:=ih _ _ _ _ _ _ _ _ h hp he;exact⟨h1,h0,λx=>sw_region (h2 x)⟩
       . cases h
     . split at h
       . rename_i hc
         split at h
         . obtain⟨h1,h0,h2⟩:=ih _ _ _ _ _ _ _ _ h hp he;exact⟨h1,h0,λx=>sw_cond hc (λ_=>h2 x) (λe=>by cases e)⟩
         . obtain⟨h1,h0,h2⟩:=ih _ _ _ _ _ _ _ _ h hp he;exact⟨h1,h0,λx=>sw_cond hc (λe=>by cases e) (λ_=>h2 x)⟩
       . cases h
     . cases h
   . split at h
     . obtain⟨h1,h0,h2⟩:=ih _ _ _ _ _ _ _ _ h hp he;exact⟨h1,h0,λx=>so_nil (h2 x)⟩
     . split at h
       . rename_i d hd
         split at h
         . rename_i hb
           split at h
           . rename_i v0 ps0 lk0 hq
             split at h
             . rw[Yq_,Xu_] at h
               obtain⟨h1,h0,h2⟩:=ih _ _ _ _ _ _ _ _ h hp he
               obtain⟨h3,h4⟩:=Pr_ h1
               exact⟨h3,h0,λx=>so_v ht hd hb hq h4 (λy hy=>by cases hy) (h2 x)⟩
             . rename_i i a b
               rw[Yq_,Xu_] at h
               obtain⟨h1,h0,h2⟩:=ih _ _ _ _ _ _ _ _ h hp he
               obtain⟨h3,h4⟩:=Pr_ h1
               simp only[List.cons.injEq] at h0
               exact⟨h3,h0.2,λx=>so_v ht hd hb hq h4 (λy hy=>by cases hy;exact h0.1) (h2 x)⟩
           . cases h
         . cases h
       . cases h
   . split at h
     . cases h
     . split at h
       . obtain⟨h1,h0,h2⟩:=ih _ _ _ _ _ _ _ _ h hp he;exact⟨h1,h0,λx=>h2 x⟩
       . rename_i e1 hne
         obtain⟨h1,h0,h2⟩:=ih _ _ _ _ _ _ _ _ h hp he
         exact⟨h1,h0,λx=>den_seq hne (h2 x)⟩
     . split at h
       . split at h
         . exact tR
         . exact tR
       . rename_i e1 hne
         obtain⟨h1,h0,h2⟩:=ih _ _ _ _ _ _ _ _ h hp he
         exact⟨h1,h0,λx=>den_blk hne (h2 x)⟩
     . split at h
       . cases h
       . rename_i e1 hne
         obtain⟨h1,h0,h2⟩:=ih _ _ _ _ _ _ _ _ h hp he
         exact⟨h1,h0,λx=>den_sc hne (h2 x)⟩
     . split at h
       . cases h
       . rename_i e1 hne
         obtain⟨h1,h0,h2⟩:=ih _ _ _ _ _ _ _ _ h hp he
         exact⟨h1,h0,λx=>den_lp hne (h2 x)⟩
theorem go {tb:Tb} (ht:tbB P tb=true) (k:Nat) {Q:Qs} {c c':Cf} {ks ks':List Kt} {F F':Nat->PV} {L L':Nat->Blk} {ps:List Prop} {as0 bs:List Nat} (h:run tb n k c ks F L [] [] []=some ⟨c',ks',F',L',ps,as0,bs⟩) (he:as0=bs) (hp:AllP ps) (next :Hd P n N H0 Q c' ks' ⟨F',L'⟩):Hd P n N H0 Q c ks ⟨F,L⟩:=
 (run_ok ht k c ks F L [] [] [] _ h hp he).2.2 next
end Go.SW
namespace Go.SW
variable {P:Program} {n:Nat} {N:Rest} {H0:Env}
def PLe (p q:PV):Prop:=∀ H v,Sim H p v->Sim H q v
theorem ple {p q:PV} (h:p=q):PLe p q:=λ_ _ x=>h ▸ x
theorem Av_ {α:Type} {enc:α->List PV}:PLe (.val (.slice none 0 0)) (.sl enc []):=λH v h=>by
 rw[h.inv_val];exact Sim.of_slh (k:=0) slh_nil pF
def PLes (ps qs:List PV):Prop:=∀ H vs,Sims H ps vs->Sims H qs vs
theorem A6_:PLes [] []:=λ_ _ h=>h
theorem A_ {p q:PV} {ps qs:List PV} (h:PLe p q) (k:PLes ps qs):PLes (p::ps) (q::qs):=λH vs x=>by
 obtain⟨v,us,rfl,h1,h2⟩:=x.inv_cons
 exact (k H us h2).cons (h H v h1)
theorem ples_rfl {ps:List PV}:PLes ps ps:=λ_ _ h=>h
theorem Gf_ {ps qs:List PV} (h:PLes ps qs):PLe (.agg ps) (.agg qs):=λH v x=>by
 obtain⟨vs,rfl,h1⟩:=x.inv_agg
 exact Sim.toAgg (h H vs h1)
theorem Ek_ {ps qs:List PV} (h:PLes ps qs):PLe (.tup ps) (.tup qs):=λH v x=>by
 obtain⟨vs,rfl,h1⟩:=x.inv_tup
 exact Sim.toTup (h H vs h1)
structure Fn (P:Program) (G:Gb) (f:FuncId) (args:List PV) (res:PV):Prop where
 cb:Bo_ P f
 no:res.noOsl=true
 run:∀ (N:Rest) (H:Hp) (L:Ls) (w:World) (vs:List Value),G.p H->Sims H args vs->Mem N H L w->Calls P f vs.toArray w λe w'=>∃ v H',e = .returned v/\Sim H' res v/\HLe H H'/\Mem N H' L w'
theorem Fn.ph {G:Gb} {f:FuncId} {args:List PV} {res:PV} {H:Hp} {vs:List Value} (h:Fn P G f args res) (hg:G.p H) (hs:Sims H args vs):Ph P f vs.toArray H (λv H'=>Sim H' res v):=λN L w hm=>
 (h.run N H L w vs hg hs hm).mono λ_ _ ⟨v,H',h1,h2,h3,h4⟩=>⟨v,H',h1,h2,h3,h4⟩
theorem Fn.pr {G:Gb} {f:FuncId} {args:List PV} {res:PV} {H:Hp} {vs:List Value} (h:Fn P G f args res) (hf:res.flat=true) (hg:G.p H) (hs:Sims H args vs) {v:Value} {H1:Hp} (hv:Sim H1 res v):Pr P f vs.toArray H v:=λN L w hm=>
 (h.run N H L w vs hg hs hm).mono λ_ _ ⟨v',H',h1,h2,h3,h4⟩=>⟨by rw[h1,Sim.uniq hf h2 hv],h4.le h3⟩
theorem Fn.le {G:Gb} {f:FuncId} {args args':List PV} {res res':PV} (h:Fn P G f args res) (ha:PLes args' args) (hr:PLe res res') (hn:res'.noOsl=true):Fn P G f args' res':=
 ⟨h.cb,hn,λN H L w vs hg hs hm=>(h.run N H L w vs hg (ha H vs hs) hm).mono λ_ _ ⟨v,H',h1,h2,h3,h4⟩=>⟨v,H',h1,hr H' v h2,h3,h4⟩⟩
def resP1 (tb:Tb) (s:St):ResultVar->Option PR
 | .tmp t=>some (.q (s.F t))
 | .cell a T=>pLoad tb s.L T (s.F a)
def Is_ (tb:Tb) (s:St):List ResultVar->Option (List PV×List Nat×List Nat)
 |[]=>some ([],[],[])
 |r::rs=>match resP1 tb s r with
   |some x=>match Is_ tb s rs with
     |some (ps,as0,bs)=>frc x.v λv=>match x.lk with
       |none=>some (v::ps,as0,bs)
       |some (_,a,b)=>some (v::ps,a::as0,b::bs)
     |none=>none
   |none=>none
def tupP:List PV->PV
 |[p]=>p
 |ps=> .tup ps
theorem rv_1 {tb:Tb} {s:St} {F:Fr} {H:Hp} {L:Ls} {r:ResultVar} {x:PR} (ht:tbB P tb=true) (ha:Abs H0 s F H L) (h:resP1 tb s r=some x) (he:∀ y,x.lk=some y->y.2.1=y.2.2):∃ v,RV P N F H L r v/\Sim H x.v v:=by
 cases r with
 |tmp t=>simp only[resP1,Option.some.injEq] at h;subst h;exact⟨F t,rv_t Y,(ha.f t).sim⟩
 |cell a T=>
   simp only[resP1] at h
   obtain⟨v,h1,h2⟩:=y_load (P:=P) (N:=N) (ty:=0) (x:= .tmp a) ht ha.l (ha.f a) h he
   refine⟨v,λw tmps htm hm=>?_,h1.sim⟩
   have h3:=h2 H L (.refl H) (λ_ _=>rfl) none "" #[] none w hm
   simp only[rvS,htm a]
   simp only[execOp,ev,Instr.loadAt] at h3
   revert h3
   cases F a with
   |pointer q=>
     cases q with
     |some q=>
       simp[Instr.sureAddr,asAddr]
       intro h3
       cases hr:(loadVar T q).run P w with
       |ok x w'=>rw[hr] at h3;simp[Result.andThen] at h3;simp[h3]
       |halt x w'=>rw[hr] at h3;simp[Result.andThen] at h3
     |none=>intro h3;simp[Instr.sureAddr] at h3
   |_=>intro h3;simp[Instr.sureAddr] at h3
theorem rvs_run {tb:Tb} {s:St} {F:Fr} {H:Hp} {L:Ls} (ht:tbB P tb=true) (ha:Abs H0 s F H L):∀ (rs:List ResultVar) (ps:List PV) (as0 bs:List Nat),Is_ tb s rs=some (ps,as0,bs)->as0=bs ->
   ∃ vs:List Value,Sims H ps vs/\∀ (w:World) (tmps:Array Value),(∀ t,tmps.getD t undef=F t)->Mem N H L w->(rs.mapM (rvS tmps)).run P w = .ok vs w
 |[],ps,as0,bs,h,_=>by simp only[Is_,Option.some.injEq,Prod.mk.injEq] at h;obtain⟨rfl,_⟩:=h;exact⟨[],Sims.nil,λw tmps _ _=>by simp⟩
 |r::rs,ps,as0,bs,h,he=>by
   simp only[Is_] at h
   split at h
   . rename_i x hx
     split at h
     . rename_i ps' as' bs' hps
       rw[Xu_] at h
       split at h
       . rename_i hlk
         simp only[Option.some.injEq,Prod.mk.injEq] at h
         obtain⟨rfl,rfl,rfl⟩:=h
         obtain⟨vs,h1,h2⟩:=rvs_run ht ha rs _ _ _ hps he
         obtain⟨v,h3,h4⟩:=rv_1 (N:=N) ht ha hx (λy hy=>by rw[hlk] at hy;cases hy)
         exact xO
       . rename_i i a b hlk
         simp only[Option.some.injEq,Prod.mk.injEq] at h
         obtain⟨rfl,rfl,rfl⟩:=h
         simp only[List.cons.injEq] at he
         obtain⟨vs,h1,h2⟩:=rvs_run ht ha rs _ _ _ hps he.2
         obtain⟨v,h3,h4⟩:=rv_1 (N:=N) ht ha hx (λy hy=>by rw[hlk] at hy;cases hy;exact he.1)
         exact xO
     . cases h
   . cases h
def rtK (tb:Tb) (rs:List ResultVar) (res:PV):Qs:=λe s=>(e = .normal\/e = .ret)/\∃ ps as0 bs,Is_ tb s rs=some (ps,as0,bs)/\as0=bs/\PLe (tupP ps) res
theorem rt {tb:Tb} {rs:List ResultVar} {res:PV} {s:St} {ps:List PV} {as0 bs:List Nat} (h:Is_ tb s rs=some (ps,as0,bs)) (he:as0=bs) (hp:PLe (tupP ps) res):Hd P n N H0 (rtK tb rs res) (.ex .ret) [] s:=⟨.inr Y,ps,as0,bs,h,he,hp⟩
theorem Qz_ {tb:Tb} {fn:Func} {res:PV} {s:St} {F:Fr} {H:Hp} {L:Ls} {e:Exit} (ht:tbB P tb=true) (ha:Abs H0 s F H L) (h:rtK tb fn.results.toList res e s):(e = .normal\/e = .ret)/\∃ v,Res P N fn F H L v/\Sim H res v:=by
 obtain⟨he,ps,as0,bs,h1,h2,h3⟩:=h;refine⟨he,?_⟩;obtain⟨vs,h4,h5⟩:=rvs_run (N:=N) ht ha _ _ _ _ h1 h2;have h6:∀ (w:World) (tmps:Array Value),(∀ t,tmps.getD t undef=F t)->Mem N H L w->(fn.results.mapM (rvS tmps)).run P w = .ok vs.toArray w:=λw tmps htm hm=>by
   rw[Array.mapM_eq_mapM_toList]
   simp[h5 w tmps htm hm]
 match ps,vs,h4,h6,h3 with
 |[p],[v],h4,h6,h3=>
   refine⟨v,λw tmps htm hm=>?_,h3 H v (h4.2 0 p v Y Y)⟩
   rw[P5_,Sem.run_bind,h6 w tmps htm hm]
   simp
 |[],vs,h4,h6,h3=>
   cases h4.inv_nil
   refine⟨.tuple #[],λw tmps htm hm=>?_,h3 H _ (Sim.toTup (vs:=[]) Sims.nil)⟩
   rw[P5_,Sem.run_bind,h6 w tmps htm hm]
   simp
 |p::q::r,vs,h4,h6,h3=>
   refine⟨.tuple vs.toArray,λw tmps htm hm=>?_,h3 H _ (Sim.toTup h4)⟩
   rw[P5_,Sem.run_bind,h6 w tmps htm hm]
   have :vs.length≠1:=by rw[h4.1];simp
   simp[this]
 |[p],[],h4,_,_=>exact absurd h4.1 pF
 |[p],_::_::_,h4,_,_=>exact absurd h4.1 pF
def P9_ (args:List PV):Nat->PV:=λt=>match nth args t with
 |some p=>p
 |none=> .junk
def C4_:List PV->Bool
 |[]=>true
 |p::r=>p.noOsl&&C4_ r
theorem Tj_:∀ {ps:List PV} {i:Nat} {p:PV},C4_ ps=true->ps[i]? = some p->p.noOsl=true
 |[],i,p,_,h=>by simp at h
 |q::r,0,p,h,hp=>by simp only[C4_,Bool.and_eq_true] at h;simp at hp;rw[<- hp];exact h.1
 |q::r,i+1,p,h,hp=>by simp only[C4_,Bool.and_eq_true] at h;exact Tj_ h.2 (by simpa using hp)
theorem Od_ {sL:Nat->Blk} {H:Hp} {args:List PV} {vs:List Value} (hs:Sims H args vs) (hn:C4_ args=true) (t:Nat):SimT sL H (P9_ args t) (K9_ vs.toArray t):=by
 unfold P9_;rw[Kx_]
 cases h:args[t]? with
 |none=>exact Sim.junk
 |some p=>
   obtain⟨v,hv,hp⟩:=hs.get h
   refine Sim.simT ?_ (Tj_ hn h)
   simpa [K9_,List.getD_eq_getElem?_getD,hv] using hp
theorem fn_cw {tb:Tb} {G:Gb} {m:Nat} {f:FuncId} {fn:Func} {c:Code} {args:List PV} {res:PV} (ht:tbB P tb=true) (hf:P.funcs[f]? = some fn) (hb:fn.body=some c) (hn:fn.ntmps=m) (hs:Nat.ble args.length m=true) (hcb:Bo_ P f) (hno:res.noOsl=true) (hna:C4_ args=true)
   (h:PV.wfs args->∀ N H,G.p H->Hd P m N ⟨H,G⟩ (rtK tb fn.results.toList res) (.code c) [] ⟨P9_ args,λ_=> .no⟩):Fn P G f args res:=by
 refine⟨hcb,hno,λN H L w vs hg hsim hm=>?_⟩;subst hn;have key:Ph P f vs.toArray H (λv H'=>Sim H' res v):=by
   refine ph_of_cw hf hb oT λN=>?_
   have h1:=h hsim.wf N H hg (K9_ vs.toArray) H l0 ⟨.refl H,hg,λt=>Od_ hsim hna t,λi=>trivial⟩
   refine K7_ (λe F' H' L' hq=>?_) h1
   obtain⟨s',ha',hq'⟩:=hq
   obtain⟨he,v,hr,hv⟩:=Qz_ (N:=N) ht ha' hq'
   rcases he with rfl|rfl
   . exact⟨v,hr,ha'.le,hv⟩
   . exact⟨v,hr,ha'.le,hv⟩
 exact (key N L w hm).mono λ_ _ ⟨v,H',h1,h2,h3,h4⟩=>⟨v,H',h1,h2,h3,h4⟩
theorem en_any {F:Fr} {x:Operand} {f:FuncId} {fs cap:List Value} {xs:Array Operand} {ats:Array TypeId} (hx:ev F x = .func (.func f) fs.toArray cap.toArray) (hc:Bo_ P f):En P (.call ⟨.value x,xs,ats⟩) F f (fs++evs F xs.toList++cap).toArray:=λty d pos af g w=>by
 have :=hc (fs++evs F xs.toList++cap).toArray w
 have e3:xs.map (ev F)=(evs F xs.toList).toArray:=by rw[<- Y8_];apply Array.ext';simp
 simp only[List.append_assoc] at this ⊢
 simp[execOp,resolve,Deferred.ofValue,hx,invoke,e3,this]
def argsP (G:Nat->PV) (x:Operand) (xs:List Operand):Option (FuncId×List PV):=
 match evP G x with
 | .fn f fs cap=>some (f,apL fs (apL (evPs G xs) cap))
 |_=>none
where apL:List PV->List PV->List PV
 |[],k=>k
 |p::r,k=>p::apL r k
theorem apL_eq:∀ (a b:List PV),argsP.apL a b=a++b
 |[],b=>rfl
 |p::r,b=>by simp[argsP.apL,apL_eq r b]
theorem Kd_ {sL:Nat->Blk} {H:Hp} {F:Fr} {G:Nat->PV} {x:Operand} {xs:Array Operand} {ats:Array TypeId} {f:FuncId} {args:List PV} (hG:∀ t,SimT sL H (G t) (F t)) (h:argsP G x xs.toList=some (f,args)) (hc:Bo_ P f):∃ vs,Sims H args vs/\En P (.call ⟨.value x,xs,ats⟩) F f vs.toArray:=by
 unfold argsP at h
 split at h
 . rename_i f' fs cap he
   simp only[Option.some.injEq,Prod.mk.injEq] at h
   obtain⟨rfl,rfl⟩:=h
   have h1:=(Da_ hG x).sim
   rw[he] at h1
   obtain⟨vs,us,e,h2,h3⟩:=h1.inv_fn
   refine⟨vs++evs F xs.toList++us,?_,en_any e hc⟩
   rw[apL_eq,apL_eq,<- List.append_assoc]
   exact (h2.append (U3_ λy _=>Da_ hG y)).append h3
 . cases h
theorem call {all rest:List Oper} {Q:Qs} {ks:List Kt} {s:St} {f:FuncId} {args:List PV} {res:PV} {x:Operand} {xs:Array Operand} {ats:Array TypeId} {ty d:Nat} {pos:String} {af:Array Edge} (h:Fn P H0.g f args res) (ha:argsP s.F x xs.toList=some (f,args)) (hd:Nat.blt d n=true)
   (k:res.wf->Hd P n N H0 Q (.ops all rest) ks ⟨updp s.F d res,s.L⟩):Hd P n N H0 Q (.ops all (⟨some d, .call ⟨.value x,xs,ats⟩,ty,pos,af,none⟩::rest)) ks s:=by
 intro F H L hab;obtain⟨vs,h1,h2⟩:=Kd_ (ats:=ats) hab.f ha h.cb;refine ow1 (op1_ph (h.ph hab.g h1) h2 hd λv H' hv hl=>?_);exact k hv.wf _ _ _ ((hab.mono hl).put d (hv.simT h.no))
def gOp (s:St) (all:List Oper) (j:Nat) (want:Bool):Option Bool:=
 match nth all j with
 |some oj=>match oj.dst with
   |some dj=>gC (s.F dj) want
   |none=>none
 |none=>none
theorem Tw_ {s:St} {all:List Oper} {j:Nat} {want g:Bool} {F:Fr} {H:Hp} {L:Ls} (ha:Abs H0 s F H L) (h:gOp s all j want=some g):∃ c b,yF all F j=some (gv c (.bool b))/\g=(c&&gOf b want):=by
 unfold gOp at h
 split at h
 . rename_i oj hj
   split at h
   . rename_i dj hdj
     obtain⟨c,b,hv,hge⟩:=gC_ok h (ha.f dj).sim
     exact⟨c,b,by rw[yF_of hj hdj,hv],hge⟩
   . cases h
 . cases h
theorem ow_gd {F:Fr} {H:Hp} {L:Ls} {ops rest:List Oper} {op:Op} {ty j d:Nat} {pos:String} {af:Array Edge} {Q:Qt} {want c b:Bool} (hy:yF ops F j=some (gv c (.bool b))) (hd:Nat.blt d n=true)
   (ht:(c&&gOf b want)=true->Op1 P n N ops ⟨some d,op,ty,pos,af,none⟩ (λF H L=>Ow P n N ops rest Q F H L) F H L) (hf:(c&&gOf b want)=false->Ow P n N ops rest Q (upd F d undef) H L):Ow P n N ops (⟨some d,op,ty,pos,af,some (j,want)⟩::rest) Q F H L:=by
 cases c with
 |false=>
   refine ow1 λa w ha hm=>?_
   have :yielded ops.toArray a.tmps j=none:=Pq_ ha hy
   rw[if_neg oS]
   exact⟨_,_,_,ha.put pK undef,hm,hf Y⟩
 |true=>
   by_cases e:b=want
   . subst e
     exact ow1 (op1_gd hy Y (ht (by cases b<;>rfl)))
   . refine ow1 (op1_gs hy (b:=b) ?_ hd (hf ?_))
     . exact zB
     . cases b<;>cases want<;>simp_all [gOf]
theorem callg {all rest:List Oper} {Q:Qs} {ks:List Kt} {s:St} {f:FuncId} {args:List PV} {res:PV} {x:Operand} {xs:Array Operand} {ats:Array TypeId} {ty d j:Nat} {want g:Bool} {pos:String} {af:Array Edge} (hg:gOp s all j want=some g) (h:g=true->Fn P H0.g f args res) (ha:argsP (strG (J9_ xs.toList) s.F) x xs.toList=some (f,args)) (hc:AllP (Ow_ s.F g (J9_ xs.toList) [])) (hno:Kv_ s.F (J9_ xs.toList)=true) (hd:Nat.blt d n=true)
   (k:(g=true->res.wf)->Hd P n N H0 Q (.ops all rest) ks ⟨updp s.F d (.gv g res),s.L⟩):Hd P n N H0 Q (.ops all (⟨some d, .call ⟨.value x,xs,ats⟩,ty,pos,af,some (j,want)⟩::rest)) ks s:=by
 intro F H L hab;obtain⟨c,b,hy,hge⟩:=Tw_ hab hg;refine ow_gd hy hd (λe=>?_) (λe=>?_);exact wF;exact wE
end Go.SW
namespace Go.SW
variable {P:Program} {n:Nat} {N:Rest} {H0:Env}
theorem cnd {Q:Qs} {ks:List Kt} {s:St} {c:Operand} {x y:Code} {b:Bool} (hc:evP s.F c = .bool b) (ht:b=true->Hd P n N H0 Q (.code x) ks s) (hf:b=false->Hd P n N H0 Q (.code y) ks s):Hd P n N H0 Q (.code (.cond c x y)) ks s:=sw_cond hc ht hf
def Junk (s s':St):Prop:=(∀ t,s'.F t=s.F t\/s'.F t = .junk)/\∀ i,s'.L i=s.L i\/s'.L i = .no
theorem Junk.le {s s':St} (h:Junk s s'):StLe s s':=λH0 F H L ha=>by
 refine⟨ha.le,ha.g,λt=>?_,λi=>?_⟩
 . rcases h.1 t with e|e
   . rw[e]
     have h1:=ha.f t
     generalize s.F t=p at *
     cases p with
     |osl i=>
       simp only[SimT] at h1 ⊢
       rcases h.2 i with e2|e2
       . rw[e2];exact h1
       . rw[e2];trivial
     |_=>exact h1
   . rw[e];exact Sim.junk
 . rcases h.2 i with e|e
   . rw[e]
     have h1:=ha.l i
     generalize s.L i=B at *
     cases B with
     |box b T cs=>
       obtain⟨vs,h2,h3,h4⟩:=h1
       refine⟨vs,h2,h3,λj p v hp hv=>?_⟩
       have h5:=h4 j p v hp hv
       cases p with
       |osl q=>
         simp only[SimT] at h5 ⊢
         rcases h.2 q with e2|e2
         . rw[e2];exact h5
         . rw[e2];trivial
       |_=>exact h5
     |no=>trivial
     |arr u k e enc xs=>exact h1
     |itr b s p=>exact h1
     |ob b o=>exact h1
   . rw[e];trivial
def lkF:List (Nat×PV)->Nat->Option PV
 |[],_=>none
 |(a,x)::r,t=>bif Nat.beq t a then some x else lkF r t
def mkF (lv:List (Nat×PV)) (keep:List Nat) (G:Nat->PV):Nat->PV:=λt=>match lkF lv t with
 |some p=>p
 |none=>bif memB keep t then G t else .junk
def lkL:List (Nat×Blk)->Nat->Option Blk
 |[],_=>none
 |(a,x)::r,t=>bif Nat.beq t a then some x else lkL r t
def mkL (lv:List (Nat×Blk)) (keep:List Nat) (G:Nat->Blk):Nat->Blk:=λt=>match lkL lv t with
 |some p=>p
 |none=>bif memB keep t then G t else .no
def AllF (F:Nat->PV):List (Nat×PV)->Prop
 |[]=>True
 |(t,p)::r=>F t=p/\AllF F r
def AllL (F:Nat->Blk):List (Nat×Blk)->Prop
 |[]=>True
 |(t,p)::r=>F t=p/\AllL F r
theorem allF_lk {F:Nat->PV}:∀ {lv:List (Nat×PV)} {t:Nat} {p:PV},AllF F lv->lkF lv t=some p->F t=p
 |[],t,p,_,h=>by cases h
 |(a,x)::r,t,p,h,hl=>by
   simp only[lkF] at hl
   cases e:Nat.beq t a with
   |true=>rw[e] at hl;simp at hl;rw[Nat.eq_of_beq_eq_true e,<- hl];exact h.1
   |false=>rw[e] at hl;exact allF_lk h.2 pW
theorem allL_lk {F:Nat->Blk}:∀ {lv:List (Nat×Blk)} {t:Nat} {p:Blk},AllL F lv->lkL lv t=some p->F t=p
 |[],t,p,_,h=>by cases h
 |(a,x)::r,t,p,h,hl=>by
   simp only[lkL] at hl
   cases e:Nat.beq t a with
   |true=>rw[e] at hl;simp at hl;rw[Nat.eq_of_beq_eq_true e,<- hl];exact h.1
   |false=>rw[e] at hl;exact allL_lk h.2 pW
theorem map_mem {α:Type _} {F G:Nat->α}:∀ {l:List Nat},l.map F=l.map G->∀ t∈l,F t=G t
 |[],_,t,h=>by cases h
 |a::r,e,t,h=>by
   simp only[List.map_cons,List.cons.injEq] at e
   rcases List.mem_cons.1 h with rfl|q
   . exact e.1
   . exact map_mem e.2 t q
theorem mk_le {s:St} {lv:List (Nat×PV)} {keep:List Nat} {G:Nat->PV} {lL:List (Nat×Blk)} {kL:List Nat} {GL:Nat->Blk} (h1:keep.map s.F=keep.map G) (h2:kL.map s.L=kL.map GL) (h3:AllF s.F lv) (h4:AllL s.L lL):StLe s ⟨mkF lv keep G,mkL lL kL GL⟩:=by
 refine Junk.le ⟨λt=>?_,λi=>?_⟩
 . simp only[mkF]
   cases e:lkF lv t with
   |some p=>exact .inl (allF_lk h3 e).symm
   |none=>
     cases e2:memB keep t with
     |true=>exact .inl (map_mem h1 t (Pc_ e2)).symm
     |false=>exact .inr Y
 . simp only[mkL]
   cases e:lkL lL i with
   |some p=>exact .inl (allL_lk h4 e).symm
   |none=>
     cases e2:memB kL i with
     |true=>exact .inl (map_mem h2 i (Pc_ e2)).symm
     |false=>exact .inr Y
def LJ {ι:Type _} (S:ι->St) (Φ:ι->Prop) (μ:ι->Nat) (m:Nat):St->Prop:=λs=>∃ x,Φ x/\μ x<m/\StLe s (S x)
theorem sw_loop {ι:Type _} {c:Code} {ks:List Kt} {Q:Qs} {s:St} (S:ι->St) (Φ:ι->Prop) (μ:ι->Nat) (x0:ι) (h0:StLe s (S x0)) (hΦ:Φ x0) (body:∀ x,Φ x->Hd P n N H0 Q (.code c) (.lp (LJ S Φ μ (μ x))::ks) (S x)):Hd P n N H0 Q (.code (.loop c)) ks s:=by
 intro F H L ha;refine cw_loop (λk F H L=>∃ x,Φ x/\μ x=k/\Abs H0 (S x) F H L) (μ x0) ⟨x0,hΦ,rfl,h0 _ _ _ _ ha⟩ λk F H L hI=>?_;obtain⟨x,hx,rfl,hax⟩:=hI;refine K7_ (λe F' H' L' hq=>?_) (body x hx F H L hax);obtain⟨s',ha',hq'⟩:=hq
 cases e with
 |normal=>
   obtain⟨x',h1,h2,h3⟩:=hq'
   exact⟨μ x',h2,x',h1,rfl,h3 _ _ _ _ ha'⟩
 |_=>exact⟨s',ha',hq'⟩
theorem loop {ι:Type _} {c:Code} {ks:List Kt} {Q:Qs} {s:St} (keep kL:List Nat) (lv:ι->List (Nat×PV)) (lL:ι->List (Nat×Blk)) (Φ:ι->Prop) (μ:ι->Nat) (x0:ι) (h1:AllF s.F (lv x0)) (h2:AllL s.L (lL x0)) (hΦ:Φ x0) (body:∀ x,Φ x->Hd P n N H0 Q (.code c) (.lp (LJ (λx=>⟨mkF (lv x) keep s.F,mkL (lL x) kL s.L⟩) Φ μ (μ x))::ks) ⟨mkF (lv x) keep s.F,mkL (lL x) kL s.L⟩):Hd P n N H0 Q (.code (.loop c)) ks s:=
 sw_loop (λx=>⟨mkF (lv x) keep s.F,mkL (lL x) kL s.L⟩) Φ μ x0 (mk_le Y Y h1 h2) hΦ body
theorem next {ι:Type _} {keep kL:List Nat} {G:Nat->PV} {GL:Nat->Blk} {lv:ι->List (Nat×PV)} {lL:ι->List (Nat×Blk)} {Φ:ι->Prop} {μ:ι->Nat} {m:Nat} {s:St} {ks:List Kt} {Q:Qs} (x':ι) (h1:keep.map s.F=keep.map G) (h2:kL.map s.L=kL.map GL) (h3:AllF s.F (lv x')) (h4:AllL s.L (lL x')) (hm:μ x'<m) (hΦ:Φ x'):Hd P n N H0 Q (.ex .normal) (.lp (LJ (λx=>⟨mkF (lv x) keep G,mkL (lL x) kL GL⟩) Φ μ m)::ks) s:=
 ⟨x',hΦ,hm,mk_le h1 h2 h3 h4⟩
theorem simT_lups {L:Nat->Blk} {H:Hp} {i:Nat} {B:Blk} {p:PV} {v:Value} (h:SimT L H p v) (hi:p ≠ .osl i):SimT (lups L i B) H p v:=by
 cases p with
 |osl j=>
   have :j≠i:=λe=>hi (by rw[e])
   simp only[SimT,Jw_ _ _ _ _ this] at h ⊢
   exact h
 |_=>exact h
def purge (i:Nat):PV->PV
 | .osl j=>bif Nat.beq j i then .junk else .osl j
 |p=>p
theorem purge_ok {L:Nat->Blk} {H:Hp} {i:Nat} {B:Blk} {p:PV} {v:Value} (h:SimT L H p v):SimT (lups L i B) H (purge i p) v:=by
 cases p with
 |osl j=>
   simp only[purge]
   cases e:Nat.beq j i with
   |true=>exact Sim.junk
   |false=>exact simT_lups h (λq=>by cases q;simp at e)
 |_=>exact h
def purgeB (i:Nat):Blk->Blk
 | .box b T cs=> .box b T (cs.map (purge i))
 |B=>B
theorem purges_ok {L:Nat->Blk} {H:Hp} {i:Nat} {B:Blk} {ps:List PV} {vs:List Value} (h:SimTs L H ps vs):SimTs (lups L i B) H (ps.map (purge i)) vs:=by
 refine⟨by simp[h.1],λj p v hp hv=>?_⟩;rw[List.getElem?_map] at hp
 cases e:ps[j]? with
 |none=>rw[e] at hp;cases hp
 |some q=>rw[e] at hp;cases hp;exact purge_ok (h.2 j q v e hv)
def Ip_ (i:Nat) (F:Nat->PV):Nat->PV:=λt=>purge i (F t)
def G3_ (i:Nat) (L:Nat->Blk):Nat->Blk:=λt=>purgeB i (L t)
theorem Abs.turn {s:St} {F:Fr} {H:Hp} {L:Ls} (ha:Abs H0 s F H L) (i:Nat) {B:Blk} {x:Option (Nat×Obj)} (hx:SimB (lups (G3_ i s.L) i B) H B x):Abs H0 ⟨Ip_ i s.F,lups (G3_ i s.L) i B⟩ F H (lupd L i x):=by
 have hshape:∀ {q p v},SimT (lups s.L i q) H p v->SimT (lups (G3_ i s.L) i q) H p v:=λ{q p v} h=>by
   cases p with
   |osl j=>
     by_cases e:j=i
     . subst e;simp only[SimT,Ef_] at h ⊢;exact h
     . simp only[SimT,Jw_ _ _ _ _ e,G3_] at h ⊢
       generalize s.L j=C at *
       cases C<;>exact h
   |_=>exact h
 refine⟨ha.le,ha.g,λt=>hshape (purge_ok (ha.f t)),λj=>?_⟩;by_cases e:j=i;exact rD
 . simp only[Jw_ _ _ _ _ e,Cj_ _ _ _ _ e,G3_]
   have h1:=ha.l j
   generalize s.L j=C at *
   cases C with
   |box b T cs=>
     obtain⟨vs,h2,h3⟩:=h1
     exact⟨vs,h2,(purges_ok (B:=B) h3).1,λa p v hp hv=>hshape ((purges_ok (B:=B) h3).2 a p v hp hv)⟩
   |no=>trivial
   |arr u k e enc xs=>exact h1
   |itr b s p=>exact h1
   |ob b o=>exact h1
theorem Abs.turnB {s:St} {F:Fr} {H:Hp} {L:Ls} (ha:Abs H0 s F H L) (i:Nat) {B:Blk} {x:Option (Nat×Obj)} (hB:match B with| .arr _ _ _ _ _=>False|_=>True) (hx:SimB (lups s.L i B) H B x):Abs H0 ⟨s.F,lups s.L i B⟩ F H (lupd L i x):=by
 have hshape:∀ {p v},SimT s.L H p v->SimT (lups s.L i B) H p v:=λ{p v} h=>by
   cases p with
   |osl j=>
     by_cases e:j=i
     . subst e;simp only[SimT,Ef_];cases B<;>first|trivial|exact hB.elim
     . exact sW
   |_=>exact h
 refine⟨ha.le,ha.g,λt=>hshape (ha.f t),λj=>?_⟩;by_cases e:j=i;exact rD
 . simp only[Jw_ _ _ _ _ e,Cj_ _ _ _ _ e]
   have h1:=ha.l j
   generalize s.L j=C at *
   cases C with
   |box b T cs=>obtain⟨vs,h2,h3,h4⟩:=h1;exact⟨vs,h2,h3,λa p v hp hv=>hshape (h4 a p v hp hv)⟩
   |no=>trivial
   |arr u k e enc xs=>exact h1
   |itr b s p=>exact h1
   |ob b o=>exact h1
variable {all rest:List Oper} {Q:Qs} {ks:List Kt} {s:St} {T ty d:Nat} {pos:String} {af:Array Edge} {x y z:Operand} {K:St->Prop}
def E1 (P:Program) (n:Nat) (N:Rest) (H0:Env) (all:List Oper) (o:Oper) (j:Option Nat) (s:St) (K:St->Prop):Prop:=
 ∀ F H L,Abs H0 s F H L->Op1 P n N all o (λF' H' L'=>HLe H H'/\(∀ i,j≠some i->L' i=L i)/\∃ s',Abs H0 s' F' H' L'/\K s') F H L
theorem Op1.imp {o:Oper} {K K':Fr->Hp->Ls->Prop} {F:Fr} {H:Hp} {L:Ls} (h:Op1 P n N all o K F H L) (hk:∀ F H L,K F H L->K' F H L):Op1 P n N all o K' F H L:=λa w ha hm=>by
 have :=h a w ha hm
 split
 . rename_i hw
   rw[if_pos hw] at this
   exact Tr_ (λa' w' ⟨F',H',L',x,y,z⟩=>⟨F',H',L',x,y,hk _ _ _ z⟩) (λ_ _ _ x=>x) this
 . rename_i hw
   rw[if_neg hw] at this
   obtain⟨F',H',L',x,y,z⟩:=this
   exact⟨F',H',L',x,y,hk _ _ _ z⟩
theorem ef {o:Oper} {j:Option Nat} (h:E1 P n N H0 all o j s (λs'=>Hd P n N H0 Q (.ops all rest) ks s')):Hd P n N H0 Q (.ops all (o::rest)) ks s:=λF H L ha=>
 ow1 ((h F H L ha).imp λF' H' L' ⟨_,_,s',h1,h2⟩=>h2 F' H' L' h1)
theorem only {L:Ls} {j:Nat} {x:Option (Nat×Obj)}:∀ i,some j≠some i->lupd L j x i=L i:=λi h=>Cj_ _ _ _ _ λe=>h (by rw[e])
theorem Kn_ {L:Nat->Blk} {H:Hp} {ps:List PV} {vs:List Value} (h:Sims H ps vs) (hn:C4_ ps=true):SimTs L H ps vs:=⟨h.1,λi p v hp hv=>(h.2 i p v hp hv).simT (Tj_ hn hp)⟩
theorem boxA (i:Nat) {cs:List PV} (hx:evP s.F x = .agg cs) (hn:C4_ cs=true) (hd:Nat.blt d n=true) (k:∀ b,K ⟨updp s.F d (.own i b 0),lups s.L i (.box b T cs)⟩):E1 P n N H0 all ⟨some d, .box T x,ty,pos,af,none⟩ (some i) s K:=by
 intro F H L ha;have h1:=(Da_ ha.f x).sim;rw[hx] at h1;obtain⟨vs,e,h2⟩:=h1.inv_agg;exact op1_box i hd e λb=>⟨.refl H,only,_,(ha.turnB (B:= .box b T cs) i Z ⟨vs,rfl,Kn_ h2 hn⟩).put (p:= .own i b 0) d Sim.own,k b⟩
theorem one_cells {v:Value} (h:v.oneCell'=true):v.cells = #[v]:=by cases v<;>first|rfl|(simp[Value.oneCell'] at h)
def evS (p:PV):Option PV:=frc p some
theorem evS_eq {p q:PV} (h:evS p=some q):p=q:=by simp only[evS,Xu_,Option.some.injEq] at h;exact h
def evL (l:List PV):Option (List PV):=frcL l some
theorem evL_eq {l m:List PV} (h:evL l=some m):l=m:=by simp only[evL,Ta_,Option.some.injEq] at h;exact h
theorem box1 (i:Nat) {p:PV} (hx:evS (evP s.F x)=some p) (ho:p.one=true) (hd:Nat.blt d n=true) (k:∀ b,K ⟨updp s.F d (.own i b 0),lups s.L i (.box b T [p])⟩):E1 P n N H0 all ⟨some d, .box T x,ty,pos,af,none⟩ (some i) s K:=by
 intro F H L ha;have hx:=evS_eq hx;have h1:=(Da_ ha.f x).sim;rw[hx] at h1;have hno:p.noOsl=true:=by cases p<;>first|rfl|(simp[PV.one] at ho)
 exact op1_box1 i hd Y (one_cells (h1.one ho)) λb=>⟨.refl H,only,_,(ha.turnB (B:= .box b T [p]) i Z ⟨[ev F x],rfl,Kn_ (Sims.nil.cons h1) (by simp[C4_,hno])⟩).put (p:= .own i b 0) d Sim.own,k b⟩
theorem alloc {tb:Tb} {ti:TI} {zs:List PV} (ht:tbB P tb=true) (i:Nat) (hti:lkT tb T=some ti) (hz:evL ti.zero=some zs) (hn:C4_ zs=true) (hd:Nat.blt d n=true) (k:∀ b,K ⟨updp s.F d (.own i b 0),lups s.L i (.box b T zs)⟩):E1 P n N H0 all ⟨some d, .alloc T,ty,pos,af,none⟩ (some i) s K:=by
 intro F H L ha;have hz:=evL_eq hz;subst hz;obtain⟨zv,hz,hs⟩:=(D8_ ht hti).zero;exact We_ i hd (cs:=zv.cells.toList) (λw=>⟨zv,hz w,by simp⟩) λb=>⟨.refl H,only,_,(ha.turnB (B:= .box b T ti.zero) i trivial ⟨_,rfl,Kn_ (hs H) hn⟩).put (p:= .own i b 0) d Sim.own,k b⟩
theorem SimTs.set {L:Nat->Blk} {H:Hp} {ps:List PV} {vs:List Value} (h:SimTs L H ps vs) {p:PV} {v:Value} (m:Nat) (hp:SimT L H p v):SimTs L H (ps.set m p) (vs.set m v):=by
 refine⟨by simp[h.1],λi q u hq hu=>?_⟩;rw[List.getElem?_set] at hq hu
 split at hq
 . rename_i e
   rw[if_pos e] at hu
   split at hq
   . split at hu
     . cases hq;cases hu;exact hp
     . cases hu
   . cases hq
 . rename_i e;rw[if_neg e] at hu;exact h.2 i q u hq hu
theorem SimTs.append {L:Nat->Blk} {H:Hp} {ps qs:List PV} {vs us:List Value} (h:SimTs L H ps vs) (k:SimTs L H qs us):SimTs L H (ps++qs) (vs++us):=by
 refine⟨by simp[h.1,k.1],λi p v hp hv=>?_⟩
 rcases Nat.lt_or_ge i ps.length with q|q
 rw[List.getElem?_append_left q] at hp;rw[List.getElem?_append_left (by rw[h.1];exact q)] at hv;exact h.2 i p v hp hv;rw[List.getElem?_append_right q] at hp;rw[List.getElem?_append_right (by rw[h.1];exact q),h.1] at hv;exact k.2 _ p v hp hv
theorem SimTs.take {L:Nat->Blk} {H:Hp} {ps:List PV} {vs:List Value} (h:SimTs L H ps vs) (m:Nat):SimTs L H (ps.take m) (vs.take m):=by
 refine⟨by simp[h.1],λi p v hp hv=>?_⟩;rw[List.getElem?_take] at hp hv
 split at hp
 . rename_i q;rw[if_pos q] at hv;exact h.2 i p v hp hv
 . cases hp
theorem SimTs.drop {L:Nat->Blk} {H:Hp} {ps:List PV} {vs:List Value} (h:SimTs L H ps vs) (m:Nat):SimTs L H (ps.drop m) (vs.drop m):=by
 exact tO
theorem Ur_ {L:Nat->Blk} {H:Hp} {i b b':Nat} {T T':TypeId} {cs cs':List PV} (hb:L i = .box b T cs) {p:PV} {v:Value} (h:SimT L H p v):SimT (lups L i (.box b' T' cs')) H p v:=by
 cases p with
 |osl j=>
   by_cases e:j=i
   . subst e;simp only[SimT,Ef_]
   . exact sW
 |_=>exact h
theorem store1 {tb:Tb} {ti:TI} {i b b' off T0:Nat} {cs cs':List PV} {p:PV} (ht:tbB P tb=true) (hx:evP s.F x = .own i b off) (hb:s.L i = .box b' T0 cs) (hti:lkT tb T=some ti) (hsz:ti.size=1) (hy:evS (evP s.F y)=some p) (ho:p.one=true) (hl:Nat.blt off cs.length=true) (hbb:b'=b) (hc:evL (cs.set off p)=some cs')
   (k:K ⟨s.F,lups s.L i (.box b T0 cs')⟩):E1 P n N H0 all ⟨none, .store T x y,ty,pos,af,none⟩ (some i) s K:=by
 intro F H L ha;subst hbb;have hc:=evL_eq hc;subst hc;have hy:=evS_eq hy;have h1:=(Da_ ha.f x).sim;rw[hx] at h1;have h2:=Da_ ha.f y;unfold Ok1 at h2;rw[hy] at h2;have h3:=ha.l i;rw[hb] at h3;obtain⟨vs,hL,hs⟩:=h3;have hsz':=(D8_ ht hti).sz;rw[hsz] at hsz';refine Ly_ h1.inv_own Y (h2.sim.one ho) hsz' hL oZ ?_;refine⟨.refl H,only,_,ha.turnB (B:= .box _ T0 (cs.set off p)) i Z ⟨_,rfl,?_⟩,k⟩;have h4:=hs.set off h2;exact xL
def all1:List PV->Bool
 |[]=>true
 |p::r=>p.one&&all1 r
theorem S2_ {H:Hp}:∀ {ps:List PV} {vs:List Value},Sims H ps vs->all1 ps=true->vs.all Value.oneCell'=true
 |[],vs,h,_=>by cases h.inv_nil;rfl
 |p::r,vs,h,ho=>by
   obtain⟨v,us,rfl,h1,h2⟩:=h.inv_cons
   simp only[all1,Bool.and_eq_true] at ho
   simp only[List.all_cons,Bool.and_eq_true]
   exact⟨h1.one ho.1,S2_ h2 ho.2⟩
theorem storeA {tb:Tb} {ti:TI} {i b b' off T0:Nat} {cs ps cs':List PV} (ht:tbB P tb=true) (hx:evP s.F x = .own i b off) (hb:s.L i = .box b' T0 cs) (hti:lkT tb T=some ti) (hy:evP s.F y = .agg ps) (hn:C4_ ps=true) (ho:all1 ps=true) (hsz:ps.length=ti.size) (hl:Nat.ble (off+ti.size) cs.length=true) (hbb:b'=b) (hc:evL (cs.take off++(ps++cs.drop (off+ti.size)))=some cs')
   (k:K ⟨s.F,lups s.L i (.box b T0 cs')⟩):E1 P n N H0 all ⟨none, .store T x y,ty,pos,af,none⟩ (some i) s K:=by
 intro F H L ha;subst hbb;have hc:=evL_eq hc;subst hc;have h1:=(Da_ ha.f x).sim;rw[hx] at h1;have h2:=(Da_ ha.f y).sim;rw[hy] at h2;obtain⟨us,e,h2⟩:=h2.inv_agg;have h3:=ha.l i;rw[hb] at h3;obtain⟨vs,hL,hs⟩:=h3;have hl':=Nat.le_of_ble_eq_true hl;refine Wf_ (m:=ti.size) (vs.take off++(us++vs.drop (off+ti.size))) h1.inv_own e (S2_ h2 ho) (D8_ ht hti).sz (by rw[h2.1,hsz]) hL oZ Y ?_;refine⟨.refl H,only,_,ha.turnB (B:= .box _ T0 _) i Z ⟨_,rfl,?_⟩,k⟩;have h4:=(hs.take off).append ((Kn_ (L:=s.L) h2 hn).append (hs.drop (off+ti.size)));exact xL
end Go.SW
namespace Go.SW
variable {P:Program} {n:Nat} {N:Rest} {H0:Env} {all rest:List Oper} {Q:Qs} {ks:List Kt} {s:St} {T T2 ty d:Nat} {pos:String} {af:Array Edge} {x y z:Operand} {K:St->Prop}
def SrcP (P:Program) (N:Rest) (H0:Env) (s:St) {α:Type} (enc:α->List PV) (k:Nat) (y:Operand) (ys:List α):Prop:=
 ∀ F H L,Abs H0 s F H L->∃ news,Src P N H L k (ev F y) ys.length news/\Rl (RowE enc k) H ys news/\∀ u∈news,u.oneCell'=true
theorem src_own {F:Fr} {H:Hp} {L:Ls} {k e i:Nat} {v:Value} {len:Nat} {cs:List Value} (h:OwnV k e v (L i) len cs):Src P N H L k v len cs:=by
 obtain⟨hl,h⟩:=h;refine⟨hl,λw hm=>?_⟩
 rcases h with ⟨rfl,rfl,_⟩|⟨b,cap,c,f,rfl,hL,hc,hle,ht,hff⟩
 have :cs=[]:=List.length_eq_zero_iff.1 pW;subst this;exact⟨by simp[Builtin.lenOf],by simp[Builtin.firstCells]⟩;refine⟨by simp[Builtin.lenOf],?_⟩
 have :=run_loadCells_list (P:=P) w ⟨b,f.length,none⟩ cs (λj v hj=>by
   rw[Ge_]
   refine hm.cellL hL ?_
   rw[List.getElem?_append_right pB,Nat.add_sub_cancel_left]
   subst ht
   rw[List.getElem?_take] at hj
   split at hj
   . exact hj
   . cases hj)
 rw[hl] at this;simpa [Builtin.firstCells] using this
theorem src_l {α:Type} {enc:α->List PV} {k:Nat} {ys:List α} (hy:evP s.F y = .sl enc ys) (hk:∀ a,(enc a).length=k):SrcP P N H0 s enc k y ys:=λF H L ha=>by
 have h1:=(Da_ ha.f y).sim
 rw[hy] at h1
 obtain⟨k0,hs,hb⟩:=h1.slh
 cases ys with
 |nil=>
   obtain⟨⟨a,c,e,hc⟩,_⟩:=hs
   refine⟨[],⟨by simp,λw hm=>?_⟩,rl_nil,λu hu=>by cases hu⟩
   rw[e]
   refine⟨by simp[Builtin.lenOf],?_⟩
   cases a with
   |none=>simp[Builtin.firstCells]
   |some a=>
     have :=run_loadCells_list (P:=P) w a [] (λj v hj=>by simp at hj)
     simpa [Builtin.firstCells] using this
 |cons a r=>
   have e:k0=k:=by
     obtain⟨cs,hE,_⟩:=hs.get (show (a::r)[0]? = some a from rfl)
     rw[<- hE.1,hk]
   subst e
   obtain⟨news,h2,h3,h4⟩:=src_slE (P:=P) K4_ hs
   exact⟨news,h4 N L,h2,h3⟩
theorem src_o {α:Type} {enc:α->List PV} {i e k:Nat} {u:Value} {ys:List α} (hy:evP s.F y = .osl i) (hb:s.L i = .arr u k e enc ys):SrcP P N H0 s enc k y ys:=λF H L ha=>by
 have h1:=Da_ ha.f y
 unfold Ok1 at h1
 rw[hy] at h1
 simp only[SimT,hb] at h1
 have h2:=ha.l i
 rw[hb] at h2
 obtain⟨cs,ho,hr,hm⟩:=h2
 rw[h1]
 exact⟨cs,src_own (F:=F) ho,hr,rl_one' K4_ hr⟩
def u8c (c:UInt8):List PV:=[.int .u8 c.toNat]
theorem u8_sim {H:Hp} (c:UInt8):Sim H (.int .u8 c.toNat) (.int .u8 c.toNat):=by
 have :=c.toNat_lt;exact xW
def X7_ (tb:Tb) (T:TypeId):Bool:=
 match lkT tb T with
 |some ti=>match ti.k with
   | .slc _=>true
   | .str=>true
   |_=>false
 |none=>false
theorem noIntT_ok {tb:Tb} (ht:tbB P tb=true) {T:TypeId} (h:X7_ tb T=true):∃ d2,P.underlying T=some d2/\noInt d2=true:=by
 unfold X7_ at h
 split at h
 . rename_i ti hti
   split at h
   . rename_i e hk;exact⟨_,(D8_ ht hti).slc hk,rfl⟩
   . rename_i hk;exact⟨_,(D8_ ht hti).str hk,rfl⟩
   . cases h
 . cases h
theorem zero_one {tb:Tb} {t:Nat} {ti:TI} (ht:tbB P tb=true) (hti:lkT tb t=some ti) (h1:ti.zero.length=ti.size):∃ zs:List Value,Zr P t zs/\zs.length=ti.size:=by
 obtain⟨zv,hz,hs⟩:=(D8_ ht hti).zero;exact⟨zv.cells.toList,λw=>⟨zv,hz w,by simp⟩,by rw[(hs (λ_=>none)).1,h1]⟩
theorem app {α:Type} {tb:Tb} {i e k:Nat} {u:Value} {enc:α->List PV} {xs:List α} {te:TI} (ht:tbB P tb=true) (ys:List α) (hx:evP s.F x = .osl i) (hb:s.L i = .arr u k e enc xs) {ti:TI} (hti:lkT tb T=some ti) (htk:ti.k = .slc e) (hT2:X7_ tb T2=true) (hte:lkT tb e=some te) (hz:te.zero.length=te.size) (hby:Nat.blt 0 te.bytes=true) (hk:te.size=k) (hy:SrcP P N H0 s enc k y ys) (hs:(xs.length+ys.length)*te.bytes<=140737488355328) (hd:Nat.blt d n=true)
   (kk:∀ u',K ⟨updp (Ip_ i s.F) d (.osl i),lups (G3_ i s.L) i (.arr u' k e enc (xs++ys))⟩):E1 P n N H0 all ⟨some d, .call ⟨.builtin .append,#[x,y],#[T,T2]⟩,ty,pos,af,none⟩ (some i) s K:=by
 intro F H L ha;have h1:=Da_ ha.f x;unfold Ok1 at h1;rw[hx] at h1;simp only[SimT,hb] at h1;have h2:=ha.l i;rw[hb] at h2;obtain⟨cs,ho,hr,hm⟩:=h2;obtain⟨news,h3,h4,h5⟩:=hy F H L ha;obtain⟨d2,hd2,hn2⟩:=noIntT_ok ht hT2;obtain⟨zs,hzr,hzl⟩:=zero_one ht hte hz;have hok:=D8_ ht hte;subst hk;have hby':0<te.bytes:=by simpa using hby
 have hlen:xs.length+ys.length<=140737488355328:=Nat.le_trans (Nat.le_mul_of_pos_right _ hby') hs;refine op1_app i h1 Y ((D8_ ht hti).slc htk) hd2 hn2 hok.sz hok.by_ hby' hzr ho h3 h5 hzl hs hd λv' en' hv'=>?_;exact⟨.refl H,only,_,(ha.turn i (B:= .arr v' te.size e enc (xs++ys)) ⟨_,by simpa using hv',rl_app hr h4,by simpa using hlen⟩).put d oG,kk v'⟩
theorem app0 {α:Type} {tb:Tb} (i:Nat) {e:Nat} {enc:α->List PV} {te:TI} (ht:tbB P tb=true) (ys:List α) (hx:evP s.F x = .val (.slice none 0 0)) {ti:TI} (hti:lkT tb T=some ti) (htk:ti.k = .slc e) (hT2:X7_ tb T2=true) (hte:lkT tb e=some te) (hz:te.zero.length=te.size) (hby:Nat.blt 0 te.bytes=true) (hy:SrcP P N H0 s enc te.size y ys) (hs:ys.length*te.bytes<=140737488355328) (hd:Nat.blt d n=true) (hno:s.L i = .no)
   (kk:∀ u',K ⟨updp (Ip_ i s.F) d (.osl i),lups (G3_ i s.L) i (.arr u' te.size e enc ys)⟩):E1 P n N H0 all ⟨some d, .call ⟨.builtin .append,#[x,y],#[T,T2]⟩,ty,pos,af,none⟩ (some i) s K:=by
 intro F H L ha;have h1:=(Da_ ha.f x).sim;rw[hx] at h1
 have hL0:Abs H0 s F H (lupd L i none):=⟨ha.le,ha.g,ha.f,λj=>by
   by_cases e:j=i
   . subst e;rw[hno];trivial
   . rw[Cj_ _ _ _ _ e];exact ha.l j⟩
 suffices hsuf:Op1 P n N all _ _ F H (lupd L i none) from λa w hA hm=>hsuf a w hA (hm.clear i)
 obtain⟨news,h3,h4,h5⟩:=hy F H _ hL0;obtain⟨d2,hd2,hn2⟩:=noIntT_ok ht hT2;obtain⟨zs,hzr,hzl⟩:=zero_one ht hte hz;have hok:=D8_ ht hte;have hby':0<te.bytes:=by simpa using hby
 have hlen:ys.length<=140737488355328:=Nat.le_trans (Nat.le_mul_of_pos_right _ hby') hs;have hs':(0+ys.length)*te.bytes<=140737488355328:=by simpa using hs
 refine op1_app i h1.inv_val Y ((D8_ ht hti).slc htk) hd2 hn2 hok.sz hok.by_ hby' hzr (by rw[Cn_];exact P1_) h3 h5 hzl hs' hd λv' en' hv'=>?_;refine⟨.refl H,λj hj=>?_,_,(hL0.turn i (B:= .arr v' te.size e enc ys) ⟨_,by simpa using hv',h4,by simpa using hlen⟩).put d oG,kk v'⟩;have hne:j≠i:=λe=>hj (by rw[e]);rw[Cj_ _ _ _ _ hne,Cj_ _ _ _ _ hne]
def bslP (G:Nat->PV):List (Nat×Operand)->Nat->Option (List (List PV))
 |[],_=>some []
 |(j,x)::r,i=>match Nat.beq j i with
   |true=>match (evP G x).cellsOf with
     |some c=>match all1 c with
       |true=>match bslP G r (i+1) with
         |some rows=>some (c::rows)
         |none=>none
       |false=>none
     |none=>none
   |false=>none
theorem bslP_ok {sL:Nat->Blk} {H:Hp} {F:Fr} {G:Nat->PV} (hG:∀ t,SimT sL H (G t) (F t)) {k:Nat}:∀ (ps:List (Nat×Operand)) (i:Nat) (rows:List (List PV)),bslP G ps i=some rows->(∀ r∈rows,r.length=k) ->
   Zk_ k i (evp F ps)/\(evp F ps).length=rows.length/\∀ {α:Type} (enc:α->List PV) (xs:List α),rows=xs.map enc->Rl (RowE enc k) H xs (Ps_ (evp F ps))
 |[],i,rows,h,_=>by
   simp only[bslP,Option.some.injEq] at h
   subst h
   exact ⟨trivial,rfl,λenc xs e=>by
     have :xs=[]:=by simpa using e.symm
     subst this;exact rl_nil⟩
 |(j,x)::r,i,rows,h,hk=>by
   simp only[bslP] at h
   split at h
   . rename_i hj
     split at h
     . rename_i c hc
       split at h
       . rename_i h1
         split at h
         . rename_i rows' hr
           cases h
           obtain⟨a1,a2,a3⟩:=bslP_ok hG r (i+1) rows' hr λq hq=>hk q (List.mem_cons_of_mem _ hq)
           have hv:=Xp_ (Da_ hG x).sim hc
           have hck:=hk c List.mem_cons_self
           refine⟨⟨Nat.eq_of_beq_eq_true hj,by rw[<- hck,<- hv.1];simp,a1⟩,by simp[evp,a2],λenc xs e=>?_⟩
           cases xs with
           |nil=>cases e
           |cons a xs=>
             simp only[List.map_cons,List.cons.injEq] at e
             obtain⟨rfl,e2⟩:=e
             refine⟨_,_,rfl,⟨hck,hv,λu hu=>?_⟩,a3 enc xs e2⟩
             have :=S2_ hv h1
             rw[List.all_eq_true] at this
             exact this u hu
         . cases h
       . cases h
     . cases h
   . cases h
theorem bsl {α:Type} {tb:Tb} (i:Nat) {e len:Nat} {ps:Array (Nat×Operand)} (enc:α->List PV) (xs:List α) {rows:List (List PV)} {ti te:TI} (ht:tbB P tb=true) (hti:lkT tb T=some ti) (htk:ti.k = .slc e) (hte:lkT tb e=some te) (hr:bslP s.F ps.toList 0=some rows) (hx:rows=xs.map enc) (hk:∀ a,(enc a).length=te.size) (hl:xs.length=len) (hs:len*te.size<=16777216) (hs2:len<=140737488355328) (hd:Nat.blt d n=true)
   (kk:∀ u',K ⟨updp (Ip_ i s.F) d (.osl i),lups (G3_ i s.L) i (.arr u' te.size e enc xs)⟩):E1 P n N H0 all ⟨some d, .buildSlice T len ps,ty,pos,af,none⟩ (some i) s K:=by
 obtain⟨pl,rfl⟩:∃ pl:List (Nat×Operand),ps=pl.toArray:=⟨ps.toList,by simp⟩;simp only[List.toList_toArray] at hr;intro F H L ha;have hrow:∀ r∈rows,r.length=te.size:=λr hr=>by
   rw[hx] at hr
   obtain⟨a,_,rfl⟩:=List.mem_map.1 hr
   exact hk a
 obtain⟨a1,a2,a3⟩:=bslP_ok ha.f pl 0 rows hr hrow;have hrl:=a3 enc xs hx;obtain⟨zv,hz,_⟩:=(D8_ ht hte).zero;have hlen:(evp F pl).length=len:=by rw[a2,hx];simpa using hl
 refine X8_ i hd ((D8_ ht hti).slc htk) (D8_ ht hte).sz ⟨zv,hz⟩ Y a1 hlen Y hs λb=>?_;refine⟨.refl H,only,_,(ha.turn i (B:= .arr (.slice (some ⟨b,0,none⟩) len len) te.size e enc xs) ⟨_,?_,hrl,by omega⟩).put d oG,kk _⟩;rw[<- hl];exact ownV_bx (rl_len K4_ hrl)
def giveP {α:Type} (i:Nat) (enc:α->List PV) (xs:List α):PV->PV
 | .osl j=>bif Nat.beq j i then .sl enc xs else .osl j
 |p=>p
def giveF {α:Type} (i:Nat) (enc:α->List PV) (xs:List α) (F:Nat->PV):Nat->PV:=λt=>giveP i enc xs (F t)
def giveB {α:Type} (i:Nat) (enc:α->List PV) (xs:List α):Blk->Blk
 | .box b T cs=> .box b T (cs.map (giveP i enc xs))
 |B=>B
def Zf_ {α:Type} (i:Nat) (enc:α->List PV) (xs:List α) (L:Nat->Blk):Nat->Blk:=λt=>bif Nat.beq t i then .no else giveB i enc xs (L t)
theorem Abs.give {α:Type} {i e k:Nat} {u:Value} {enc:α->List PV} {xs:List α} {F:Fr} {H H':Hp} {L:Ls} (ha:Abs H0 s F H L) (hb:s.L i = .arr u k e enc xs) (hl:HLe H H') (hH:∀ b o,L i=some (b,o)->H' b=some o):Abs H0 ⟨giveF i enc xs s.F,Zf_ i enc xs s.L⟩ F H' (lupd L i none):=by
 have hi:=ha.l i;rw[hb] at hi;obtain⟨cs,ho,hr,hm⟩:=hi;have hsl:Sim H' (.sl enc xs) u:=Sim.of_slh (slh_ownE K4_ ho (hr.mono Pl_ hl) hH) hm;have hp:∀ {p v},SimT s.L H p v->SimT (Zf_ i enc xs s.L) H' (giveP i enc xs p) v:=λ{p v} h=>by
   cases p with
   |osl j=>
     simp only[giveP]
     cases q:Nat.beq j i with
     |true=>
       have :=Nat.eq_of_beq_eq_true q
       subst this
       simp only[SimT,hb] at h
       subst h
       exact hsl
     |false=>
       simp only[SimT] at h
       show SimT _ _ (.osl j) v
       simp only[SimT,Zf_,q,cond_false]
       generalize s.L j=B at *
       cases B<;>first|exact h|trivial
   |_=>exact Sim.mono hl h
 refine⟨ha.le.trans hl,H0.g.mono _ _ hl ha.g,λt=>hp (ha.f t),λj=>?_⟩;simp only[Zf_]
 cases q:Nat.beq j i with
 |true=>trivial
 |false=>
   have hne:j≠i:=λe=>by subst e;simp at q
   rw[Cj_ _ _ _ _ hne]
   have h1:=ha.l j
   simp only[cond_false]
   generalize s.L j=B at *
   cases B with
   |box b T cs'=>
     obtain⟨vs,h2,h3,h4⟩:=h1
     refine⟨vs,h2,by simp[h3],λa p v hpp hv=>?_⟩
     rw[List.getElem?_map] at hpp
     cases q2:cs'[a]? with
     |none=>rw[q2] at hpp;cases hpp
     |some p0=>rw[q2] at hpp;cases hpp;exact hp (h4 a p0 v q2 hv)
   |no=>trivial
   |arr u2 k2 e2 enc2 xs2=>obtain⟨c2,h2,h3,h4⟩:=h1;exact⟨c2,h2,h3.mono Pl_ hl,h4⟩
   |itr b s2 p=>exact h1
   |ob b o=>exact h1
theorem give {α:Type} {e k:Nat} {u:Value} {enc:α->List PV} {xs:List α} (i:Nat) (hb:s.L i = .arr u k e enc xs) (kk:Hd P n N H0 Q (.ops all rest) ks ⟨giveF i enc xs s.F,Zf_ i enc xs s.L⟩):Hd P n N H0 Q (.ops all rest) ks s:=by
 intro F H L ha;exact ow_giveO i Y λH' hl hg=>kk _ _ _ (ha.give hb hl hg)
theorem givec {α:Type} {e k:Nat} {u:Value} {enc:α->List PV} {xs:List α} {c:Code} (i:Nat) (hb:s.L i = .arr u k e enc xs) (kk:Hd P n N H0 Q (.code c) ks ⟨giveF i enc xs s.F,Zf_ i enc xs s.L⟩):Hd P n N H0 Q (.code c) ks s:=by
 intro F H L ha;exact cw_giveO i Y λH' hl hg=>kk _ _ _ (ha.give hb hl hg)
theorem calll {α:Type} {e k:Nat} {u:Value} {enc:α->List PV} {ls:List α} {f:FuncId} {args:List PV} {res:PV} {xs:Array Operand} {ats:Array TypeId} (i:Nat) (hb:s.L i = .arr u k e enc ls) (h:Fn P H0.g f args res) (hf:res.flat=true) (ha:argsP (giveF i enc ls s.F) x xs.toList=some (f,args)) (hd:Nat.blt d n=true)
   (kk:res.wf->K ⟨updp s.F d res,s.L⟩):E1 P n N H0 all ⟨some d, .call ⟨.value x,xs,ats⟩,ty,pos,af,none⟩ none s K:=by
 intro F H L hab;refine λa w hA hm=>?_;obtain⟨H1,hl1,hg1,hm1⟩:=hm.giveO (i:=i) Y;have hab1:=hab.give hb hl1 hg1;obtain⟨vs,h1,h2⟩:=Kd_ (ats:=ats) hab1.f ha h.cb;rw[if_pos pI];unfold Oper.wp;rw[hA.eval,h2];refine (h.run N H1 _ w vs hab1.g h1 hm1).mono λe' w' ⟨v,H',he,hv,hl,hm'⟩=>?_;subst he;refine⟨_,H,L,hA.put pK v,?_, .refl H,λ_ _=>rfl,_,hab.put d ?_,kk hv.wf⟩
 . have hm2:=hm'.le hl
   cases hLi:L i with
   |none=>
     have e1:lupd L i none=L:=lupd_eta hLi
     rw[e1] at hm2
     exact hm2.le hl1
   |some bo=>
     obtain⟨b,o⟩:=bo
     have hle:HLe (hadd H b o) H1:=λc q hq=>by
       by_cases e:c=b
       . subst e;simp[hadd] at hq;subst hq;exact hg1 _ _ hLi
       . simp[hadd,e] at hq;exact hl1 c q hq
     exact hm.take hLi (hm2.le hle)
 have hno:=h.no;refine Sim.simT ?_ hno;obtain⟨v0,hv0⟩:∃ v0,v0=v:=⟨v,rfl⟩;exact Sim.flat_any hf hv
end Go.SW
namespace Go.SW
variable {P:Program} {n:Nat} {N:Rest} {H0:Env} {all rest:List Oper} {Q:Qs} {ks:List Kt} {s:St} {T T2 ty d:Nat} {pos:String} {af:Array Edge} {x y z:Operand} {K:St->Prop}
def LkR (xs:Option (List Nat)) (Lk L:Ls):Prop:=match xs with
 |some xs=>∀ i,Lk i = bif memB xs i then none else L i
 |none=>True
def Hv (P:Program) (n:Nat) (N:Rest) (H0:Env) (Q:Qs) (xs:Option (List Nat)) (all:List Oper) (fuel:Nat) (listed:Array Bool) (ks:List Kt) (s:St):Prop:=
 ∀ F H L Lk,Abs H0 s F H L->LkR xs Lk L->Vw P n N all Lk (ql H0 (Kt.den P n N H0 ks Q)) fuel listed F H L
theorem any (xs:List Nat) (m:Nat) {id:Nat} {ops:Array Oper} (hmx:P.follows .mixedOrders=true) (hm:ops.toList.length=m) (h:Hv P n N H0 Q (some xs) ops.toList m (Array.replicate m false) ks s):Hd P n N H0 Q (.code (.region id ops true)) ks s:=by
 intro F H L ha;subst hm;have :=cw_any (id:=id) hmx (λi=>bif memB xs i then none else L i) (h F H L _ ha λ_=>rfl);exact rC
theorem vdone {xs:Option (List Nat)} {fuel:Nat} {listed:Array Bool} (h:Region.ready .any all.toArray listed=[]) (k:Hd P n N H0 Q (.ex .normal) ks s):Hv P n N H0 Q xs all fuel listed ks s:=λF H L Lk ha _=>vw_done h ⟨s,ha,k⟩
def okX (xs:Option (List Nat)) (i:Nat):Bool:=match xs with
 |some xs=>!memB xs i
 |none=>false
def okLk (xs:Option (List Nat)) (sL:Nat->Blk) (op:Op) (lk:Option (Nat×Nat×Nat)):Bool:=
 match lk with
 |none=>true
 |some (i,_,_)=>match N1_ op with
   |true=>match okX xs i with
     |true=>match sL i with
       | .box _ _ _=>true
       |_=>false
     |false=>false
   |false=>false
theorem lk_le {xs:Option (List Nat)} {Lk L:Ls} (h:LkR xs Lk L) {op:Op} (ho:N1_ op=false\/∃ i,okX xs i=true):LLe (lkOf op Lk) L:=by
 rcases Px_ op Lk with ⟨h1,h2⟩|h2
 . rcases ho with q|⟨i,q⟩
   . rw[h1] at q;cases q
   . rw[h2]
     cases xs with
     |none=>cases q
     |some xs=>
       intro j o hj
       rw[h j] at hj
       cases e:memB xs j with
       |true=>rw[e] at hj;cases hj
       |false=>rw[e] at hj;exact hj
 rw[h2];exact λ_ _ q=>by cases q
theorem okLk_ok {xs:Option (List Nat)} {F:Fr} {H:Hp} {L Lk:Ls} {op:Op} {lk:Option (Nat×Nat×Nat)} (ha:Abs H0 s F H L) (hL:LkR xs Lk L) (h:okLk xs s.L op lk=true) {L':Ls} (hl:LLe (lkOf op Lk) L'):∀ x,lk=some x->L' x.1=L x.1:=by
 intro x hx;subst hx;obtain⟨i,a,b⟩:=x;simp only[okLk] at h
 split at h
 . rename_i h1
   split at h
   . rename_i h2
     split at h
     . rename_i b' T cs h3
       have h4:=ha.l i
       rw[h3] at h4
       obtain⟨vs,h5,_⟩:=h4
       rcases Px_ op Lk with ⟨_,e⟩|e
       . cases xs with
         |none=>cases h2
         |some xs=>
           have h6:Lk i=L i:=by
             rw[hL i]
             simp only[okX,Bool.not_eq_true'] at h2
             rw[h2];rfl
           exact (hl i _ (by rw[e,h6,h5])).trans h5.symm
       . exfalso
         have e2:lkOf op Lk=Lk\/N1_ op=false:=by cases op<;>first|exact .inl Y|exact .inr Y
         rcases e2 with q|q
         . rw[q] at e
           cases xs with
           |none=>cases h2
           |some xs=>
             have h6:=hL i
             simp only[okX,Bool.not_eq_true'] at h2
             rw[h2,e] at h6
             simp only[cond_false] at h6
             rw[h5] at h6;cases h6
         . rw[h1] at q;cases q
     . cases h
   . cases h
 . cases h
theorem sv_v {tb:Tb} {xs:Option (List Nat)} {fuel i:Nat} {listed:Array Bool} {o:Oper} {r:PR} (ht:tbB P tb=true) (hi:nth all i=some o) (ho:o.dst=some d) (hck:(rdB all listed i&&apB n all listed i o&&Nat.blt d n&&nosB o.op)=true) (h:vOp tb s all o=some r) (hp:AllP r.ps) (he:∀ x,r.lk=some x->x.2.1=x.2.2) (hlk:okLk xs s.L o.op r.lk=true) (hx:N1_ o.op=false\/∃ i,okX xs i=true)
   (k:Hv P n N H0 Q xs all fuel (listed.setIfInBounds i true) ks ⟨updp s.F d r.v,s.L⟩):Hv P n N H0 Q xs all (fuel+1) listed ks s:=by
 intro F H L Lk ha hL;rw[Kx_] at hi;obtain⟨d',op,ty,pos,af,g⟩:=o
 cases ho
 unfold vOp at h
 split at h
 . rename_i hg
   cases hg
   obtain⟨val,h1,h2⟩:=pop_ok (N:=N) (ty:=ty) ht ha.f ha.l h hp he
   exact vw_q i hi hck (lk_le hL hx) (λH' L' hh hl=>h2 H' L' hh (okLk_ok ha hL hlk hl)) (k _ _ _ _ (ha.put d h1) hL)
 . rename_i j want hg
   cases hg
   split at h
   . rename_i oj hj
     split at h
     . rename_i dj hdj
       split at h
       . rename_i g hgc
         split at h
         . rename_i hno
           unfold pG1 at h
           split at h
           . rename_i v0 ps0 lk0 hr0
             split at h
             . rename_i hnv
               cases h
               obtain⟨c,b,hv,hge⟩:=gC_ok hgc (ha.f dj).sim
               have hy:yF all F j=some (gv c (.bool b)):=by rw[yF_of hj hdj,hv]
               obtain⟨hp1,hp2⟩:=Lh_ hp
               have hge2:g=(c&&(b==want)):=hge.trans gv_dec.symm
               cases hgv:g with
               |false=>
                 refine vgq (c:=c) (b:=b) (v:=undef) i hi hck (lk_le hL hx) (λ_ _ q=>by cases q) hy (λe=>by rw[<- hge2,hgv] at e;cases e) (k _ _ _ _ (ha.put d ?_) hL)
                 rw[<- hge2,hgv]
                 exact Sim.gvf
               |true=>
                 obtain⟨val,h1,h2⟩:=pop_ok (N:=N) (ty:=ty) ht (Rc_ ha.f (λt ht c v e=>hp2 t ht c v e hgv) (Kw_ hno)) ha.l hr0 (U7_ hgv hp1) he
                 refine vgq (c:=c) (b:=b) (v:=val) i hi hck (lk_le hL hx) (λ_ _ q=>by cases q) hy (λ_ H' L' hh hl=>h2 H' L' hh (okLk_ok ha hL hlk hl)) (k _ _ _ _ (ha.put d ?_) hL)
                 rw[<- hge2,hgv]
                 exact Sim.gvt h1.sim
             . cases h
           . cases h
         . cases h
       . cases h
     . cases h
   . cases h
structure VV where
 F:Nat->PV
 L:Nat->Blk
 ps:List Prop
 as0:List Nat
 bs:List Nat
def lksOk (xs:Option (List Nat)) (op:Op):Bool:=match N1_ op with
 |false=>true
 |true=>match xs with
   |some xs=>!memB xs (xs.foldr max 0+1)
   |none=>false
theorem lksOk_ok {xs:Option (List Nat)} {op:Op} (h:lksOk xs op=true):N1_ op=false\/∃ i,okX xs i=true:=by
 unfold lksOk at h
 split at h
 exact .inl pE
 . split at h
   exact .inr ⟨_,h⟩
   . cases h
def runV (tb:Tb) (xs:Option (List Nat)) (all:List Oper):List Nat->(Nat->PV)->(Nat->Blk)->List Prop->List Nat->List Nat->Option VV
 |[],F,L,ps,as0,bs=>frcP ps λps=>frcN as0 λas0=>frcN bs λbs=>some ⟨F,L,ps,as0,bs⟩
 |i::r,F,L,ps,as0,bs=>match nth all i with
   |some o=>match o.dst with
     |some d=>match vOp tb ⟨F,L⟩ all o with
       |some ⟨v0,ps0,lk0⟩=>match okLk xs L o.op lk0 with
         |true=>match lksOk xs o.op with
           |true=>match lk0 with
             |none=>addP ps ps0 λps=>frc v0 λv=>runV tb xs all r (updp F d v) L ps as0 bs
             |some (_,a,b)=>addP ps ps0 λps=>frc v0 λv=>runV tb xs all r (updp F d v) L ps (a::as0) (b::bs)
           |false=>none
         |false=>none
       |none=>none
     |none=>none
   |none=>none
def chkV (n:Nat) (all:List Oper):List Nat->Array Bool->Bool
 |[],_=>true
 | i::r,listed=>(match nth all i with
   |some o=>rdB all listed i&&apB n all listed i o&&dstB n o&&nosB o.op
   |none=>false)&&chkV n all r (listed.setIfInBounds i true)
def lst (listed:Array Bool):List Nat->Array Bool
 |[]=>listed
 |i::r=>lst (listed.setIfInBounds i true) r
theorem runV_ok {tb:Tb} (ht:tbB P tb=true) {xs:Option (List Nat)}:∀ (order:List Nat) (fuel:Nat) (listed:Array Bool) (F:Nat->PV) (L:Nat->Blk) (ps:List Prop) (as0 bs:List Nat) (r:VV),chkV n all order listed=true->runV tb xs all order F L ps as0 bs=some r->AllP r.ps->r.as0=r.bs ->
   AllP ps/\as0=bs/\(Hv P n N H0 Q xs all fuel (lst listed order) ks ⟨r.F,r.L⟩->Hv P n N H0 Q xs all (fuel+order.length) listed ks ⟨F,L⟩)
 |[],fuel,listed,F,L,ps,as0,bs,r,_,h,hp,he=>by
   simp only[runV,U5_,Zd_,Option.some.injEq] at h
   subst h
   exact⟨hp,he,id⟩
 |i::q,fuel,listed,F,L,ps,as0,bs,r,hc,h,hp,he=>by
   simp only[chkV,Bool.and_eq_true] at hc
   obtain⟨hc1,hc2⟩:=hc
   have ih:=runV_ok ht (xs:=xs) q fuel (listed.setIfInBounds i true)
   simp only[runV] at h
   split at h
   . rename_i o ho
     rw[ho] at hc1
     split at h
     . rename_i d hd
       split at h
       . rename_i v0 ps0 lk0 hv
         split at h
         . rename_i hlk
           split at h
           . rename_i hlo
             have hck:(rdB all listed i&&apB n all listed i o&&Nat.blt d n&&nosB o.op)=true:=by simpa [dstB,hd] using hc1
             split at h
             . rw[Yq_,Xu_] at h
               obtain⟨h1,h2,h3⟩:=ih _ _ _ _ _ r hc2 h hp he
               obtain⟨h4,h5⟩:=Pr_ h1
               exact⟨h4,h2,λx=>sv_v ht ho hd hck hv h5 (λy hy=>by cases hy) hlk (lksOk_ok hlo) (h3 x)⟩
             . rename_i j a b
               rw[Yq_,Xu_] at h
               obtain⟨h1,h2,h3⟩:=ih _ _ _ _ _ r hc2 h hp he
               obtain⟨h4,h5⟩:=Pr_ h1
               simp only[List.cons.injEq] at h2
               exact⟨h4,h2.2,λx=>sv_v ht ho hd hck hv h5 (λy hy=>by cases hy;exact h2.1) hlk (lksOk_ok hlo) (h3 x)⟩
           . cases h
         . cases h
       . cases h
     . cases h
   . cases h
theorem gov {tb:Tb} (ht:tbB P tb=true) (order:List Nat) (f:Nat) {xs:Option (List Nat)} {fuel:Nat} {listed:Array Bool} {F F':Nat->PV} {L L':Nat->Blk} {ps:List Prop} {as0 bs:List Nat} (hf:fuel=f+order.length) (hc:chkV n all order listed=true) (h:runV tb xs all order F L [] [] []=some ⟨F',L',ps,as0,bs⟩) (he:as0=bs) (hp:AllP ps) (next :Hv P n N H0 Q xs all f (lst listed order) ks ⟨F',L'⟩):Hv P n N H0 Q xs all fuel listed ks ⟨F,L⟩:=by
 subst hf;exact (runV_ok ht order f listed F L [] [] [] _ hc h hp he).2.2 next
theorem sim_ex {G:Gb} {f:FuncId} {args:List PV} {res:PV} {H:Hp} {vs:List Value} {L:Ls} {w:World} (h:Fn P G f args res) (hg:G.p H) (hs:Sims H args vs) (hm:Mem N H L w):∃ v H',Sim H' res v:=by
 obtain⟨_,_,_,⟨v,H',_,h2,_⟩,_⟩:=h.run N H L w vs hg hs hm [];exact⟨v,H',h2⟩
theorem vw_none {Lk:Ls} {Qq:Qt} {fuel i:Nat} {listed:Array Bool} {F:Fr} {H:Hp} {L:Ls} (hr:rdB all listed i=true) (hn:¬∃ w,Mem N H L w):Vw P n N all Lk Qq (fuel+1) listed F H L:=by
 refine⟨λe=>?_,λj hj a w _ hm=>absurd ⟨w,hm⟩ hn⟩;simp[rdB,e] at hr
theorem vcall {xs:Option (List Nat)} {fuel:Nat} {listed:Array Bool} {f:FuncId} {args:List PV} {res:PV} {as0:Array Operand} {ats:Array TypeId} (i:Nat) (hi:nth all i=some ⟨some d, .call ⟨.value x,as0,ats⟩,ty,pos,af,none⟩) (hck:(rdB all listed i&&apB n all listed i ⟨some d, .call ⟨.value x,as0,ats⟩,ty,pos,af,none⟩&&Nat.blt d n&&nosB (.call ⟨.value x,as0,ats⟩))=true) (h:Fn P H0.g f args res) (hf:res.flat=true) (ha:argsP s.F x as0.toList=some (f,args))
   (k:res.wf->Hv P n N H0 Q xs all fuel (listed.setIfInBounds i true) ks ⟨updp s.F d res,s.L⟩):Hv P n N H0 Q xs all (fuel+1) listed ks s:=by
 intro F H L Lk hab hL;by_cases hw:∃ w,Mem N H L w;obtain⟨w,hm⟩:=hw;rw[Kx_] at hi;obtain⟨vs,h1,h2⟩:=Kd_ (ats:=ats) hab.f ha h.cb;obtain⟨v,H',hv⟩:=sim_ex h hab.g h1 hm;exact vw_qc i hi hck (λ_ _ q=>by cases q) (h.pr hf hab.g h1 hv) h2 (k hv.wf _ _ _ _ (hab.put d ((Sim.flat_any hf hv).simT h.no)) hL)
 exact sQ
theorem vcallg {xs:Option (List Nat)} {fuel:Nat} {listed:Array Bool} {f:FuncId} {args:List PV} {res:PV} {as0:Array Operand} {ats:Array TypeId} {j:Nat} {want g:Bool} (i:Nat) (hi:nth all i=some ⟨some d, .call ⟨.value x,as0,ats⟩,ty,pos,af,some (j,want)⟩) (hck:(rdB all listed i&&apB n all listed i ⟨some d, .call ⟨.value x,as0,ats⟩,ty,pos,af,some (j,want)⟩&&Nat.blt d n&&nosB (.call ⟨.value x,as0,ats⟩))=true) (hg:gOp s all j want=some g) (h:g=true->Fn P H0.g f args res) (hf:res.flat=true) (ha:argsP (strG (J9_ as0.toList) s.F) x as0.toList=some (f,args)) (hc:AllP (Ow_ s.F g (J9_ as0.toList) [])) (hno:Kv_ s.F (J9_ as0.toList)=true)
   (k:(g=true->res.wf)->Hv P n N H0 Q xs all fuel (listed.setIfInBounds i true) ks ⟨updp s.F d (.gv g res),s.L⟩):Hv P n N H0 Q xs all (fuel+1) listed ks s:=by
 intro F H L Lk hab hL;by_cases hw:∃ w,Mem N H L w
 . obtain⟨w,hm⟩:=hw
   rw[Kx_] at hi
   obtain⟨c,b,hy,hge⟩:=Tw_ hab hg
   have hge2:g=(c&&(b==want)):=hge.trans gv_dec.symm
   cases hgv:g with
   |false=>
     have hcf:(c&&(b==want))=false:=by rw[<- hge2,hgv]
     refine vgp (c:=c) (b:=b) (v:=undef) (f:=f) (args:=#[]) i hi hck (λ_ _ q=>by cases q) hy (λe=>by rw[hcf] at e;cases e) (λe=>by rw[hcf] at e;cases e) (k (λe=>by rw[hgv] at e;cases e) _ _ _ _ (hab.put d ?_) hL)
     rw[<- hge2,hgv]
     exact Sim.gvf
   |true=>
     have hF:=h hgv
     obtain⟨vs,h1,h2⟩:=Kd_ (ats:=ats) (Rc_ hab.f (λt ht c v e=>(Lh_ hc).2 t ht c v e hgv) (Kw_ hno)) ha hF.cb
     obtain⟨v,H',hv⟩:=sim_ex hF hab.g h1 hm
     refine vgp (c:=c) (b:=b) (v:=v) i hi hck (λ_ _ q=>by cases q) hy (λ_=>hF.pr hf hab.g h1 hv) (λ_=>h2) (k (λ_=>hv.wf) _ _ _ _ (hab.put d ?_) hL)
     rw[<- hge2,hgv]
     exact Sim.gvt (Sim.flat_any hf hv)
 exact sQ
theorem ve {xs:List Nat} {fuel:Nat} {listed:Array Bool} {o:Oper} {j:Option Nat} (i:Nat) (hi:nth all i=some o) (hr:Region.ready .any all.toArray listed=[i]) (hj:(match j with|none=>true|some j=>memB xs j)=true) (h:E1 P n N H0 all o j s (λs'=>Hv P n N H0 Q (some xs) all fuel (listed.setIfInBounds i true) ks s')):Hv P n N H0 Q (some xs) all (fuel+1) listed ks s:=by
 intro F H L Lk ha hL;rw[Kx_] at hi;have hle:∀ L':Ls,(∀ i,j≠some i->L' i=L i)->LkR (some xs) Lk L':=λL' hL' i=>by
   rw[hL i]
   cases e:memB xs i with
   |true=>rfl
   |false=>
     refine (hL' i λq=>?_).symm
     subst q
     simp only at hj
     rw[e] at hj;cases hj
 refine vw_e i hi hr ((h F H L ha).imp λF' H' L' ⟨h1,h2,s',h3,h4⟩=>⟨⟨h1,λi x hx=>?_⟩,h4 F' H' L' Lk h3 (hle L' h2)⟩);have :=hle L' h2 i;rw[this] at hx
 cases e:memB xs i with
 |true=>rw[e] at hx;cases hx
 |false=>rw[e] at hx;exact hx
theorem vt {xs:Option (List Nat)} {fuel:Nat} {listed:Array Bool} {o:Oper} {j:Option Nat} (i:Nat) (hi:nth all i=some o) (hr:Region.ready .any all.toArray listed=[i]) (ht:tailB all listed i=true) (h:E1 P n N H0 all o j s (λs'=>Hv P n N H0 Q none all fuel (listed.setIfInBounds i true) ks s')):Hv P n N H0 Q xs all (fuel+1) listed ks s:=by
 intro F H L Lk ha hL;rw[Kx_] at hi;exact vw_t i hi hr ht ((h F H L ha).imp λF' H' L' ⟨_,_,s',h3,h4⟩=>h4 F' H' L' Lk h3 Z)
theorem vtp {xs:Option (List Nat)} {fuel:Nat} {listed:Array Bool} {o:Oper} {j:Option Nat} (i:Nat) (hi:nth all i=some o) (hr:Region.ready .any all.toArray listed=[i]) (ht:tailP all listed i=true) (h:E1 P n N H0 all o j s (λs'=>Hv P n N H0 Q none all fuel (listed.setIfInBounds i true) ks s')):Hv P n N H0 Q xs all (fuel+1) listed ks s:=by
 intro F H L Lk ha hL;rw[Kx_] at hi;exact vw_tp i hi hr ht ((h F H L ha).imp λF' H' L' ⟨h1,_,s',h3,h4⟩=>⟨h1,h4 F' H' L' Lk h3 Z⟩)
theorem ecall {f:FuncId} {args:List PV} {res:PV} {as0:Array Operand} {ats:Array TypeId} (h:Fn P H0.g f args res) (ha:argsP s.F x as0.toList=some (f,args)) (hd:Nat.blt d n=true) (k:res.wf->K ⟨updp s.F d res,s.L⟩):E1 P n N H0 all ⟨some d, .call ⟨.value x,as0,ats⟩,ty,pos,af,none⟩ none s K:=by
 intro F H L hab;obtain⟨vs,h1,h2⟩:=Kd_ (ats:=ats) hab.f ha h.cb;exact op1_ph (h.ph hab.g h1) h2 hd λv H' hv hl=>⟨hl,λ_ _=>rfl,_,(hab.mono hl).put d (hv.simT h.no),k hv.wf⟩
end Go.SW
namespace Go.SW
variable {P:Program} {n:Nat} {N:Rest} {H0:Env} {all rest:List Oper} {Q:Qs} {ks:List Kt} {s:St} {T T' T2 ty d:Nat} {pos:String} {af:Array Edge} {x y z:Operand} {K:St->Prop} {op:Op} {p:PV}
def Qy (P:Program) (N:Rest) (H0:Env) (s:St) (op:Op) (ty:TypeId) (p:PV):Prop:=
 ∀ F H L,Abs H0 s F H L->∃ val,SimT s.L H p val/\∀ H' L',HLe H H'->Lo P N op ty F H' L' val
theorem q1 (h:Qy P N H0 s op ty p) (hd:Nat.blt d n=true) (k:p.wf->Hd P n N H0 Q (.ops all rest) ks ⟨updp s.F d p,s.L⟩):Hd P n N H0 Q (.ops all (⟨some d,op,ty,pos,af,none⟩::rest)) ks s:=λF H L ha=>by
 obtain⟨val,h1,h2⟩:=h F H L ha
 exact ow1 (Pd_ hd (h2 H L (.refl H)) (k h1.sim.wf _ _ _ (ha.put d h1)))
theorem eqy (h:Qy P N H0 s op ty p) (hd:Nat.blt d n=true) (k:p.wf->K ⟨updp s.F d p,s.L⟩):E1 P n N H0 all ⟨some d,op,ty,pos,af,none⟩ none s K:=λF H L ha=>by
 obtain⟨val,h1,h2⟩:=h F H L ha
 exact Pd_ hd (h2 H L (.refl H)) ⟨.refl H,λ_ _=>rfl,_,ha.put d h1,k h1.sim.wf⟩
theorem vq {xs:Option (List Nat)} {fuel:Nat} {listed:Array Bool} (i:Nat) (h:Qy P N H0 s op ty p) (hi:nth all i=some ⟨some d,op,ty,pos,af,none⟩) (hck:(rdB all listed i&&apB n all listed i ⟨some d,op,ty,pos,af,none⟩&&Nat.blt d n&&nosB op)=true) (hl:N1_ op=false) (k:p.wf->Hv P n N H0 Q xs all fuel (listed.setIfInBounds i true) ks ⟨updp s.F d p,s.L⟩):Hv P n N H0 Q xs all (fuel+1) listed ks s:=by
 intro F H L Lk ha hL;rw[Kx_] at hi;obtain⟨val,h1,h2⟩:=h F H L ha;exact vw_q i hi hck (lk_le hL (.inl hl)) (λH' L' hh _=>h2 H' L' hh) (k h1.sim.wf _ _ _ _ (ha.put d h1) hL)
def strS (ts:List Nat) (s:St):St:=⟨strG ts s.F,s.L⟩
theorem abs_str {g:Bool} {ts:List Nat} {F:Fr} {H:Hp} {L:Ls} (ha:Abs H0 s F H L) (hc:AllP (Ow_ s.F g ts [])) (hno:Kv_ s.F ts=true) (hg:g=true):Abs H0 (strS ts s) F H L:=
 ⟨ha.le,ha.g,Rc_ ha.f (λt ht c v e=>(Lh_ hc).2 t ht c v e hg) (Kw_ hno),ha.l⟩
theorem q1g {j:Nat} {want g:Bool} (ts:List Nat) (hg:gOp s all j want=some g) (h:g=true->Qy P N H0 (strS ts s) op ty p) (hc:AllP (Ow_ s.F g ts [])) (hno:Kv_ s.F ts=true) (hpo:p.noOsl=true) (hd:Nat.blt d n=true) (k:(g=true->p.wf)->Hd P n N H0 Q (.ops all rest) ks ⟨updp s.F d (.gv g p),s.L⟩):Hd P n N H0 Q (.ops all (⟨some d,op,ty,pos,af,some (j,want)⟩::rest)) ks s:=λF H L ha=>by
 obtain⟨c,b,hy,hge⟩:=Tw_ ha hg
 refine ow_gd hy hd (λe=>?_) (λe=>?_)
 . have hgt:=hge.trans e
   obtain⟨val,h1,h2⟩:=h hgt F H L (abs_str ha hc hno hgt)
   refine Pd_ hd (h2 H L (.refl H)) (k (λ_=>h1.sim.wf) _ _ _ (ha.put d ?_))
   rw[hgt];exact Sim.gvt h1.sim
 . have hgf:=hge.trans e
   refine k (λe=>by rw[hgf] at e;cases e) _ _ _ (ha.put d ?_)
   rw[hgf];exact Sim.gvf
theorem vqg {xs:Option (List Nat)} {fuel:Nat} {listed:Array Bool} {j:Nat} {want g:Bool} (i:Nat) (ts:List Nat) (hi:nth all i=some ⟨some d,op,ty,pos,af,some (j,want)⟩) (hck:(rdB all listed i&&apB n all listed i ⟨some d,op,ty,pos,af,some (j,want)⟩&&Nat.blt d n&&nosB op)=true) (hl:N1_ op=false) (hg:gOp s all j want=some g) (h:g=true->Qy P N H0 (strS ts s) op ty p) (hc:AllP (Ow_ s.F g ts [])) (hno:Kv_ s.F ts=true)
   (k:(g=true->p.wf)->Hv P n N H0 Q xs all fuel (listed.setIfInBounds i true) ks ⟨updp s.F d (.gv g p),s.L⟩):Hv P n N H0 Q xs all (fuel+1) listed ks s:=by
 intro F H L Lk ha hL;rw[Kx_] at hi;obtain⟨c,b,hy,hge⟩:=Tw_ ha hg;have hge2:g=(c&&(b==want)):=hge.trans gv_dec.symm
 cases hgv:g with
 |false=>
   have hcf:(c&&(b==want))=false:=by rw[<- hge2,hgv]
   refine vgq (c:=c) (b:=b) (v:=undef) i hi hck (lk_le hL (.inl hl)) (λ_ _ q=>by cases q) hy (λe=>by rw[hcf] at e;cases e) (k (λe=>by rw[hgv] at e;cases e) _ _ _ _ (ha.put d ?_) hL)
   rw[<- hge2,hgv];exact Sim.gvf
 |true=>
   obtain⟨val,h1,h2⟩:=h hgv F H L (abs_str ha hc hno hgv)
   refine vgq (c:=c) (b:=b) (v:=val) i hi hck (lk_le hL (.inl hl)) (λ_ _ q=>by cases q) hy (λ_ H' L' hh _=>h2 H' L' hh) (k (λ_=>h1.sim.wf) _ _ _ _ (ha.put d ?_) hL)
   rw[<- hge2,hgv];exact Sim.gvt h1.sim
theorem Abs.ev {F:Fr} {H:Hp} {L:Ls} (ha:Abs H0 s F H L) {x:Operand} {p:PV} (hx:evP s.F x=p):SimT s.L H p (ev F x):=by
 have h1:=Da_ ha.f x;unfold Ok1 at h1
 rwa [hx] at h1
theorem u8_get {H:Hp} {a:Bs} {m:Nat}:Sim H (.int .u8 ((a.getD m 0).toNat:Int)) (.int .u8 ((a.getD m 0).toNat:Int)):=by
 have :=(a.getD m 0).toNat_lt;exact xW
theorem sidx {tb:Tb} {ti:TI} {a:Bs} {k:IntKind} {i:Int} (ht:tbB P tb=true) (m:Nat) (hx:evP s.F x = .str a) (hy:evP s.F y = .int k i) (hti:lkT tb T=some ti) (htk:ti.k = .str) (hi:i=m) (hm:m<a.length):Qy P N H0 s (.index T x y) ty (.int .u8 (a.getD m 0).toNat):=λF H L ha=>by
 have h1:=(ha.ev hx).sim
 have h2:=(ha.ev hy).sim
 exact⟨_,u8_get,λH' L' _=>lo_index_str m h1.inv_str.1 h2.inv_int.1 ((D8_ ht hti).str htk) hi hm⟩
theorem sslo {tb:Tb} {ti:TI} {a:Bs} {k:IntKind} {i:Int} (ht:tbB P tb=true) (m:Nat) (hx:evP s.F x = .str a) (hy:evP s.F y = .int k i) (hti:lkT tb T=some ti) (htk:ti.k = .str) (hi:i=m) (hm:m<=a.length):Qy P N H0 s (.slice T x (some y) none none) ty (.str (a.drop m)):=λF H L ha=>by
 have h1:=(ha.ev hx).sim
 have h2:=(ha.ev hy).sim
 exact⟨_,Sim.str nA,λH' L' _=>V3_ m h1.inv_str.1 h2.inv_int.1 ((D8_ ht hti).str htk) hi hm⟩
theorem sshi {tb:Tb} {ti:TI} {a:Bs} {k:IntKind} {i:Int} (ht:tbB P tb=true) (m:Nat) (hx:evP s.F x = .str a) (hy:evP s.F y = .int k i) (hti:lkT tb T=some ti) (htk:ti.k = .str) (hi:i=m) (hm:m<=a.length):Qy P N H0 s (.slice T x none (some y) none) ty (.str (a.take m)):=λF H L ha=>by
 have h1:=(ha.ev hx).sim
 have h2:=(ha.ev hy).sim
 exact⟨_,Sim.str nA,λH' L' _=>V2_ m h1.inv_str.1 h2.inv_int.1 ((D8_ ht hti).str htk) hi hm⟩
theorem ssl {tb:Tb} {ti:TI} {a:Bs} {k k':IntKind} {i j:Int} (ht:tbB P tb=true) (m q:Nat) (hx:evP s.F x = .str a) (hy:evP s.F y = .int k i) (hz:evP s.F z = .int k' j) (hti:lkT tb T=some ti) (htk:ti.k = .str) (hi:i=m) (hj:j=q) (hm:m<=q) (hq:q<=a.length):Qy P N H0 s (.slice T x (some y) (some z) none) ty (.str ((a.drop m).take (q-m))):=λF H L ha=>by
 have h1:=(ha.ev hx).sim
 have h2:=(ha.ev hy).sim
 have h3:=(ha.ev hz).sim
 exact⟨_,Sim.str nA,λH' L' _=>lo_slice_str m q h1.inv_str.1 h2.inv_int.1 h3.inv_int.1 ((D8_ ht hti).str htk) hi hj hm hq⟩
theorem qidx {α:Type} {tb:Tb} {ti te:TI} {e:TypeId} {enc:α->List PV} {xs:List α} {kk:IntKind} {i:Int} (ht:tbB P tb=true) (m:Nat) {a:α} (hx:evP s.F x = .sl enc xs) (hy:evP s.F y = .int kk i) (hm:i=m) (ha:xs[m]? = some a) (hti:lkT tb T=some ti) (hk:ti.k = .slc e) (hte:lkT tb e=some te) (hsz:te.size=(enc a).length):Qy P N H0 s (.indexAddr T x y) ty (.el (enc a) 0):=λF H L hab=>by
 have h1:=(hab.ev hx).sim
 have h2:=(hab.ev hy).sim
 obtain⟨k0,hs,hb⟩:=h1.slh
 obtain⟨cs,hE,hat⟩:=hs.get ha
 have hsize:=(D8_ ht hte).sz
 rw[hsz,hE.1] at hsize
 have hlt:m<xs.length:=by
   rcases Nat.lt_or_ge m xs.length with q|q
   . exact q
   . rw[List.getElem?_eq_none q] at ha;cases ha
 refine⟨_,Sim.simT (p:= .el (enc a) 0) ?_ Y,λH' L' hh=>lo_indexAddr Y h2.inv_int.1 hs.1 (hat.mono hh) ((D8_ ht hti).slc hk) hsize hm hlt⟩
 have :=Sim.el (row:=enc a) (o:=0) hat hE.1 hE.2.1.2
 simpa [sPtr] using this
theorem lslo {α:Type} {tb:Tb} {ti te:TI} {e:TypeId} {enc:α->List PV} {xs:List α} {k:IntKind} {i:Int} (ht:tbB P tb=true) (m:Nat) (hx:evP s.F x = .sl enc xs) (hy:evP s.F y = .int k i) (hti:lkT tb T=some ti) (htk:ti.k = .slc e) (hte:lkT tb e=some te) (hw:∀ a,(enc a).length=te.size) (hi:i=m) (hm:m<=xs.length):Qy P N H0 s (.slice T x (some y) none none) ty (.sl enc (xs.drop m)):=λF H L hab=>by
 have h1:=(hab.ev hx).sim
 have h2:=(hab.ev hy).sim
 obtain⟨k0,hs,hb⟩:=h1.slh
 have hsz:=(D8_ ht hte).sz
 obtain⟨⟨a,c,hv,hc⟩,hall⟩:=hs
 have hs':SlH (RowE enc te.size) te.size H (.slice a xs.length c) xs:=by
   exact tQ
 exact⟨_,Sim.simT (Sim.of_slh (slh_drop hs' hm) pO) Y,λH' L' _=>Pa_ m hv h2.inv_int.1 ((D8_ ht hti).slc htk) hsz hi hm⟩
theorem lshi {α:Type} {tb:Tb} {ti te:TI} {e:TypeId} {enc:α->List PV} {xs:List α} {k:IntKind} {i:Int} (ht:tbB P tb=true) (m:Nat) (hx:evP s.F x = .sl enc xs) (hy:evP s.F y = .int k i) (hti:lkT tb T=some ti) (htk:ti.k = .slc e) (hte:lkT tb e=some te) (hw:∀ a,(enc a).length=te.size) (hi:i=m) (hm:m<=xs.length):Qy P N H0 s (.slice T x none (some y) none) ty (.sl enc (xs.take m)):=λF H L hab=>by
 have h1:=(hab.ev hx).sim
 have h2:=(hab.ev hy).sim
 obtain⟨k0,hs,hb⟩:=h1.slh
 have hsz:=(D8_ ht hte).sz
 obtain⟨⟨a,c,hv,hc⟩,hall⟩:=hs
 have hs':SlH (RowE enc te.size) te.size H (.slice a xs.length c) xs:=by
   exact tQ
 have hr:=slh_take hs' hm
 have hlen:m=(xs.take m).length:=by simp;omega
 exact⟨_,Sim.simT (Sim.of_slh hr pB) Y,λH' L' _=>O9_ m hv h2.inv_int.1 ((D8_ ht hti).slc htk) hsz hi (Nat.le_trans hm hc)⟩
theorem lnil {α:Type} {tb:Tb} {ti:TI} {e:TypeId} {enc:α->List PV} {xs:List α} (ht:tbB P tb=true) (hx:evP s.F x = .sl enc xs) (hy:evP s.F y = .val (.slice none 0 0)) (hti:lkT tb T=some ti) (htk:ti.k = .slc e) (hd:Nat.blt d n=true) (k:∀ b,(b=true->xs=[])->K ⟨updp s.F d (.bool b),s.L⟩):E1 P n N H0 all ⟨some d, .binOp .eql T x y T',ty,pos,af,none⟩ none s K:=λF H L ha=>by
 have h1:=(ha.ev hx).sim
 have h2:=(ha.ev hy).sim
 obtain⟨k0,hs,hb⟩:=h1.slh
 obtain⟨⟨a,c,hv,hc⟩,hall⟩:=id hs
 refine Pd_ hd (lo_sleq_nil hv h2.inv_val ((D8_ ht hti).slc htk)) ⟨.refl H,λ_ _=>rfl,_,ha.put (p:= .bool a.isNone) d Sim.bool,k _ λe=>?_⟩
 rw[hv] at hs
 cases a with
 |none=>exact slh_none hs
 |some a=>cases e
theorem saeq {ps qs:List PV} {r:Bool} (hx:evP s.F x = .agg ps) (hy:evP s.F y = .agg qs) (hm:P.eqGuardType P.depth T=false) (h:∀ H vs us,Sims H ps vs->Sims H qs us->EqV P 10000 T (.agg vs.toArray) (.agg us.toArray) r):Qy P N H0 s (.binOp .eql T x y T') ty (.bool r):=λF H L ha=>by
 obtain⟨vs,e1,h1⟩:=(ha.ev hx).sim.inv_agg
 obtain⟨us,e2,h2⟩:=(ha.ev hy).sim.inv_agg
 exact⟨.bool r,Sim.bool,λH' L' _=>lo_aeql e1 e2 hm (h H vs us h1 h2)⟩
theorem sane {ps qs:List PV} {r:Bool} (hx:evP s.F x = .agg ps) (hy:evP s.F y = .agg qs) (hm:P.eqGuardType P.depth T=false) (h:∀ H vs us,Sims H ps vs->Sims H qs us->EqV P 10000 T (.agg vs.toArray) (.agg us.toArray) r):Qy P N H0 s (.binOp .neq T x y T') ty (.bool (!r)):=λF H L ha=>by
 obtain⟨vs,e1,h1⟩:=(ha.ev hx).sim.inv_agg
 obtain⟨us,e2,h2⟩:=(ha.ev hy).sim.inv_agg
 exact⟨.bool (!r),Sim.bool,λH' L' _=>lo_aneq e1 e2 hm (h H vs us h1 h2)⟩
theorem rl_u8_inv {H:Hp}:∀ {xs:Bs} {cs:List Value},Rl (RowE u8c 1) H xs cs->cs=xs.map u8v
 |[],_,h=>h
 |a::r,_,⟨c1,c2,rfl,hE,hr⟩=>by
   obtain⟨v,w,rfl,h3,h4⟩:=hE.2.1.inv_cons
   cases h4.inv_nil
   rw[h3.inv_int.1,rl_u8_inv hr]
   rfl
theorem sb2s {tb:Tb} {ti td te:TI} {i e e':Nat} {u:Value} {enc:UInt8->List PV} {xs:Bs} (ht:tbB P tb=true) (hx:evP s.F x = .osl i) (hb:s.L i = .arr u 1 e enc xs) (henc:enc=u8c) (hti:lkT tb T=some ti) (htk:ti.k = .slc e') (hte:lkT tb e'=some te) (hek:te.k = .int .u8) (htd:lkT tb T'=some td) (hdk:td.k = .str) (hl:xs≠[]) (hd:Nat.blt d n=true) (k:K ⟨updp s.F d (.str xs),s.L⟩):E1 P n N H0 all ⟨some d, .convert T T' x,ty,pos,af,none⟩ none s K:=λF H L ha=>by
 subst henc
 have h1:=ha.ev hx
 simp only[SimT,hb] at h1
 have h2:=ha.l i
 rw[hb] at h2
 obtain⟨cs,ho,hr,hm⟩:=h2
 obtain⟨hcl,ho⟩:=ho
 rcases ho with ⟨rfl,h0,_⟩|⟨b,cap,c,f,rfl,hL,hc,hle,htk',hff⟩
 . exact absurd (List.length_eq_zero_iff.1 h0) hl
 . obtain rfl :=hff Y
   simp only[List.nil_append,List.length_nil] at hL h1
   have hcs:cs=xs.map u8v:=rl_u8_inv hr
   have hst:xs.length<=9223372036854775807:=by omega
   have hlo:Lo P N (.convert T T' x) ty F H L (str xs):=λd pos af g w hmm=>by
     have :=run_convert_bytes_back (P:=P) w T T' e' ⟨b,0,none⟩ cap xs ((D8_ ht hti).slc htk) ((D8_ ht hte).int hek) ((D8_ ht htd).str hdk) (λj hj=>by
       rw[Ge_,Nat.zero_add]
       refine hmm.cellL hL ?_
       rw[hcs] at htk'
       have h5:(c.take (xs.length*1))[j]? = (xs.map u8v)[j]? :=by rw[htk']
       rw[List.getElem?_take,if_pos pB] at h5
       rw[h5]
       simp[hj,u8v])
     simp[execOp,h1,this,str]
   exact Pd_ hd hlo ⟨.refl H,λ_ _=>rfl,_,ha.put (p:= .str xs) d (Sim.str hst),k⟩
theorem u8_row {H:Hp} {sv:Value} {a:Bs} (h:SlH u8E 1 H sv a):SlH (RowE u8c 1) 1 H sv a:=⟨h.1,λm hm=>by
 obtain⟨cs,hE,hat⟩:=h.2 m hm
 have e:cs=[u8v a[m]]:=hE
 subst e
 exact⟨_,⟨rfl,Sims.nil.cons (u8_sim _),λu hu=>by simp at hu;subst hu;rfl⟩,hat⟩⟩
theorem ss2b {tb:Tb} {ti td te:TI} {e:Nat} {a:Bs} (ht:tbB P tb=true) (hx:evP s.F x = .str a) (hti:lkT tb T=some ti) (htk:ti.k = .str) (htd:lkT tb T'=some td) (hdk:td.k = .slc e) (hte:lkT tb e=some te) (hek:te.k = .int .u8) (hl:a.length<=140737488355328) (hd:Nat.blt d n=true) (k:K ⟨updp s.F d (.sl u8c a),s.L⟩):E1 P n N H0 all ⟨some d, .convert T T' x,ty,pos,af,none⟩ none s K:=λF H L ha=>by
 refine op1_s2b (ha.ev hx).sim.inv_str.1 ((D8_ ht hti).str htk) ((D8_ ht htd).slc hdk) ((D8_ ht hte).int hek) hd λb cap H' hh hs=>?_
 exact⟨hh,λ_ _=>rfl,_,(ha.mono hh).put (p:= .sl u8c a) d (Sim.of_slh (u8_row hs) hl),k⟩
theorem so_rt {t:Nat} {p':PV} (h:PLe (s.F t) p') (hn:p'.noOsl=true) (k:Hd P n N H0 Q (.ops all rest) ks ⟨updp s.F t p',s.L⟩):Hd P n N H0 Q (.ops all rest) ks s:=λF H L ha=>by
 refine k F H L ⟨ha.le,ha.g,λq=>?_,ha.l⟩
 by_cases e:q=t
 . subst e;simp only[Mn_];exact (h H _ (ha.f q).sim).simT hn
 . exact sV
theorem sw_own {α:Type} {t k e:Nat} {c:Code} (i:Nat) (enc:α->List PV) (hF:s.F t = .val (.slice none 0 0)) (hno:s.L i = .no) (kk:Hd P n N H0 Q (.code c) ks ⟨updp (Ip_ i s.F) t (.osl i),lups (G3_ i s.L) i (.arr (.slice none 0 0) k e enc [])⟩):Hd P n N H0 Q (.code c) ks s:=λF H L ha=>by
 have hL0:Abs H0 s F H (lupd L i none):=⟨ha.le,ha.g,ha.f,λj=>by
   by_cases e:j=i
   . subst e;rw[hno];trivial
   . rw[Cj_ _ _ _ _ e];exact ha.l j⟩
 have h1:=(ha.f t).sim
 rw[hF] at h1
 have h2:=hL0.turn i (B:= .arr (.slice none 0 0) k e enc []) (x:=none) ⟨[],P1_,rl_nil,by simp⟩
 have e2:lupd (lupd L i none) i none=lupd L i none:=by funext j;simp only[lupd];cases Nat.beq j i<;>rfl
 rw[e2] at h2
 refine cw_weaken (λw hm=>hm.clear i) (kk F H _ ⟨h2.le,h2.g,λq=>?_,h2.l⟩)
 by_cases e:q=t
 . subst e;simp only[Mn_,SimT,Ef_];exact h1.inv_val
 . simp only[Re_ _ _ _ _ e];exact h2.f q
end Go.SW
namespace Go.SW
variable {P:Program} {n:Nat} {N:Rest} {H0:Env} {all rest:List Oper} {Q:Qs} {ks:List Kt} {s:St} {T T' T2 ty d:Nat} {pos:String} {af:Array Edge} {x y z:Operand} {K:St->Prop} {op:Op} {p:PV}
theorem qconv {tb:Tb} {ti td:TI} {k k':IntKind} {a:Int} (ht:tbB P tb=true) (hx:evP s.F x = .int k a) (hti:lkT tb T=some ti) (htd:lkT tb T'=some td) (hk:td.k = .int k') (h:k'.min<=a/\a<=k'.max):Qy P N H0 s (.convert T T' x) ty (.int k' a):=λF H L ha=>
 ⟨_,Sim.int h.1 h.2,λ_ _ _=>X2_ (ha.ev hx).sim.inv_int.1 (D8_ ht hti).isSome ((D8_ ht htd).int hk) h⟩
structure Fm (P:Program) (G:Gb) (f:FuncId) (args:List PV) (T:TypeId) (pre:List PV) (res:PV) (post:List PV):Prop where
 cb:Bo_ P f
 no:res.noOsl=true
 np:C4_ post=true
 run:∀ (N:Rest) (H:Hp) (L:Ls) (w:World) (b i:Nat) (vs vc:List Value),G.p H->Sims H args vs->L i=some (b,bx T vc)->Sims H pre vc->Mem N H L w ->
   Calls P f (Value.pointer (some ⟨b,0,none⟩)::vs).toArray w λe w'=>∃ v H' vc',e = .returned v/\Sim H' res v/\Sims H' post vc'/\HLe H H'/\Mem N H' (lupd L i (some (b,bx T vc'))) w'
def rmK (tb:Tb) (rs:List ResultVar) (res:PV) (b T:Nat) (post:List PV):Qs:=λe s=>rtK tb rs res e s/\∃ q,s.L 0 = .box b T q/\C4_ q=true/\PLes q post
theorem rm {tb:Tb} {rs:List ResultVar} {res:PV} {b b' T:Nat} {post q ps:List PV} {as0 bs:List Nat} (h:Is_ tb s rs=some (ps,as0,bs)) (he:as0=bs) (hp:PLe (tupP ps) res) (hb:s.L 0 = .box b' T q) (hbb:b'=b) (hn:C4_ q=true) (hq:PLes q post):Hd P n N H0 (rmK tb rs res b T post) (.ex .ret) [] s:=⟨⟨.inr Y,ps,as0,bs,h,he,hp⟩,q,by rw[hb,hbb],hn,hq⟩
theorem rmn {tb:Tb} {rs:List ResultVar} {res:PV} {b b' T:Nat} {post q ps:List PV} {as0 bs:List Nat} (h:Is_ tb s rs=some (ps,as0,bs)) (he:as0=bs) (hp:PLe (tupP ps) res) (hb:s.L 0 = .box b' T q) (hbb:b'=b) (hn:C4_ q=true) (hq:PLes q post):Hd P n N H0 (rmK tb rs res b T post) (.ex .normal) [] s:=⟨⟨.inl Y,ps,as0,bs,h,he,hp⟩,q,by rw[hb,hbb],hn,hq⟩
theorem fm_cw {tb:Tb} {G:Gb} {m:Nat} {f:FuncId} {fn:Func} {c:Code} {args pre post:List PV} {res:PV} {T:Nat} (ht:tbB P tb=true) (hf:P.funcs[f]? = some fn) (hb:fn.body=some c) (hn:fn.ntmps=m) (hs:Nat.ble (args.length+1) m=true) (hcb:Bo_ P f) (hno:res.noOsl=true) (hna:C4_ args=true) (hnp:C4_ pre=true) (hnq:C4_ post=true)
   (h:PV.wfs args->PV.wfs pre->∀ b N H,G.p H->Hd P m N ⟨H,G⟩ (rmK tb fn.results.toList res b T post) (.code c) [] ⟨P9_ (.own 0 b 0::args),lups (λ_=> .no) 0 (.box b T pre)⟩):Fm P G f args T pre res post:=by
 refine⟨hcb,hno,hnq,λN H L w b i vs vc hg hsim hL hpre hm=>?_⟩;subst hn;have hs':Sims H (.own 0 b 0::args) (Value.pointer (some ⟨b,0,none⟩)::vs):=hsim.cons Sim.own;have key:Pm P f (Value.pointer (some ⟨b,0,none⟩)::vs).toArray H b (bx T vc) (λv H' o'=>∃ vc',o'=bx T vc'/\Sim H' res v/\Sims H' post vc'):=by
   refine pm_of_cw hf hb mB λN=>?_
   have h1:=h hsim.wf hpre.wf b N H hg (K9_ (Value.pointer (some ⟨b,0,none⟩)::vs).toArray) H (ofL [(b,bx T vc)]) ⟨.refl H,hg,λt=>Od_ hs' (by simp [C4_,hna,PV.noOsl]) t,λj=>by
     by_cases e:j=0
     . subst e;simp only[Ef_];exact⟨vc,rfl,Kn_ hpre hnp⟩
     . simp only[Jw_ _ _ _ _ e];trivial⟩
   refine K7_ (λe F' H' L' hq=>?_) h1
   obtain⟨s',ha',hq',q,hq1,hq2,hq3⟩:=hq
   obtain⟨he,v,hr,hv⟩:=Qz_ (N:=N) ht ha' hq'
   have h3:=ha'.l 0
   rw[hq1] at h3
   obtain⟨vc',hL',hsv⟩:=h3
   rcases he with rfl|rfl
   . exact xM
   . exact xM
 exact (key N L w i hL hm).mono λ_ _ ⟨v,H',o',h1,⟨vc',h5,h6,h7⟩,h3,h4⟩=>⟨v,H',vc',h1,h6,h7,h3,by rw[<- h5];exact h4⟩
theorem ecallm {f:FuncId} {args pre post:List PV} {res:PV} {as0:Array Operand} {ats:Array TypeId} {i b b' T0 off:Nat} (h:Fm P H0.g f args T0 pre res post) (ha:argsP s.F x as0.toList=some (f, .own i b off::args)) (hoff:off=0) (hb:s.L i = .box b' T0 pre) (hbb:b'=b) (hd:Nat.blt d n=true) (k:res.wf->PV.wfs post->K ⟨updp s.F d res,lups s.L i (.box b T0 post)⟩):E1 P n N H0 all ⟨some d, .call ⟨.value x,as0,ats⟩,ty,pos,af,none⟩ (some i) s K:=by
 intro F H L hab;subst hoff;subst hbb;obtain⟨us,h1,h2⟩:=Kd_ (ats:=ats) hab.f ha h.cb;obtain⟨v0,vs,rfl,h3,h4⟩:=h1.inv_cons;have h5:=h3.inv_own;subst h5;have h6:=hab.l i;rw[hb] at h6;obtain⟨vc,hL,hsv⟩:=h6;intro a w hA hm;rw[if_pos pI];unfold Oper.wp;rw[hA.eval,h2];refine (h.run N H L w b' i vs vc hab.g h4 hL hsv.sims hm).mono λe' w' ⟨v,H',vc',he,hv,hp,hl,hm'⟩=>?_;subst he;refine⟨_,H',_,hA.put pK v,hm',hl,only,_,Abs.put (p:=res) ((hab.mono hl).turnB (B:= .box b' T0 post) i Z ⟨vc',rfl,Kn_ hp h.np⟩) d (hv.simT h.no),k hv.wf hp.wf⟩
structure Fb (P:Program) (G:Gb) (f:FuncId) (args:List PV) (T:TypeId) (post:List PV):Prop where
 cb:Bo_ P f
 np:C4_ post=true
 run:∀ (N:Rest) (H:Hp) (L:Ls) (w:World) (i:Nat) (vs:List Value),G.p H->Sims H args vs->Mem N H L w ->
   Calls P f vs.toArray w λe w'=>∃ b H' vc',e = .returned (.pointer (some ⟨b,0,none⟩))/\Sims H' post vc'/\HLe H H'/\Mem N H' (lupd L i (some (b,bx T vc'))) w'
def rbK (tb:Tb) (rs:List ResultVar) (T:Nat) (post:List PV):Qs:=λe s=>(e = .normal\/e = .ret)/\∃ j b q,Is_ tb s rs=some ([.own j b 0],[],[])/\s.L j = .box b T q/\C4_ q=true/\PLes q post
theorem rb {tb:Tb} {rs:List ResultVar} {b b' j off T:Nat} {post q:List PV} (h:Is_ tb s rs=some ([.own j b off],[],[])) (ho:off=0) (hb:s.L j = .box b' T q) (hbb:b'=b) (hn:C4_ q=true) (hq:PLes q post):Hd P n N H0 (rbK tb rs T post) (.ex .ret) [] s:=⟨.inr Y,j,b,q,by rw[h,ho],by rw[hb,hbb],hn,hq⟩
theorem fb_cw {tb:Tb} {G:Gb} {m:Nat} {f:FuncId} {fn:Func} {c:Code} {args post:List PV} {T:Nat} (ht:tbB P tb=true) (hf:P.funcs[f]? = some fn) (hb:fn.body=some c) (hn:fn.ntmps=m) (hs:Nat.ble args.length m=true) (hcb:Bo_ P f) (hna:C4_ args=true) (hnq:C4_ post=true)
   (h:PV.wfs args->∀ N H,G.p H->Hd P m N ⟨H,G⟩ (rbK tb fn.results.toList T post) (.code c) [] ⟨P9_ args,λ_=> .no⟩):Fb P G f args T post:=by
 refine⟨hcb,hnq,λN H L w i vs hg hsim hm=>?_⟩;subst hn;have key:Pn P f vs.toArray H (λv H' b o'=>v = .pointer (some ⟨b,0,none⟩)/\∃ vc',o'=bx T vc'/\Sims H' post vc'):=by
   refine pn_of_cw hf hb oT λN=>?_
   have h1:=h hsim.wf N H hg (K9_ vs.toArray) H l0 ⟨.refl H,hg,λt=>Od_ hsim hna t,λi=>trivial⟩
   refine K7_ (λe F' H' L' hq=>?_) h1
   obtain⟨s',ha',he,j,b,q,hr,hq1,hq2,hq3⟩:=hq
   obtain⟨_,v,hr',hv⟩:=Qz_ (N:=N) (res:= .own j b 0) ht ha' (show rtK tb fn.results.toList (.own j b 0) e s' from ⟨he,_,_,_,hr,rfl,ple Y⟩)
   have h3:=ha'.l j
   rw[hq1] at h3
   obtain⟨vc',hL',hsv⟩:=h3
   have hv:=hv.inv_own
   subst hv
   rcases he with rfl|rfl
   . exact yL
   . exact yL
 exact (key N L w i hm).mono λ_ _ ⟨v,H',b,o',h1,⟨h2,vc',h5,h6⟩,h3,h4⟩=>⟨b,H',vc',by rw[h1,h2],h6,h3,by rw[<- h5];exact h4⟩
theorem ecallb {f:FuncId} {args post:List PV} {as0:Array Operand} {ats:Array TypeId} {T0:Nat} (i:Nat) (h:Fb P H0.g f args T0 post) (ha:argsP s.F x as0.toList=some (f,args)) (hd:Nat.blt d n=true) (k:PV.wfs post->∀ b,K ⟨updp s.F d (.own i b 0),lups s.L i (.box b T0 post)⟩):E1 P n N H0 all ⟨some d, .call ⟨.value x,as0,ats⟩,ty,pos,af,none⟩ (some i) s K:=by
 intro F H L hab;obtain⟨us,h1,h2⟩:=Kd_ (ats:=ats) hab.f ha h.cb;intro a w hA hm;rw[if_pos pI];unfold Oper.wp;rw[hA.eval,h2];refine (h.run N H L w i us hab.g h1 hm).mono λe' w' ⟨b,H',vc',he,hp,hl,hm'⟩=>?_;subst he;refine⟨_,H',_,hA.put pK _,hm',hl,only,_,Abs.put (p:= .own i b 0) ((hab.mono hl).turnB (B:= .box b T0 post) i Z ⟨vc',rfl,Kn_ hp h.np⟩) d Sim.own,k hp.wf b⟩
end Go.SW
namespace Go.SW
variable {P:Program} {n:Nat} {N:Rest} {H0:Env} {Q:Qs} {ks:List Kt} {s:St}
theorem cndT {c:Operand} {x y:Code} {b:Bool} (hc:evP s.F c = .bool b) (hb:b=true) (k:Hd P n N H0 Q (.code x) ks s):Hd P n N H0 Q (.code (.cond c x y)) ks s:=cnd hc (λ_=>k) (λe=>by rw[hb] at e;cases e)
theorem cndF {c:Operand} {x y:Code} {b:Bool} (hc:evP s.F c = .bool b) (hb:b=false) (k:Hd P n N H0 Q (.code y) ks s):Hd P n N H0 Q (.code (.cond c x y)) ks s:=cnd hc (λe=>by rw[hb] at e;cases e) (λ_=>k)
variable {tb:Tb} {rs:List ResultVar} {res p q r:PV} {as0 bs:List Nat}
theorem rt1 (h:Is_ tb s rs=some ([p],as0,bs)) (he:as0=bs) (hp:PLe p res):Hd P n N H0 (rtK tb rs res) (.ex .ret) [] s:=rt h he hp
theorem rt2 (h:Is_ tb s rs=some ([p,q],as0,bs)) (he:as0=bs) (hp:PLe (.tup [p,q]) res):Hd P n N H0 (rtK tb rs res) (.ex .ret) [] s:=rt h he hp
theorem rt3 (h:Is_ tb s rs=some ([p,q,r],as0,bs)) (he:as0=bs) (hp:PLe (.tup [p,q,r]) res):Hd P n N H0 (rtK tb rs res) (.ex .ret) [] s:=rt h he hp
theorem M0_ {α:Type} {enc:α->List PV} {xs:List α} (h:xs=[]):PLe (.val (.slice none 0 0)) (.sl enc xs):=h ▸ Av_
def strc (s:Bs):List PV:=[.str s]
def i64c (z:Int):List PV:=[.int .i64 z]
def slc {α:Type} (enc:α->List PV) (l:List α):List PV:=[.sl enc l]
end Go.SW
namespace Go.SW
variable {P:Program} {n:Nat} {N:Rest} {H0:Env} {all rest:List Oper} {Q:Qs} {ks:List Kt} {s:St}
theorem Abs.freeze {i t b b' off T0:Nat} {cs:List PV} {F:Fr} {H H':Hp} {L:Ls} (ha:Abs H0 s F H L) (hF:s.F t = .own i b off) (hL:s.L i = .box b' T0 cs) (hbb:b'=b) (hn:C4_ cs=true) (hl:HLe H H') (hH:∀ b o,L i=some (b,o)->H' b=some o):Abs H0 ⟨updp s.F t (.el cs off),lups s.L i .no⟩ F H' (lupd L i none):=by
 subst hbb;have h1:=ha.l i;rw[hL] at h1;obtain⟨vs,hLi,hs⟩:=h1;have h2:=hH _ _ hLi;have h3:=(ha.f t).sim;rw[hF] at h3;have hat:SlAt H' (.slice (some ⟨b',0,none⟩) 1 1) vs.length 0 vs:=⟨b',0,1,1,vs.toArray,T0,(0,0),rfl,h2,rfl,λj _=>by simp⟩;have hel:Sim H' (.el cs off) (F t):=by
   have :=Sim.el (row:=cs) (o:=off) hat hs.1.symm (λj p v hp hv=>((hs.sims.mono hl).2 j p v hp hv))
   rw[h3.inv_own]
   simpa [sBlk,sOff] using this
 have hb:=(ha.mono hl).turnB (B:= .no) i Z (x:=none) Z;refine⟨hb.le,hb.g,λq=>?_,hb.l⟩;by_cases e:q=t;subst e;simp only[Mn_];exact hel.simT Y;simp only[Re_ _ _ _ _ e];exact hb.f q
theorem freeze {i t b b' off T0:Nat} {cs:List PV} (hF:s.F t = .own i b off) (hL:s.L i = .box b' T0 cs) (hbb:b'=b) (hn:C4_ cs=true) (k:Hd P n N H0 Q (.ops all rest) ks ⟨updp s.F t (.el cs off),lups s.L i .no⟩):Hd P n N H0 Q (.ops all rest) ks s:=by
 intro F H L ha;exact ow_giveO i Y λH' hl hg=>k _ _ _ (ha.freeze hF hL hbb hn hl hg)
theorem freezec {i t b b' off T0:Nat} {cs:List PV} {c:Code} (hF:s.F t = .own i b off) (hL:s.L i = .box b' T0 cs) (hbb:b'=b) (hn:C4_ cs=true) (k:Hd P n N H0 Q (.code c) ks ⟨updp s.F t (.el cs off),lups s.L i .no⟩):Hd P n N H0 Q (.code c) ks s:=by
 intro F H L ha;exact cw_giveO i Y λH' hl hg=>k _ _ _ (ha.freeze hF hL hbb hn hl hg)
theorem qpeq {x y:Operand} {T T' ty i b o:Nat} {e:TypeId} (hT:P.underlying T=some (.pointer e)) (hx:evP s.F x = .own i b o) (hy:evP s.F y = .val (.pointer none)):Qy P N H0 s (.binOp .eql T x y T') ty (.bool false):=λF H L ha=>
 ⟨_,Sim.bool,λ_ _ _=>X4_ (ha.ev hx).sim.inv_own (ha.ev hy).sim.inv_val hT⟩
theorem qpne {x y:Operand} {T T' ty i b o:Nat} {e:TypeId} (hT:P.underlying T=some (.pointer e)) (hx:evP s.F x = .own i b o) (hy:evP s.F y = .val (.pointer none)):Qy P N H0 s (.binOp .neq T x y T') ty (.bool true):=λF H L ha=>
 ⟨_,Sim.bool,λ_ _ _=>lo_pne_nil (ha.ev hx).sim.inv_own (ha.ev hy).sim.inv_val hT⟩
theorem fn_of_pr {G:Gb} {f:FuncId} {args:List PV} {res:PV} {vs:List Value} {v:Value} (hcb:Bo_ P f) (hf:PV.flats args=true) (hn:res.noOsl=true) (ha:PV.wfs args->∀ H,Sims H args vs) (hr:PV.wfs args->∀ H,Sim H res v) (h:PV.wfs args->∀ H,G.p H->Pr P f vs.toArray H v):Fn P G f args res:=
 ⟨hcb,hn,λN H L w us hg hs hm=>by
   have e:=Sims.uniq hf hs (ha hs.wf H)
   subst e
   exact (h hs.wf H hg N L w hm).mono λ_ _ ⟨h1,h2⟩=>⟨v,H,h1,hr hs.wf H, .refl H,h2⟩⟩
end Go.SW
namespace Go.SW
variable {P:Program} {n:Nat} {N:Rest} {H0:Env} {s:St} {tb:Tb} {rs:List ResultVar} {res p q0:PV} {b b' T:Nat} {post q:List PV} {as0 bs:List Nat}
theorem rm1 (h:Is_ tb s rs=some ([p],as0,bs)) (he:as0=bs) (hp:PLe p res) (hb:s.L 0 = .box b' T q) (hbb:b'=b) (hn:C4_ q=true) (hq:PLes q post):Hd P n N H0 (rmK tb rs res b T post) (.ex .ret) [] s:=rm h he hp hb hbb hn hq
theorem rm0n (h:Is_ tb s rs=some ([],as0,bs)) (he:as0=bs) (hp:PLe (.tup []) res) (hb:s.L 0 = .box b' T q) (hbb:b'=b) (hn:C4_ q=true) (hq:PLes q post):Hd P n N H0 (rmK tb rs res b T post) (.ex .normal) [] s:=rmn h he hp hb hbb hn hq
theorem ples {ps qs:List PV} (h:ps=qs):PLes ps qs:=h ▸ ples_rfl
end Go.SW
namespace Go.SW
variable {P:Program} {n:Nat} {N:Rest} {H0:Env} {all rest:List Oper} {Q:Qs} {ks:List Kt} {s:St}
end Go.SW
namespace Go.SW
theorem rg_i64 {z:Int} (h:-9223372036854775808<=z/\z<=9223372036854775807):IntKind.min .i64<=z/\z<=IntKind.max .i64:=h
theorem rg_u8 {z:Int} (h:0<=z/\z<=255):IntKind.min .u8<=z/\z<=IntKind.max .u8:=h
theorem Sp_ {z:Int} (h:0<=z/\z<=18446744073709551615):IntKind.min .u64<=z/\z<=IntKind.max .u64:=h
theorem wr_u8 (z:Int):0<=IntKind.wrap .u8 z/\IntKind.wrap .u8 z<=255:=by
 exact sR
theorem wr_u32 (z:Int):0<=IntKind.wrap .u32 z/\IntKind.wrap .u32 z<=4294967295:=by
 exact sR
theorem H7_ (z:Int):0<=IntKind.wrap .u64 z/\IntKind.wrap .u64 z<=18446744073709551615:=by
 exact sR
theorem beqT {a b:Bool} (h:(a==b)=true):a=b:=by simpa using h
theorem beqF {a b:Bool} (h:(a==b)=false):¬a=b:=by simpa using h
def letter (c:Int):Bool:=decide (97<=c) && decide (c<=122) || decide (48<=c) && decide (c<=57) || decide (c=45) || decide (c=95)
def plain (s:Bs):Bool:=s.all λc=>letter c.toNat
def Cx_ (s:Bs):Int:=if s=[] then 15 else if (16:Int)<s.length then 5 else if plain s then 0 else 4
theorem u8r (c:UInt8):0<=(c.toNat:Int)/\(c.toNat:Int)<=255:=by have :=c.toNat_lt;omega
theorem L1_ {s:Bs} {k:Nat} (h:k<s.length):s.drop k=s.getD k 0::s.drop (k+1):=by
 rw[List.drop_eq_getElem_cons h];simp[List.getD_eq_getElem?_getD,h]
structure Out where
 s:Bs
 err:Int
def Out.cells (o:Out):List Value:=[str o.s, .int .i64 o.err]
structure In where
 s:Bs
 err:Int
def In.cells (i:In):List Value:=[str i.s, .int .i64 i.err]
def numB:Nat->Nat->Bs
 |0,_=>[]
 |k+1,n=>UInt8.ofNat (n/256 ^ k)::numB k n
def numK (bytes:Int):Nat:=(min (max bytes 0) 8).toNat
def M_ (o:Out) (n bytes:Int):Out:=⟨o.s++numB (numK bytes) n.toNat,o.err⟩
def Dp_ (o:Out) (s:Bs):Out:=⟨o.s++s,o.err⟩
def V_ (o:Out) (s:Bs):Out:=if (65535:Int)<s.length then (if o.err=0 then ⟨o.s,5⟩ else o) else Dp_ (M_ o s.length 2) s
def beN (l:Bs):Nat:=l.foldl (λn c=>n*256+c.toNat) 0
def Js_ (i:In) (code:Int):In:=if i.err=0/\code≠0 then ⟨[],code⟩ else i
def Kt_ (i:In) (n:Int):Bs×In:=
 if i.err≠0\/n<=0 then ([],i) else if (i.s.length:Int)<n then ([],⟨[],3⟩) else (i.s.take n.toNat,⟨i.s.drop n.toNat,i.err⟩)
def Zj_ (i:In) (bytes:Int):Int×In:=(beN (Kt_ i (min bytes 8)).1,(Kt_ i (min bytes 8)).2)
theorem beN_take {l:Bs} {k:Nat} {c:UInt8} (h:l[k]? = some c):beN (l.take (k+1))=beN (l.take k)*256+c.toNat:=by
 rw[takeE h];simp[beN,List.foldl_append]
theorem beN_lt (l:Bs):beN l<256 ^ l.length:=by
 have key:∀ (l:Bs) (a:Nat),l.foldl (λn c=>n*256+c.toNat) a<(a+1)*256 ^ l.length:=by
   intro l
   induction l with
   |nil=>intro a;simp
   |cons c r ih=>
     intro a
     have :=ih (a*256+c.toNat)
     have hc:=c.toNat_lt
     rw[List.foldl_cons,List.length_cons,Nat.pow_succ]
     refine Nat.lt_of_lt_of_le this ?_
     rw[show (a+1)*(256 ^ r.length*256)=((a+1)*256)*256 ^ r.length by rw[Nat.mul_comm (256 ^ r.length),Nat.mul_assoc]]
     exact Nat.mul_le_mul_right _ pB
 simpa [beN] using key l 0
theorem or_byte {n c:Nat} (hn:n<2 ^ 56) (hc:c<256):IntKind.wrap .u64 ((BitVec.ofInt 64 (IntKind.wrap .u64 ((n:Int)*256)) |||BitVec.ofInt 64 (c:Int)).toNat:Int)=((n*256+c:Nat):Int):=by
 have h1:IntKind.wrap .u64 ((n:Int)*256)=((n*256:Nat):Int):=by
   exact rA
 rw[h1,BitVec.ofInt_natCast,BitVec.ofInt_natCast,BitVec.toNat_or,BitVec.toNat_ofNat,BitVec.toNat_ofNat,Nat.mod_eq_of_lt pB,Nat.mod_eq_of_lt pB];have h2:n*256 |||c=n*256+c:=by
   have :=Nat.shiftLeft_add_eq_or_of_lt (b:=c) (i:=8) pB n
   rw[Nat.shiftLeft_eq] at this
   exact this.symm
 rw[h2];exact rA
theorem inRaw_len (i:In) (n:Int):((Kt_ i n).1.length:Int)<=max n 0:=by
 unfold Kt_
 split
 simp;omega
 . split
   simp;omega
   simp;omega
theorem inNum_r (i:In) (b:Int):0<=(Zj_ i b).1/\(Zj_ i b).1<=18446744073709551615/\(b<=2->(Zj_ i b).1<=65535)/\(b<=1->(Zj_ i b).1<=255):=by
 have hl:=inRaw_len i (min b 8);have hlt:=beN_lt (Kt_ i (min b 8)).1;have key:∀ m,(Kt_ i (min b 8)).1.length<=m->beN (Kt_ i (min b 8)).1<256 ^ m:=λm hm=>Nat.lt_of_lt_of_le hlt (Nat.pow_le_pow_right pB hm);have h8:=key 8 pB;simp only[Zj_];refine⟨by omega,by omega,λh=>?_,λh=>?_⟩;have :=key 2 pB;omega;have :=key 1 pB;omega
theorem wrap8r (z:Int):0<=IntKind.wrap .u8 z/\IntKind.wrap .u8 z<=255:=by
 exact rA
theorem byte_of {n:Int} {j:Nat} (hn:0<=n) (hj:1<=j) (hj8:j<=8):UInt8.ofNat (IntKind.wrap .u8 (n.fdiv (2 ^ (min (8*((j:Int)-1)).toNat IntKind.u64.bits)))).toNat=UInt8.ofNat (n.toNat/256 ^ (j-1)):=by
 obtain⟨m,rfl⟩:=Int.eq_ofNat_of_zero_le hn;obtain⟨q,rfl⟩:∃ q,j=q+1:=⟨j-1,by omega⟩;have e1:(8*(((q+1:Nat):Int)-1)).toNat=8*q:=by omega
 have eb:IntKind.u64.bits=64:=rfl;have e2:min (8*q) IntKind.u64.bits=8*q:=by rw[eb];omega
 have e3:((2:Int) ^ (8*q))=((256 ^ q:Nat):Int):=by
   rw[Int.pow_mul];simp
 rw[e1,e2,e3,Int.toNat_natCast,Nat.add_sub_cancel];have e4:((m:Int).fdiv ((256 ^ q:Nat):Int))=((m/256 ^ q:Nat):Int):=by
   rw[Int.fdiv_eq_ediv_of_nonneg _ (Int.natCast_nonneg _)];simp
 rw[e4];generalize m/256 ^ q=z
 apply UInt8.toNat_inj.1
 simp[IntKind.wrap,IntKind.bits,IntKind.signed,UInt8.toNat_ofNat']
 try omega
theorem byte_app {e n:Nat} {v:Value} {en:Option (Nat×Obj)} {bs:Bs} {z:Int} (h:OwnV 1 e v en n (bs.map u8v++[.int .u8 z])) (hn:n=bs.length+1) (hz:0<=z/\z<=255):OwnV 1 e v en (bs++[UInt8.ofNat z.toNat]).length ((bs++[UInt8.ofNat z.toNat]).map u8v):=
 ownV_cast h (by simp[hn]) (by simp[u8v_of hz.1 hz.2])
theorem A1_:∀ (k n:Nat),(numB k n).length=k
 |0,_=>rfl
 |k+1,n=>by simp[numB,A1_ k n]
theorem num_step {l:Bs} {k:Nat} {c:UInt8} (hc:l[k]? = some c) (hk:k<8) :
   IntKind.u64.wrap ↑(BitVec.ofInt IntKind.u64.bits (IntKind.u64.wrap (↑(beN (l.take k))*2 ^ min (Int.toNat 8) IntKind.u64.bits)) |||BitVec.ofInt IntKind.u64.bits (c.toNat:Int)).toNat=((beN (l.take (k+1)):Nat):Int):=by
 have hlt:=beN_lt (l.take k);have hl:(l.take k).length<=k:=List.length_take_le _ _;have h2:256 ^ (l.take k).length<=256 ^ 7:=Nat.pow_le_pow_right pB pB;rw[beN_take hc];have e:((2:Int) ^ min (Int.toNat 8) IntKind.u64.bits)=256:=by decide
 rw[e];exact or_byte (n:=beN (l.take k)) (c:=c.toNat) pB c.toNat_lt
def dots:Bs->List Bs
 |[]=>[[]]
 |c::r=>if c=46 then []::dots r else match dots r with
   |[]=>[[c]]
   |w::t=>(c::w)::t
def Ck_ (s:Bs):List Bs:=if s=[] then [] else dots s
theorem W9_:∀ s:Bs,Lib.splitK [46] 0 (Lib.count s [46]) s=dots s
 |[]=>by rw[Lib.count_miss (by simp[Lib.index])];rfl
 |b::l=>by
   have ih:=W9_ l
   by_cases hb:b=46
   . subst hb
     rw[Lib.count_cons_eq,Nat.add_comm]
     have hix:Lib.index (46::l) [46]=0:=by rw[Lib.index];simp[List.isPrefixOf]
     unfold Lib.splitK dots
     rw[hix]
     simp[ih]
   . rw[Lib.count_cons_ne _ _ _ hb]
     have hp:([46]:List UInt8).isPrefixOf (b::l)=false:=by simp[List.isPrefixOf,Ne.symm hb]
     have hix:Lib.index (b::l) [46] = if Lib.index l [46] == -1 then -1 else Lib.index l [46]+1:=by rw[Lib.index,hp];simp
     unfold dots
     rw[if_neg hb,<- ih]
     cases hc:Lib.count l [46] with
     |zero=>rfl
     |succ k=>
       unfold Lib.splitK
       rw[hix]
       by_cases hm:Lib.index l [46] = -1
       . rw[Lib.count_miss hm] at hc;cases hc
       . have hge:=Lib.index_ge l [46]
         obtain⟨j,hj⟩:∃ j:Nat,Lib.index l [46]=j:=⟨(Lib.index l [46]).toNat,by omega⟩
         exact sE
theorem W7_ (s:Bs):(Lib.splitB ⟨#[46]⟩ 0 (Lib.countB ⟨s.toArray⟩ ⟨#[46]⟩) ⟨s.toArray⟩).map Value.string=(dots s).map str:=by
 have h:=Lib.splitB_data ⟨#[46]⟩ 0 (Lib.countB ⟨s.toArray⟩ ⟨#[46]⟩) ⟨s.toArray⟩;have hc:Lib.countB ⟨s.toArray⟩ ⟨#[46]⟩=Lib.count s [46]:=by simp[Lib.countB]
 rw[hc] at h ⊢;have e:=W9_ s;exact sP
theorem Yn_ (s:Bs):Lib.countB ⟨s.toArray⟩ ⟨#[46]⟩+1=(dots s).length:=by
 have h:=congrArg List.length (W7_ s);rw[List.length_map,List.length_map,Lib.splitB_all ⟨#[46]⟩ pC 0 _ _ rfl] at h;exact h
theorem dots_le (s:Bs):(dots s).length<=s.length+1:=by
 rw[<- Yn_];have :=Lib.countB_le ⟨#[46]⟩ pC s.length ⟨s.toArray⟩ (by simp[K6_]);simp[K6_] at this;omega
theorem S9_:∀ (s w:Bs),w∈dots s->w.length<=s.length
 |[],w,h=>by simp[dots] at h;simp[h]
 |c::r,w,h=>by
   unfold dots at h
   split at h
   . rcases List.mem_cons.1 h with rfl|h
     . simp
     . have :=S9_ r w h;simp;omega
   . split at h
     . simp at h;subst h;simp
     . rename_i x t e
       have ih:=S9_ r
       rw[e] at ih
       rcases List.mem_cons.1 h with rfl|h
       . have :=ih x pF;simp;omega
       . have :=ih w (by simp[h]);simp;omega
theorem S1_ (s:Bs):(Ck_ s).length<=s.length+1:=by
 unfold Ck_;split;simp;exact dots_le s
def Qp_ (besides:List Bs) (w:Bs):Bool:=!(besides.contains w)&&(w==[]||!plain w)
def keyE (besides:List Bs) (s:Bs):Int:=if (64:Int)<s.length then 5 else if (Ck_ s).any (Qp_ besides) then 4 else 0
structure Pair where
 key:Bs
 kind:Int
 num:Int
 text:Bs
deriving DecidableEq
def Pair.cells (p:Pair):List Value:=[str p.key, .int .u8 p.kind, .int .i64 p.num,str p.text]
def Pair.wf (p:Pair):Prop:=(0<=p.kind/\p.kind<=255)/\(-9223372036854775808<=p.num/\p.num<=9223372036854775807)/\p.key.length<=9223372036854775807/\p.text.length<=9223372036854775807
def Pair.zero:Pair:=⟨[],0,0,[]⟩
def J8_ (h:List Pair) (key:Bs):Option Pair:=h.find? λp=>p.key==key
theorem findP_hit {h r:List Pair} {p:Pair} {key:Bs} {k:Nat} (e:J8_ h key=J8_ (h.drop k) key) (hd:h.drop k=p::r) (hk:p.key=key):J8_ h key=some p:=by
 rw[e,hd];simp[J8_,hk]
theorem findP_miss {h r:List Pair} {p:Pair} {key:Bs} {k:Nat} (e:J8_ h key=J8_ (h.drop k) key) (hd:h.drop k=p::r) (hk:¬p.key=key):J8_ h key=J8_ r key:=by
 rw[e,hd];simp[J8_,hk]
def Fj_ (p:Pair) (ahead:List Pair):Int:=
 if Cx_ p.key≠0 then Cx_ p.key else if 2<p.kind then 8 else if p.kind=1/\(64:Int)<p.text.length then 5 else if p.kind=2/\p.num≠0/\p.num≠1 then 7 else if p.kind=1/\p.num≠0\/p.kind≠1/\p.text≠[] then 4 else if (J8_ ahead p.key).isSome then 9 else 0
def Jf_:List Pair->List Pair->Int
 |_,[]=>0
 |ahead,p::r=>if Fj_ p ahead≠0 then Fj_ p ahead else Jf_ (ahead++[p]) r
def Du_ (h:List Pair):Int:=if (8:Int)<h.length then 6 else Jf_ [] h
theorem No_ (s:Bs):0<=Cx_ s/\Cx_ s<=15:=by
 unfold Cx_;exact tS
theorem Wg_ (p:Pair) (l:List Pair):0<=Fj_ p l/\Fj_ p l<=15:=by
 have :=No_ p.key;unfold Fj_;exact tS
theorem B2_ (o:Out) (n k:Int):(M_ o n k).s.length<=o.s.length+8:=by
 simp only[M_,List.length_append,A1_,numK];omega
theorem Jj_ (o:Out) (s:Bs):(Dp_ o s).s.length=o.s.length+s.length:=by simp[Dp_]
theorem B9_ (o:Out) (s:Bs):(V_ o s).s.length<=o.s.length+s.length+8:=by
 unfold V_
 split
 . split<;>first|omega|(simp;done)|(simp;omega)
 rw[Jj_];have :=B2_ o s.length 2;omega
def H2_ (o:Out) (p:Pair):Out:=
 if p.kind=0 then M_ (M_ (V_ o p.key) p.kind 1) (IntKind.wrap .u64 p.num) 8
 else if p.kind=1 then V_ (M_ (V_ o p.key) p.kind 1) p.text
 else if p.kind=2 then M_ (M_ (V_ o p.key) p.kind 1) (IntKind.wrap .u64 p.num) 1
 else M_ (V_ o p.key) p.kind 1
def Va_ (h:List Pair):Out:=h.foldl H2_ (M_ ⟨[],0⟩ h.length 1)
def Db_ (h:List Pair):Bs:=if Du_ h=0 then (Va_ h).s else []
theorem Ij_ {s:Bs} (h:Cx_ s=0):s.length<=16:=by
 unfold Cx_ at h
 split at h
 . cases h
 . split at h
   . cases h
   omega
theorem pairErr_ok {p:Pair} {ahead:List Pair} (h:Fj_ p ahead=0):p.key.length<=16/\p.kind<=2/\(p.kind=1->p.text.length<=64):=by
 unfold Fj_ at h
 split at h
 . contradiction
 . rename_i hn
   have hk:=Ij_ (Decidable.not_not.1 hn)
   split at h
   . cases h
   . split at h
     . cases h
     exact⟨hk,by omega,λe=>by omega⟩
theorem headGo_ok:∀ {r ahead:List Pair},Jf_ ahead r=0->∀ p∈r,p.key.length<=16/\p.kind<=2/\(p.kind=1->p.text.length<=64)
 |[],_,_,p,hp=>by cases hp
 |q::r,ahead,h,p,hp=>by
   simp only[Jf_] at h
   split at h
   . contradiction
   . rename_i hn
     rcases List.mem_cons.1 hp with rfl|hp
     . exact pairErr_ok (Decidable.not_not.1 hn)
     . exact headGo_ok h p hp
theorem Oa_ {h:List Pair} (e:Du_ h=0):h.length<=8/\∀ p∈h,p.key.length<=16/\p.kind<=2/\(p.kind=1->p.text.length<=64):=by
 unfold Du_ at e
 split at e
 . cases e
 exact⟨by omega,headGo_ok e⟩
theorem L7_ {o:Out} {p:Pair} (h:p.key.length<=16/\p.kind<=2/\(p.kind=1->p.text.length<=64)):(H2_ o p).s.length<=o.s.length+110:=by
 have h1:=B9_ o p.key;have h2:=B2_ (V_ o p.key) p.kind 1;unfold H2_
 split
 have :=B2_ (M_ (V_ o p.key) p.kind 1) (IntKind.wrap .u64 p.num) 8;omega
 . split
   have :=B9_ (M_ (V_ o p.key) p.kind 1) p.text;omega
   . split
     have :=B2_ (M_ (V_ o p.key) p.kind 1) (IntKind.wrap .u64 p.num) 1;omega
     omega
theorem headOut_len {h:List Pair} (e:Du_ h=0):(Va_ h).s.length<=1000:=by
 obtain⟨h1,h2⟩:=Oa_ e;have key:∀ (l:List Pair) (o:Out),(∀ p∈l,p.key.length<=16/\p.kind<=2/\(p.kind=1->p.text.length<=64))->(l.foldl H2_ o).s.length<=o.s.length+110*l.length:=by
   intro l
   induction l with
   |nil=>intro o _;simp
   |cons p r ih=>
     intro o hp
     have a:=ih (H2_ o p) (λq hq=>hp q pZ)
     have b:=L7_ (o:=o) (hp p pF)
     simp only[List.foldl_cons,List.length_cons];omega
 have a:=key h (M_ ⟨[],0⟩ h.length 1) h2;have b:=B2_ ⟨[],0⟩ h.length 1;simp only[Va_];simp at b;omega
structure Mail where
 id:Int
 Ak_:Bs
 key:Bs
 head:List Pair
 body:Bs
 due:Int
 hops:Int
deriving DecidableEq
def Mail.cells (m:Mail) (a:Option Addr) (c:Nat):List Value:=[.int .u64 m.id,str m.Ak_,str m.key, .slice a m.head.length c,str m.body, .int .u64 m.due, .int .u8 m.hops]
def Mail.wf (m:Mail):Prop:=(0<=m.id/\m.id<=18446744073709551615)/\(0<=m.due/\m.due<=18446744073709551615)/\(0<=m.hops/\m.hops<=255)/\m.Ak_.length<=9223372036854775807/\m.key.length<=9223372036854775807/\m.body.length<=9223372036854775807/\m.head.length<=9223372036854775807
structure Reply where
 channel:Int
 kind:Int
 n:Int
 m:Int
 yes:Bool
 name:Bs
 O_:Mail
deriving DecidableEq
def Reply.cells (r:Reply) (a:Option Addr) (c:Nat):List Value:=[.int .u8 r.channel, .int .u8 r.kind, .int .u64 r.n, .int .u64 r.m, .bool r.yes,str r.name, .int .u64 r.O_.id,str r.O_.Ak_,str r.O_.key, .slice a r.O_.head.length c,str r.O_.body, .int .u64 r.O_.due, .int .u8 r.O_.hops]
def Reply.wf (r:Reply):Prop:=(0<=r.channel/\r.channel<=255)/\(0<=r.kind/\r.kind<=255)/\(0<=r.n/\r.n<=18446744073709551615)/\(0<=r.m/\r.m<=18446744073709551615)/\r.name.length<=9223372036854775807/\r.O_.wf
structure Frame where
 channel:Int
 kind:Int
 body:Bs
deriving DecidableEq
def Frame.cells (f:Frame):List Value:=[.int .u8 f.channel, .int .u8 f.kind,str f.body]
def Frame.wf (f:Frame):Prop:=(0<=f.channel/\f.channel<=255)/\(0<=f.kind/\f.kind<=255)/\f.body.length<=9223372036854775807
def Frame.zero:Frame:=⟨0,0,[]⟩
theorem Hd_ (h:List Pair):(Db_ h).length<=1000:=by
 unfold Db_
 split
 exact headOut_len pE;simp
theorem keyE_ok {b:List Bs} {s:Bs} (h:keyE b s=0):s.length<=64:=by
 unfold keyE at h
 split at h
 . cases h
 omega
variable {P:Program} {n:Nat} {N:Rest} {H0:Env} {s:St} {T ty:TypeId} {y:Operand}
end Go.SW
namespace Go.SW
variable {P:Program} {n:Nat} {N:Rest} {H0:Env} {all rest:List Oper} {Q:Qs} {ks:List Kt} {s:St} {T T' T2 ty d:Nat} {pos:String} {af:Array Edge} {x y z:Operand} {K:St->Prop} {op:Op} {p:PV}
structure Fo {α:Type} (P:Program) (G:Gb) (f:FuncId) (args:List PV) (res:Value->PV) (k e:Nat) (enc:α->List PV) (xs:List α):Prop where
 cb:Bo_ P f
 no:∀ u,(res u).noOsl=true
 run:∀ (N:Rest) (H:Hp) (L:Ls) (w:World) (i:Nat) (vs:List Value),G.p H->Sims H args vs->Mem N H L w ->
   Calls P f vs.toArray w λe' w'=>∃ v H' en u,e' = .returned v/\Sim H' (res u) v/\SimB (λ_=> .no) H' (.arr u k e enc xs) en/\HLe H H'/\Mem N H' (lupd L i en) w'
def foK {α:Type} (tb:Tb) (rs:List ResultVar) (res:Value->PV) (k e:Nat) (enc:α->List PV) (xs:List α):Qs:=λe' s=>∃ u j,rtK tb rs (res u) e' s/\s.L j = .arr u k e enc xs
theorem Zc_ {α:Type} {tb:Tb} {G:Gb} {m:Nat} {f:FuncId} {fn:Func} {c:Code} {args:List PV} {res:Value->PV} {k e:Nat} {enc:α->List PV} {xs:List α} (ht:tbB P tb=true) (hf:P.funcs[f]? = some fn) (hb:fn.body=some c) (hn:fn.ntmps=m) (hs:Nat.ble args.length m=true) (hcb:Bo_ P f) (hno:∀ u,(res u).noOsl=true) (hna:C4_ args=true)
   (h:PV.wfs args->∀ N H,G.p H->Hd P m N ⟨H,G⟩ (foK tb fn.results.toList res k e enc xs) (.code c) [] ⟨P9_ args,λ_=> .no⟩):Fo P G f args res k e enc xs:=by
 refine⟨hcb,hno,λN H L w i vs hg hsim hm=>?_⟩;subst hn;have key:Po P f vs.toArray H (λv H' en=>∃ u,Sim H' (res u) v/\SimB (λ_=> .no) H' (.arr u k e enc xs) en):=by
   refine po_of_cw hf hb oT λN=>?_
   have h1:=h hsim.wf N H hg (K9_ vs.toArray) H l0 ⟨.refl H,hg,λt=>Od_ hsim hna t,λi=>trivial⟩
   refine K7_ (λe' F' H' L' hq=>?_) h1
   obtain⟨s',ha',u,j,hq',hq1⟩:=hq
   obtain⟨he,v,hr,hv⟩:=Qz_ (N:=N) ht ha' hq'
   have h3:=ha'.l j
   rw[hq1] at h3
   rcases he with rfl|rfl
   . exact⟨v,hr,ha'.le,j,u,hv,h3⟩
   . exact⟨v,hr,ha'.le,j,u,hv,h3⟩
 exact (key N L w i hm).mono λ_ _ ⟨v,H',en,h1,⟨u,h5,h6⟩,h3,h4⟩=>⟨v,H',en,u,h1,h5,h6,h3,h4⟩
theorem ecallo {α:Type} {f:FuncId} {args:List PV} {res:Value->PV} {k e:Nat} {enc:α->List PV} {xs:List α} {as0:Array Operand} {ats:Array TypeId} (i:Nat) (h:Fo P H0.g f args res k e enc xs) (ha:argsP s.F x as0.toList=some (f,args)) (hd:Nat.blt d n=true) (kk:∀ u,(res u).wf->K ⟨updp (Ip_ i s.F) d (res u),lups (G3_ i s.L) i (.arr u k e enc xs)⟩):E1 P n N H0 all ⟨some d, .call ⟨.value x,as0,ats⟩,ty,pos,af,none⟩ (some i) s K:=by
 intro F H L hab;obtain⟨us,h1,h2⟩:=Kd_ (ats:=ats) hab.f ha h.cb;intro a w hA hm;rw[if_pos pI];unfold Oper.wp;rw[hA.eval,h2];refine (h.run N H L w i us hab.g h1 hm).mono λe' w' ⟨v,H',en,u,he,hv,hB,hl,hm'⟩=>?_;subst he;exact⟨_,H',_,hA.put pK v,hm',hl,only,_,Abs.put (p:=res u) ((hab.mono hl).turn i (B:= .arr u k e enc xs) (x:=en) hB) d (hv.simT (h.no u)),kk u hv.wf⟩
theorem val_osl {α:Type} {t i k e:Nat} {u:Value} {enc:α->List PV} {xs:List α} {F:Fr} {H:Hp} {L:Ls} (ha:Abs H0 s F H L) (hF:s.F t = .val u) (hL:s.L i = .arr u k e enc xs):Abs H0 ⟨updp s.F t (.osl i),s.L⟩ F H L:=by
 refine⟨ha.le,ha.g,λq=>?_,ha.l⟩;by_cases e:q=t;subst e;have h1:=(ha.f q).sim;rw[hF] at h1;simp only[Mn_,SimT,hL];exact h1.inv_val;exact sV
theorem osl_val {α:Type} {t i k e:Nat} {u:Value} {enc:α->List PV} {xs:List α} {F:Fr} {H:Hp} {L:Ls} (ha:Abs H0 s F H L) (hF:s.F t = .osl i) (hL:s.L i = .arr u k e enc xs):Abs H0 ⟨updp s.F t (.val u),s.L⟩ F H L:=by
 refine⟨ha.le,ha.g,λq=>?_,ha.l⟩;by_cases e:q=t;subst e;have h1:=ha.f q;rw[hF] at h1;simp only[SimT,hL] at h1;simp only[Mn_];rw[h1];exact Sim.val;exact sV
theorem so_osl {α:Type} {t k e:Nat} {u:Value} {enc:α->List PV} {xs:List α} (i:Nat) (hF:s.F t = .val u) (hL:s.L i = .arr u k e enc xs) (kk:Hd P n N H0 Q (.ops all rest) ks ⟨updp s.F t (.osl i),s.L⟩):Hd P n N H0 Q (.ops all rest) ks s:=λF H L ha=>kk F H L (val_osl ha hF hL)
theorem sw_osl {α:Type} {t k e:Nat} {u:Value} {enc:α->List PV} {xs:List α} {c:Code} (i:Nat) (hF:s.F t = .val u) (hL:s.L i = .arr u k e enc xs) (kk:Hd P n N H0 Q (.code c) ks ⟨updp s.F t (.osl i),s.L⟩):Hd P n N H0 Q (.code c) ks s:=λF H L ha=>kk F H L (val_osl ha hF hL)
theorem sw_val {α:Type} {t i k e:Nat} {u:Value} {enc:α->List PV} {xs:List α} {c:Code} (hF:s.F t = .osl i) (hL:s.L i = .arr u k e enc xs) (kk:Hd P n N H0 Q (.code c) ks ⟨updp s.F t (.val u),s.L⟩):Hd P n N H0 Q (.code c) ks s:=λF H L ha=>kk F H L (osl_val ha hF hL)
end Go.SW
namespace Go.SW
variable {P:Program} {n:Nat} {N:Rest} {H0:Env} {s:St}
theorem ro1 {α:Type} {tb:Tb} {rs:List ResultVar} {u:Value} {k e j:Nat} {enc:α->List PV} {xs xs':List α} {as0 bs:List Nat} (h:Is_ tb s rs=some ([.val u],as0,bs)) (he:as0=bs) (hL:s.L j = .arr u k e enc xs') (hx:xs'=xs):Hd P n N H0 (foK tb rs (λu=> .val u) k e enc xs) (.ex .ret) [] s:=⟨u,j,⟨.inr Y,_,as0,bs,h,he,ple Y⟩,by rw[hL,hx]⟩
end Go.SW
namespace Go.SW
variable {P:Program} {n:Nat} {N:Rest} {H0:Env} {s:St} {ty:TypeId}
theorem evs_ints {F:Fr} {H:Hp} {L:Ls} (hab:Abs H0 s F H L) {k:IntKind}:∀ (xs:List Operand) (zs:List Int),evPs s.F xs=zs.map (PV.int k)->evs F xs=zs.map (Value.int k)
 |[],[],_=>rfl
 |x::xs,z::zs,h=>by
   simp only[evPs,List.map_cons,List.cons.injEq] at h
   simp only[evs,List.map_cons,List.cons.injEq]
   exact⟨(hab.ev h.1).sim.inv_int.1,evs_ints hab xs zs h.2⟩
 |[],_::_,h=>by simp[evPs] at h
 |_::_,[],h=>by simp[evPs] at h
theorem qmaxN {as0:Array Operand} {k:IntKind} {z r:Int} (zs:List Int) {ats:Array TypeId} (hx:evPs s.F as0.toList=(z::zs).map (PV.int k)) (hr:zs.foldl max z=r) (hq:k.min<=r/\r<=k.max):Qy P N H0 s (.call ⟨.builtin .max,as0,ats⟩) ty (.int k r):=λF H L hab=>by
 have h1:=evs_ints hab _ _ hx
 refine⟨_,Sim.int hq.1 hq.2,λH' L' _=>?_⟩
 have :=lo_maxN (P:=P) (N:=N) (F:=F) (H:=H') (L:=L') (ty:=ty) (ats:=ats) zs h1 hr
 exact rC
end Go.SW
namespace Go.SW
variable {P:Program} {n:Nat} {N:Rest} {H0:Env} {all:List Oper} {s:St} {K:St->Prop}
theorem op1_gd3 {F:Fr} {H:Hp} {L:Ls} {op:Op} {ty j d:Nat} {pos:String} {af:Array Edge} {K:Fr->Hp->Ls->Prop} {want c b:Bool} (hy:yF all F j=some (gv c (.bool b))) (hd:Nat.blt d n=true)
   (ht:(c&&gOf b want)=true->Op1 P n N all ⟨some d,op,ty,pos,af,none⟩ K F H L) (hf:(c&&gOf b want)=false->K (upd F d undef) H L):Op1 P n N all ⟨some d,op,ty,pos,af,some (j,want)⟩ K F H L:=by
 cases c with
 |false=>
   refine λa w ha hm=>?_
   have :yielded all.toArray a.tmps j=none:=Pq_ ha hy
   rw[if_neg oS]
   exact⟨_,_,_,ha.put pK undef,hm,hf Y⟩
 |true=>
   by_cases e:b=want
   . subst e
     exact op1_gd hy Y (ht (by cases b<;>rfl))
   . refine op1_gs hy (b:=b) ?_ hd (hf ?_)
     . exact zB
     . cases b<;>cases want<;>simp_all [gOf]
theorem ecallg {f:FuncId} {args:List PV} {res:PV} {x:Operand} {xs:Array Operand} {ats:Array TypeId} {ty d j:Nat} {want g:Bool} {pos:String} {af:Array Edge} (hg:gOp s all j want=some g) (h:g=true->Fn P H0.g f args res) (ha:argsP (strG (J9_ xs.toList) s.F) x xs.toList=some (f,args)) (hc:AllP (Ow_ s.F g (J9_ xs.toList) [])) (hno:Kv_ s.F (J9_ xs.toList)=true) (hd:Nat.blt d n=true)
   (k:(g=true->res.wf)->K ⟨updp s.F d (.gv g res),s.L⟩):E1 P n N H0 all ⟨some d, .call ⟨.value x,xs,ats⟩,ty,pos,af,some (j,want)⟩ none s K:=by
 intro F H L hab;obtain⟨c,b,hy,hge⟩:=Tw_ hab hg;refine op1_gd3 hy hd (λe=>?_) (λe=>?_);have hgt:=hge.trans e;have hF:=h hgt;obtain⟨vs,h1,h2⟩:=Kd_ (ats:=ats) (Rc_ hab.f (λt ht c v e=>(Lh_ hc).2 t ht c v e hgt) (Kw_ hno)) ha hF.cb;refine op1_ph (hF.ph hab.g h1) h2 hd λv H' hv hl=>⟨hl,λ_ _=>rfl,_,(hab.mono hl).put (p:= .gv g res) d ?_,k λ_=>hv.wf⟩;rw[hgt];exact Sim.gvt hv;have hgf:=hge.trans e;refine⟨.refl H,λ_ _=>rfl,_,hab.put (p:= .gv g res) d ?_,k λe=>by rw[hgf] at e;cases e⟩
 rw[hgf];exact Sim.gvf
end Go.SW
namespace Go.SW
variable {P:Program} {n:Nat} {N:Rest} {H0:Env} {all rest:List Oper} {Q:Qs} {ks:List Kt} {s:St}
theorem ungd {od:Option Nat} {op:Op} {ty j:Nat} {pos:String} {af:Array Edge} {want g:Bool} (hg:gOp s all j want=some g) (ht:g=true) (k:Hd P n N H0 Q (.ops all (⟨od,op,ty,pos,af,none⟩::rest)) ks s):Hd P n N H0 Q (.ops all (⟨od,op,ty,pos,af,some (j,want)⟩::rest)) ks s:=by
 intro F H L hab;obtain⟨c,b,hy,hge⟩:=Tw_ hab hg;have hgt:(c&&gOf b want)=true:=by rw[<- hge];exact ht
 cases c with
 |false=>cases hgt
 |true=>
   have hb:b=want:=by cases b<;>cases want<;>simp_all [gOf]
   intro a w ha hm
   have q:=k F H L hab a w ha hm
   unfold wpList at q ⊢
   have hy':yF all F j=some (.bool b):=hy
   rw[if_pos pI] at q
   rw[if_pos (by simp[Region.wanted,Ko_ ha hy',hb])]
   exact q
theorem ungs {op:Op} {ty j d:Nat} {pos:String} {af:Array Edge} {want g:Bool} (hg:gOp s all j want=some g) (ht:g=false) (hd:Nat.blt d n=true) (k:Hd P n N H0 Q (.ops all rest) ks ⟨updp s.F d .junk,s.L⟩):Hd P n N H0 Q (.ops all (⟨some d,op,ty,pos,af,some (j,want)⟩::rest)) ks s:=by
 intro F H L hab;obtain⟨c,b,hy,hge⟩:=Tw_ hab hg;refine ow_gd hy hd (λe=>?_) (λe=>?_)
 . rw[<- hge,ht] at e;cases e
 exact k _ _ _ (hab.put d .junk)
end Go.SW
namespace Go.SW
section
variable {α:Type} {P:Program} {n:Nat} {N:Rest} {F:Fr} {H:Hp} {L:Ls} {ops:List Oper} {T T' T2 ty d:TypeId} {x y z:Operand} {pos:String} {af:Array Edge} {K:Fr->Hp->Ls->Prop}
set_option maxHeartbeats 2000000 in
theorem op1_appz2 {k bytes m:Nat} {e:TypeId} {zs:List Value} {k1 k2:IntKind} {q:Int} (i:Nat) (hx:ev F x = .slice none 0 0) (hy:ev F y = .int k1 q) (hT:P.underlying T=some (.slice e)) (hT2:P.underlying T2=some (.int k2)) (hk:Sz P e k) (hb:By P e bytes) (h0:0<bytes) (hz:Zr P e zs) (hzl:zs.length=k) (hone:∀ u∈zs,u.oneCell'=true)
   (hq:q=(m:Int)) (hm0:0<m) (hbd:m*bytes<=140737488355328) (hd:Nat.blt d n=true)
   (kk:∀ v' en' cs,OwnV k e v' en' m cs->(∀ u∈cs,u.oneCell'=true)->K (upd F d v') H (lupd L i en')):Op1 P n N ops ⟨some d, .call ⟨.builtin .append,#[x,y],#[T,T2]⟩,ty,pos,af,none⟩ K F H L:=by
 intro a w ha hm;rw[if_pos pI];unfold Oper.wp;subst hq;obtain⟨inf,hinf,hbb⟩:=hb w;have hsz:m<=m*bytes:=Nat.le_mul_of_pos_right _ h0;have hw:IntKind.wrap .i64 (m:Int)=(m:Int):=by
   exact sS
 have hfit:=growslice_fits (need:=0+m) (old:=0) (bytes:=bytes) pB (by simpa using hbd);have hfit':¬(281474976710656<Builtin.nextslicecap m 0*inf.bytes):=by rw[hbb];simp only[Nat.zero_add] at hfit;omega
 have hl:¬(281474976710656<(m:Int)*(inf.bytes:Int)):=by
   rw[hbb]
   have e1:((m:Int)*(bytes:Int))=((m*bytes:Nat):Int):=by simp
   rw[e1];omega
 have h63:¬(9223372036854775807<(m:Int)):=by omega
 have h1:¬((m:Int)<0):=by omega
 have hm00:¬m=0:=by omega
 have hmk:¬m<=0:=by omega
 obtain⟨nc,hnc⟩:∃ nc,nc=(Question.appendCap m 0 e).cut (w.tape w.drawn (Question.appendCap m 0 e)):=⟨_,rfl⟩;have hnge:m<=nc:=by rw[hnc];simp only[Question.cut];omega
 obtain⟨z,hz1,hz2⟩:=hz w.drew;obtain⟨inf',hinf',_⟩:=hb w.drew;have hqf:(Question.appendCap m 0 e).forced=false:=rfl;have hnil:(Builtin.firstCells k 0 (.slice none 0 0)).run P w.drew = .ok #[] w.drew:=by simp[Builtin.firstCells]
 have hzc:∀ q,(Builtin.zeroCells zs.toArray q).size=q*k:=λq=>by simp[Builtin.zeroCells,hzl]
 let news:List Value:=if m*k=0 then [] else (Builtin.zeroCells zs.toArray m).toList
 have hnl:news.length=m*k:=by
   by_cases h:m*k=0
   . simp only[news,h,if_true];rfl
   . simp only[news,h,if_false];rw[Array.length_toList];exact hzc m
 have hnews:∀ u∈news,u.oneCell'=true:=by
   intro u hu
   by_cases h:m*k=0
   . simp only[news,h,if_true] at hu;cases hu
   . simp only[news,h,if_false,Builtin.zeroCells,Array.toList_map,Array.toList_range,List.mem_map,List.mem_range] at hu
     obtain⟨q,hq1,rfl⟩:=hu
     have hk0:0<k:=by
       rcases Nat.eq_zero_or_pos k with e|e
       . subst e;simp at h
       . exact e
     have hlt:q%zs.toArray.size<zs.toArray.size:=Nat.mod_lt _ (by simp[hzl];exact hk0)
     have e1:zs.toArray[q%zs.toArray.size]! = zs.toArray[q%zs.toArray.size]:=getElem!_pos zs.toArray _ hlt
     rw[e1]
     exact hone _ pF
 have hr:(Builtin.append_ #[T,T2] ty #[.slice none 0 0, .int k1 (m:Int)]).run P w = .ok (.slice (some ⟨w.heap.size,0,none⟩) m nc) {w.drew with heap:=w.drew.heap.push (bx e (news++(Builtin.zeroCells zs.toArray (nc-m)).toList))}:=by
   by_cases h:m*k=0
   . exact sZ
   . exact sZ
 have :(execOp a.eval ⟨some d, .call ⟨.builtin .append,#[x,y],#[T,T2]⟩,ty,pos,af,none⟩).run P w = .ok (.value (.slice (some ⟨w.heap.size,0,none⟩) m nc)) {w.drew with heap:=w.drew.heap.push (bx e (news++(Builtin.zeroCells zs.toArray (nc-m)).toList))}:=by
   rw[ha.eval]
   refine Fc_ (args:=#[.slice none 0 0, .int k1 (m:Int)]) oK λcs=>?_
   simp[builtin,hr]
 rw[this];refine⟨_,H,_,ha.put pK _,(hm.drew (w.drawn+1)).push i _,kk _ _ news ⟨hnl, .inr ⟨_,_,news++(Builtin.zeroCells zs.toArray (nc-m)).toList,[],rfl,rfl,Nat.le_of_eq ?_,hnge,?_,λ_=>rfl⟩⟩ hnews⟩
 . simp only[List.length_append,Array.length_toList,hzc,hnl]
   rw[<- Nat.add_mul];congr 1;omega
 rw[<- hnl];exact List.take_left
end
variable {P:Program} {n:Nat} {N:Rest} {H0:Env} {all rest:List Oper} {Q:Qs} {ks:List Kt} {s:St} {T T' T2 ty d:Nat} {pos:String} {af:Array Edge} {x y z:Operand} {K:St->Prop} {op:Op} {p:PV}
theorem qlen0 {tb:Tb} {ti:TI} {e:Nat} (ht:tbB P tb=true) (hx:evP s.F x = .val (.slice none 0 0)) (hti:lkT tb T=some ti) (htk:ti.k = .slc e):Qy P N H0 s (.call ⟨.builtin .len,#[x],#[T]⟩) ty (.int .i64 0):=λF H L ha=>by
 have h1:=(Da_ ha.f x).sim
 rw[hx] at h1
 exact⟨.int .i64 0,Sim.int pC pC,λ_ _ _=>Sd_ h1.inv_val ((D8_ ht hti).slc htk)⟩
theorem qcap0 {tb:Tb} {ti:TI} {e:Nat} (ht:tbB P tb=true) (hx:evP s.F x = .val (.slice none 0 0)) (hti:lkT tb T=some ti) (htk:ti.k = .slc e):Qy P N H0 s (.call ⟨.builtin .cap,#[x],#[T]⟩) ty (.int .i64 0):=λF H L ha=>by
 have h1:=(Da_ ha.f x).sim
 rw[hx] at h1
 exact⟨.int .i64 0,Sim.int pC pC,λ_ _ _=>lo_cap_sl h1.inv_val ((D8_ ht hti).slc htk)⟩
theorem qcut0 {tb:Tb} {ti te:TI} {e:Nat} {k:IntKind} {i:Int} (ht:tbB P tb=true) (hx:evP s.F x = .val (.slice none 0 0)) (hy:evP s.F y = .int k i) (hti:lkT tb T=some ti) (htk:ti.k = .slc e) (hte:lkT tb e=some te) (hi:i=0):Qy P N H0 s (.slice T x none (some y) none) ty (.val (.slice none 0 0)):=λF H L ha=>by
 have h1:=(Da_ ha.f x).sim
 rw[hx] at h1
 have h2:=(Da_ ha.f y).sim
 rw[hy] at h2
 exact⟨_,Sim.val,λ_ _ _=>T0_ h1.inv_val h2.inv_int.1 ((D8_ ht hti).slc htk) (D8_ ht hte).sz hi⟩
def jrow (k:Nat):Unit->List PV:=λ_=>List.replicate k .junk
theorem sims_junk {H:Hp}:∀ (vs:List Value),Sims H (List.replicate vs.length .junk) vs
 |[]=>Sims.nil
 |v::r=>by
   have :=(sims_junk (H:=H) r).cons (v:=v) Sim.junk
   simpa [List.replicate_succ] using this
theorem rl_junk {H:Hp} {k:Nat}:∀ (m:Nat) (cs:List Value),cs.length=m*k->(∀ u∈cs,u.oneCell'=true)->Rl (RowE (jrow k) k) H (List.replicate m ()) cs
 |0,cs,h,_=>by simp at h;exact h
 |m+1,cs,h,ho=>by
   rw[Nat.add_mul,Nat.one_mul] at h
   refine⟨cs.take k,cs.drop k,(List.take_append_drop k cs).symm,⟨by simp[jrow],?_,λu hu=>ho u (List.mem_of_mem_take hu)⟩,rl_junk m _ pO λu hu=>ho u (List.mem_of_mem_drop hu)⟩
   have :=sims_junk (H:=H) (cs.take k)
   simpa [jrow,show min k cs.length=k by omega] using this
theorem appz {tb:Tb} (i:Nat) {e m:Nat} {te ti t2:TI} {k1 k2:IntKind} {q:Int} (ht:tbB P tb=true) (hx:evP s.F x = .val (.slice none 0 0)) (hy:evP s.F y = .int k1 q) (hti:lkT tb T=some ti) (htk:ti.k = .slc e) (ht2:lkT tb T2=some t2) (ht2k:t2.k = .int k2) (hte:lkT tb e=some te) (hz:te.zero.length=te.size) (hone:all1 te.zero=true) (hby:Nat.blt 0 te.bytes=true) (hq:q=(m:Int)) (hm0:0<m) (hbd:m*te.bytes<=140737488355328) (hd:Nat.blt d n=true) (hno:s.L i = .no)
   (kk:∀ u',K ⟨updp (Ip_ i s.F) d (.osl i),lups (G3_ i s.L) i (.arr u' te.size e (jrow te.size) (List.replicate m ()))⟩):E1 P n N H0 all ⟨some d, .call ⟨.builtin .append,#[x,y],#[T,T2]⟩,ty,pos,af,none⟩ (some i) s K:=by
 intro F H L ha;have h1:=(Da_ ha.f x).sim;rw[hx] at h1;have h2:=(Da_ ha.f y).sim;rw[hy] at h2;obtain⟨zv,hzv,hs⟩:=(D8_ ht hte).zero;have hok:=D8_ ht hte;have hby':0<te.bytes:=by simpa using hby
 have hall:=S2_ (hs H) hone;have hlen:m<=140737488355328:=Nat.le_trans (Nat.le_mul_of_pos_right _ hby') hbd;refine op1_appz2 i h1.inv_val h2.inv_int.1 ((D8_ ht hti).slc htk) ((D8_ ht ht2).int ht2k) hok.sz hok.by_ hby' (zs:=zv.cells.toList) (λw=>⟨zv,hzv w,by simp⟩) (by rw[(hs H).1,hz]) (λu hu=>List.all_eq_true.1 hall u hu) hq hm0 hbd hd λv' en' cs hv' hcs=>?_;exact⟨.refl H,only,_,(ha.turn i (B:= .arr v' te.size e (jrow te.size) (List.replicate m ())) ⟨cs,by simpa using hv',rl_junk m cs hv'.1 hcs,by simpa using hlen⟩).put d oG,kk v'⟩
theorem ocut {α β:Type} {tb:Tb} {i e k:Nat} {u:Value} {enc:α->List PV} {xs:List α} {te ti:TI} {k1:IntKind} {q:Int} (enc':β->List PV) (ht:tbB P tb=true) (hx:evP s.F x = .osl i) (hb:s.L i = .arr u k e enc xs) (hy:evP s.F y = .int k1 q) (hti:lkT tb T=some ti) (htk:ti.k = .slc e) (hte:lkT tb e=some te) (hq:q=0) (hd:Nat.blt d n=true)
   (kk:∀ u',K ⟨updp (Ip_ i s.F) d (.osl i),lups (G3_ i s.L) i (.arr u' k e enc' [])⟩):E1 P n N H0 all ⟨some d, .slice T x none (some y) none,ty,pos,af,none⟩ (some i) s K:=by
 intro F H L ha;have h1:=Da_ ha.f x;unfold Ok1 at h1;rw[hx] at h1;simp only[SimT,hb] at h1;have h2:=(Da_ ha.f y).sim;rw[hy] at h2;have h3:=ha.l i;rw[hb] at h3;obtain⟨cs,ho,hr,hm⟩:=h3;obtain⟨a,c,hv,ho'⟩:=ownV_cut ho;refine Pd_ hd (T0_ (h1.trans hv) h2.inv_int.1 ((D8_ ht hti).slc htk) (D8_ ht hte).sz hq) ?_;have hL:lupd L i (L i)=L:=by funext j;by_cases e:j=i;(subst e;exact Cn_ _ _ _);exact Cj_ _ _ _ _ e
 have :=ha.turn i (B:= .arr (.slice a 0 c) k e enc' []) (x:=L i) ⟨[],by simpa using ho',rfl,by simp⟩;rw[hL] at this;exact zX
end Go.SW
namespace Go.SW
variable {P:Program} {n:Nat} {N:Rest} {H0:Env} {all rest:List Oper} {Q:Qs} {ks:List Kt} {s:St} {T T' T2 ty d:Nat} {pos:String} {af:Array Edge} {x y z:Operand} {K:St->Prop} {op:Op} {p:PV}
structure Fl {α:Type} (P:Program) (G:Gb) (f:FuncId) (args:List PV) (res:Value->PV) (k e:Nat) (enc:α->List PV) (xs ys:List α):Prop where
 cb:Bo_ P f
 no:∀ u,(res u).noOsl=true
 run:∀ (N:Rest) (H:Hp) (L:Ls) (w:World) (i:Nat) (u:Value) (vs:List Value),G.p H->SimB (λ_=> .no) H (.arr u k e enc xs) (L i)->Sims H args vs->Mem N H L w ->
   Calls P f (u::vs).toArray w λe' w'=>∃ v H' en u',e' = .returned v/\Sim H' (res u') v/\SimB (λ_=> .no) H' (.arr u' k e enc ys) en/\HLe H H'/\Mem N H' (lupd L i en) w'
def Pl (P:Program) (f:FuncId) (args:Array Value) (H:Hp) (en:Option (Nat×Obj)) (R:Value->Hp->Option (Nat×Obj)->Prop):Prop:=
 ∀ N L w i,L i=en->Mem N H L w->Calls P f args w λe w'=>∃ v H' en',e = .returned v/\R v H' en'/\HLe H H'/\Mem N H' (lupd L i en') w'
def ofE:Option (Nat×Obj)->Ls
 |none=>l0
 |some x=>ofL [x]
theorem pl_of_cw {f:FuncId} {fn:Func} {c:Code} {args:Array Value} {H:Hp} {en:Option (Nat×Obj)} {R:Value->Hp->Option (Nat×Obj)->Prop} (hf:P.funcs[f]? = some fn) (hb:fn.body=some c) (hs:args.size<=fn.ntmps)
   (h:∀ N,Cw P fn.ntmps N c (fnK P N fn H (λv' H' L'=>∃ k,R v' H' (L' k))) (K9_ args) H (ofE en)):Pl P f args H en R:=λN L w i hi hm=>by
 have hm0:Mem (N.plus (lupd L i none)) H (ofE en) w:=by
   cases en with
   |none=>exact (hm.clear i).aside
   |some x=>obtain⟨b,o⟩:=x;exact hm.asideBut hi
 refine H9_ hf hb hs (h (N.plus (lupd L i none))) hm0 λv' H' L' w' ⟨k,hr⟩ hl hm'=>?_
 cases e:L' k with
 |none=>rw[e] at hr;exact⟨v',H',none,rfl,hr,hl,(hm.clear i).back hm'⟩
 |some p=>
   obtain⟨b,o⟩:=p
   rw[e] at hr
   exact⟨v',H',some (b,o),rfl,hr,hl,hm.backWith hm' e⟩
theorem fl_cw {α:Type} {tb:Tb} {G:Gb} {m:Nat} {f:FuncId} {fn:Func} {c:Code} {args:List PV} {res:Value->PV} {k e:Nat} {enc:α->List PV} {xs ys:List α} (ht:tbB P tb=true) (hf:P.funcs[f]? = some fn) (hb:fn.body=some c) (hn:fn.ntmps=m) (hs:Nat.ble (args.length+1) m=true) (hcb:Bo_ P f) (hno:∀ u,(res u).noOsl=true) (hna:C4_ args=true)
   (h:PV.wfs args->xs.length<=140737488355328->∀ u N H,G.p H->Hd P m N ⟨H,G⟩ (foK tb fn.results.toList res k e enc ys) (.code c) [] ⟨P9_ (.osl 0::args),lups (λ_=> .no) 0 (.arr u k e enc xs)⟩):Fl P G f args res k e enc xs ys:=by
 refine⟨hcb,hno,λN H L w i u vs hg hB hsim hm=>?_⟩;subst hn;have key:Pl P f (u::vs).toArray H (L i) (λv H' en=>∃ u',Sim H' (res u') v/\SimB (λ_=> .no) H' (.arr u' k e enc ys) en):=by
   refine pl_of_cw hf hb mB λN=>?_
   have hlen:xs.length<=140737488355328:=by obtain⟨_,_,_,q⟩:=hB;exact q
   have h1:=h hsim.wf hlen u N H hg (K9_ (u::vs).toArray) H (ofE (L i)) ⟨.refl H,hg,λt=>?_,λj=>?_⟩
   . refine K7_ (λe' F' H' L' hq=>?_) h1
     obtain⟨s',ha',u',j,hq',hq1⟩:=hq
     obtain⟨he,v,hr,hv⟩:=Qz_ (N:=N) ht ha' hq'
     have h3:=ha'.l j
     rw[hq1] at h3
     rcases he with rfl|rfl
     . exact⟨v,hr,ha'.le,j,u',hv,h3⟩
     . exact⟨v,hr,ha'.le,j,u',hv,h3⟩
   . cases t with
     |zero=>simp[P9_,nth,SimT,Ef_,K9_]
     |succ t=>
       have :=Od_ (sL:=lups (λ_=> .no) 0 (.arr u k e enc xs)) hsim hna t
       simpa [P9_,nth,K9_] using this
   . by_cases e1:j=0
     . exact rG
     . simp only[Jw_ _ _ _ _ e1];trivial
 exact (key N L w i Y hm).mono λ_ _ ⟨v,H',en,h1,⟨u',h5,h6⟩,h3,h4⟩=>⟨v,H',en,u',h1,h5,h6,h3,h4⟩
theorem ecallw {α:Type} {f:FuncId} {args:List PV} {res:Value->PV} {i k e k2 e2:Nat} {enc:α->List PV} {xs ys:List α} {u:Value} {as0:Array Operand} {ats:Array TypeId} (h:Fl P H0.g f args res k e enc xs ys) (hx:evP s.F x = .fn f [] []) (ha:evPs s.F as0.toList = .osl i::args) (hb:s.L i = .arr u k2 e2 enc xs) (hk:k2=k) (he2:e2=e) (hd:Nat.blt d n=true)
   (kk:∀ u',(res u').wf->K ⟨updp (Ip_ i s.F) d (res u'),lups (G3_ i s.L) i (.arr u' k e enc ys)⟩):E1 P n N H0 all ⟨some d, .call ⟨.value x,as0,ats⟩,ty,pos,af,none⟩ (some i) s K:=by
 intro F H L hab;subst hk;subst he2;have h1:=(Da_ hab.f x).sim;rw[hx] at h1;obtain⟨v1,v2,ex,h2,h3⟩:=h1.inv_fn
 cases h2.inv_nil
 cases h3.inv_nil
 have hsT:=Y7_ (Ls:=s.L) (H:=H) (F:=F) (G:=s.F) (xs:=as0.toList) λy _=>Da_ hab.f y;rw[ha] at hsT;have hB:=hab.l i;rw[hb] at hB
 cases hev:evs F as0.toList with
 |nil=>have :=hsT.1;rw[hev] at this;simp at this
 |cons v0 vs=>
   rw[hev] at hsT
   have h4:=hsT.2 0 _ _ Y Y
   simp only[SimT,hb] at h4
   subst h4
   have h5:Sims H args vs:=by
     obtain⟨q,r,e3,_,q2⟩:=hsT.sims.inv_cons
     cases e3;exact q2
   have hen:En P (.call ⟨.value x,as0,ats⟩) F f (v0::vs).toArray:=by
     exact xT
   intro a w hA hm
   rw[if_pos pI]
   unfold Oper.wp
   rw[hA.eval,hen]
   refine (h.run N H L w i v0 vs hab.g hB h5 hm).mono λe' w' ⟨v,H',en,u',he,hv,hB',hl,hm'⟩=>?_
   subst he
   exact⟨_,H',_,hA.put pK v,hm',hl,only,_,Abs.put (p:=res u') ((hab.mono hl).turn i (B:= .arr u' k2 e2 enc ys) (x:=en) hB') d (hv.simT (h.no u')),kk u' hv.wf⟩
end Go.SW
namespace Go.SW.V
open Go.SW
variable {P:Program} {n:Nat} {N:Rest} {H0:Env} {all rest:List Oper} {Q:Qs} {ks:List Kt} {fF:Nat->PV} {fL:Nat->Blk} {T T' T2 ty d:Nat} {pos:String} {af:Array Edge} {x y z:Operand} {K:St->Prop} {op:Op} {p:PV}
theorem rt {tb:Tb} {rs:List ResultVar} {res:PV} {ps:List PV} {as0 bs:List Nat} (h:Is_ tb ⟨fF,fL⟩ rs=some (ps,as0,bs)) (he:as0=bs) (hp:PLe (tupP ps) res):Hd P n N H0 (rtK tb rs res) (.ex .ret) [] ⟨fF,fL⟩:=SW.rt (s:=⟨fF,fL⟩) h he hp
theorem call {all rest:List Oper} {Q:Qs} {ks:List Kt} {f:FuncId} {args:List PV} {res:PV} {x:Operand} {xs:Array Operand} {ats:Array TypeId} {ty d:Nat} {pos:String} {af:Array Edge} (h:Fn P H0.g f args res) (ha:argsP fF x xs.toList=some (f,args)) (hd:Nat.blt d n=true) (k:res.wf->Hd P n N H0 Q (.ops all rest) ks ⟨updp fF d res,fL⟩):Hd P n N H0 Q (.ops all (⟨some d, .call ⟨.value x,xs,ats⟩,ty,pos,af,none⟩::rest)) ks ⟨fF,fL⟩:=SW.call (s:=⟨fF,fL⟩) h ha hd k
theorem callg {all rest:List Oper} {Q:Qs} {ks:List Kt} {f:FuncId} {args:List PV} {res:PV} {x:Operand} {xs:Array Operand} {ats:Array TypeId} {ty d j:Nat} {want g:Bool} {pos:String} {af:Array Edge} (hg:gOp ⟨fF,fL⟩ all j want=some g) (h:g=true->Fn P H0.g f args res) (ha:argsP (strG (J9_ xs.toList) fF) x xs.toList=some (f,args)) (hc:AllP (Ow_ fF g (J9_ xs.toList) [])) (hno:Kv_ fF (J9_ xs.toList)=true) (hd:Nat.blt d n=true) (k:(g=true->res.wf)->Hd P n N H0 Q (.ops all rest) ks ⟨updp fF d (.gv g res),fL⟩):Hd P n N H0 Q (.ops all (⟨some d, .call ⟨.value x,xs,ats⟩,ty,pos,af,some (j,want)⟩::rest)) ks ⟨fF,fL⟩:=SW.callg (s:=⟨fF,fL⟩) hg h ha hc hno hd k
theorem cnd {Q:Qs} {ks:List Kt} {c:Operand} {x y:Code} {b:Bool} (hc:evP fF c = .bool b) (ht:b=true->Hd P n N H0 Q (.code x) ks ⟨fF,fL⟩) (hf:b=false->Hd P n N H0 Q (.code y) ks ⟨fF,fL⟩):Hd P n N H0 Q (.code (.cond c x y)) ks ⟨fF,fL⟩:=SW.cnd (s:=⟨fF,fL⟩) hc ht hf
theorem cn {Q:Qs} {ks:List Kt} {c:Operand} {x y:Code} {p:Prop} [Decidable p] (hc:evP fF c=.bool (decide p)) (ht:p->Hd P n N H0 Q (.code x) ks ⟨fF,fL⟩) (hf:¬p->Hd P n N H0 Q (.code y) ks ⟨fF,fL⟩):Hd P n N H0 Q (.code (.cond c x y)) ks ⟨fF,fL⟩:=cnd hc (λh=>ht (of_decide_eq_true h)) λh=>hf (of_decide_eq_false h)
theorem loop {ι:Type _} {c:Code} {ks:List Kt} {Q:Qs} (keep kL:List Nat) (lv:ι->List (Nat×PV)) (lL:ι->List (Nat×Blk)) (Φ:ι->Prop) (μ:ι->Nat) (x0:ι) (h1:AllF fF (lv x0)) (h2:AllL fL (lL x0)) (hΦ:Φ x0) (body:∀ x,Φ x->Hd P n N H0 Q (.code c) (.lp (LJ (λx=>⟨mkF (lv x) keep fF,mkL (lL x) kL fL⟩) Φ μ (μ x))::ks) ⟨mkF (lv x) keep fF,mkL (lL x) kL fL⟩):Hd P n N H0 Q (.code (.loop c)) ks ⟨fF,fL⟩:=SW.loop (s:=⟨fF,fL⟩) keep kL lv lL Φ μ x0 h1 h2 hΦ body
theorem ef {o:Oper} {j:Option Nat} (h:E1 P n N H0 all o j ⟨fF,fL⟩ (λs'=>Hd P n N H0 Q (.ops all rest) ks s')):Hd P n N H0 Q (.ops all (o::rest)) ks ⟨fF,fL⟩:=SW.ef (s:=⟨fF,fL⟩) h
theorem boxA (i:Nat) {cs:List PV} (hx:evP fF x = .agg cs) (hn:C4_ cs=true) (hd:Nat.blt d n=true) (k:∀ b,K ⟨updp fF d (.own i b 0),lups fL i (.box b T cs)⟩):E1 P n N H0 all ⟨some d, .box T x,ty,pos,af,none⟩ (some i) ⟨fF,fL⟩ K:=SW.boxA (s:=⟨fF,fL⟩) i hx hn hd k
theorem box1 (i:Nat) {p:PV} (hx:evS (evP fF x)=some p) (ho:p.one=true) (hd:Nat.blt d n=true) (k:∀ b,K ⟨updp fF d (.own i b 0),lups fL i (.box b T [p])⟩):E1 P n N H0 all ⟨some d, .box T x,ty,pos,af,none⟩ (some i) ⟨fF,fL⟩ K:=SW.box1 (s:=⟨fF,fL⟩) i hx ho hd k
theorem alloc {tb:Tb} {ti:TI} {zs:List PV} (ht:tbB P tb=true) (i:Nat) (hti:lkT tb T=some ti) (hz:evL ti.zero=some zs) (hn:C4_ zs=true) (hd:Nat.blt d n=true) (k:∀ b,K ⟨updp fF d (.own i b 0),lups fL i (.box b T zs)⟩):E1 P n N H0 all ⟨some d, .alloc T,ty,pos,af,none⟩ (some i) ⟨fF,fL⟩ K:=SW.alloc (s:=⟨fF,fL⟩) ht i hti hz hn hd k
theorem store1 {tb:Tb} {ti:TI} {i b b' off T0:Nat} {cs cs':List PV} {p:PV} (ht:tbB P tb=true) (hx:evP fF x = .own i b off) (hb:fL i = .box b' T0 cs) (hti:lkT tb T=some ti) (hsz:ti.size=1) (hy:evS (evP fF y)=some p) (ho:p.one=true) (hl:Nat.blt off cs.length=true) (hbb:b'=b) (hc:evL (cs.set off p)=some cs') (k:K ⟨fF,lups fL i (.box b T0 cs')⟩):E1 P n N H0 all ⟨none, .store T x y,ty,pos,af,none⟩ (some i) ⟨fF,fL⟩ K:=SW.store1 (s:=⟨fF,fL⟩) ht hx hb hti hsz hy ho hl hbb hc k
theorem storeA {tb:Tb} {ti:TI} {i b b' off T0:Nat} {cs ps cs':List PV} (ht:tbB P tb=true) (hx:evP fF x = .own i b off) (hb:fL i = .box b' T0 cs) (hti:lkT tb T=some ti) (hy:evP fF y = .agg ps) (hn:C4_ ps=true) (ho:all1 ps=true) (hsz:ps.length=ti.size) (hl:Nat.ble (off+ti.size) cs.length=true) (hbb:b'=b) (hc:evL (cs.take off++(ps++cs.drop (off+ti.size)))=some cs') (k:K ⟨fF,lups fL i (.box b T0 cs')⟩):E1 P n N H0 all ⟨none, .store T x y,ty,pos,af,none⟩ (some i) ⟨fF,fL⟩ K:=SW.storeA (s:=⟨fF,fL⟩) ht hx hb hti hy hn ho hsz hl hbb hc k
theorem src_l {α:Type} {enc:α->List PV} {k:Nat} {ys:List α} (hy:evP fF y = .sl enc ys) (hk:∀ a,(enc a).length=k):SrcP P N H0 ⟨fF,fL⟩ enc k y ys:=SW.src_l (s:=⟨fF,fL⟩) hy hk
theorem src_o {α:Type} {enc:α->List PV} {i e k:Nat} {u:Value} {ys:List α} (hy:evP fF y = .osl i) (hb:fL i = .arr u k e enc ys):SrcP P N H0 ⟨fF,fL⟩ enc k y ys:=SW.src_o (s:=⟨fF,fL⟩) hy hb
theorem app {α:Type} {tb:Tb} {i e k:Nat} {u:Value} {enc:α->List PV} {xs:List α} {te:TI} (ht:tbB P tb=true) (ys:List α) (hx:evP fF x = .osl i) (hb:fL i = .arr u k e enc xs) {ti:TI} (hti:lkT tb T=some ti) (htk:ti.k = .slc e) (hT2:X7_ tb T2=true) (hte:lkT tb e=some te) (hz:te.zero.length=te.size) (hby:Nat.blt 0 te.bytes=true) (hk:te.size=k) (hy:SrcP P N H0 ⟨fF,fL⟩ enc k y ys) (hs:(xs.length+ys.length)*te.bytes<=140737488355328) (hd:Nat.blt d n=true) (kk:∀ u',K ⟨updp (Ip_ i fF) d (.osl i),lups (G3_ i fL) i (.arr u' k e enc (xs++ys))⟩):E1 P n N H0 all ⟨some d, .call ⟨.builtin .append,#[x,y],#[T,T2]⟩,ty,pos,af,none⟩ (some i) ⟨fF,fL⟩ K:=SW.app (s:=⟨fF,fL⟩) ht ys hx hb hti htk hT2 hte hz hby hk hy hs hd kk
theorem app0 {α:Type} {tb:Tb} (i:Nat) {e:Nat} {enc:α->List PV} {te:TI} (ht:tbB P tb=true) (ys:List α) (hx:evP fF x = .val (.slice none 0 0)) {ti:TI} (hti:lkT tb T=some ti) (htk:ti.k = .slc e) (hT2:X7_ tb T2=true) (hte:lkT tb e=some te) (hz:te.zero.length=te.size) (hby:Nat.blt 0 te.bytes=true) (hy:SrcP P N H0 ⟨fF,fL⟩ enc te.size y ys) (hs:ys.length*te.bytes<=140737488355328) (hd:Nat.blt d n=true) (hno:fL i = .no) (kk:∀ u',K ⟨updp (Ip_ i fF) d (.osl i),lups (G3_ i fL) i (.arr u' te.size e enc ys)⟩):E1 P n N H0 all ⟨some d, .call ⟨.builtin .append,#[x,y],#[T,T2]⟩,ty,pos,af,none⟩ (some i) ⟨fF,fL⟩ K:=SW.app0 (s:=⟨fF,fL⟩) i ht ys hx hti htk hT2 hte hz hby hy hs hd hno kk
theorem bsl {α:Type} {tb:Tb} (i:Nat) {e len:Nat} {ps:Array (Nat×Operand)} (enc:α->List PV) (xs:List α) {rows:List (List PV)} {ti te:TI} (ht:tbB P tb=true) (hti:lkT tb T=some ti) (htk:ti.k = .slc e) (hte:lkT tb e=some te) (hr:bslP fF ps.toList 0=some rows) (hx:rows=xs.map enc) (hk:∀ a,(enc a).length=te.size) (hl:xs.length=len) (hs:len*te.size<=16777216) (hs2:len<=140737488355328) (hd:Nat.blt d n=true) (kk:∀ u',K ⟨updp (Ip_ i fF) d (.osl i),lups (G3_ i fL) i (.arr u' te.size e enc xs)⟩):E1 P n N H0 all ⟨some d, .buildSlice T len ps,ty,pos,af,none⟩ (some i) ⟨fF,fL⟩ K:=SW.bsl (s:=⟨fF,fL⟩) i enc xs ht hti htk hte hr hx hk hl hs hs2 hd kk
theorem give {α:Type} {e k:Nat} {u:Value} {enc:α->List PV} {xs:List α} (i:Nat) (hb:fL i = .arr u k e enc xs) (kk:Hd P n N H0 Q (.ops all rest) ks ⟨giveF i enc xs fF,Zf_ i enc xs fL⟩):Hd P n N H0 Q (.ops all rest) ks ⟨fF,fL⟩:=SW.give (s:=⟨fF,fL⟩) i hb kk
theorem givec {α:Type} {e k:Nat} {u:Value} {enc:α->List PV} {xs:List α} {c:Code} (i:Nat) (hb:fL i = .arr u k e enc xs) (kk:Hd P n N H0 Q (.code c) ks ⟨giveF i enc xs fF,Zf_ i enc xs fL⟩):Hd P n N H0 Q (.code c) ks ⟨fF,fL⟩:=SW.givec (s:=⟨fF,fL⟩) i hb kk
theorem calll {α:Type} {e k:Nat} {u:Value} {enc:α->List PV} {ls:List α} {f:FuncId} {args:List PV} {res:PV} {xs:Array Operand} {ats:Array TypeId} (i:Nat) (hb:fL i = .arr u k e enc ls) (h:Fn P H0.g f args res) (hf:res.flat=true) (ha:argsP (giveF i enc ls fF) x xs.toList=some (f,args)) (hd:Nat.blt d n=true) (kk:res.wf->K ⟨updp fF d res,fL⟩):E1 P n N H0 all ⟨some d, .call ⟨.value x,xs,ats⟩,ty,pos,af,none⟩ none ⟨fF,fL⟩ K:=SW.calll (s:=⟨fF,fL⟩) i hb h hf ha hd kk
theorem any (xs:List Nat) (m:Nat) {id:Nat} {ops:Array Oper} (hmx:P.follows .mixedOrders=true) (hm:ops.toList.length=m) (h:Hv P n N H0 Q (some xs) ops.toList m (Array.replicate m false) ks ⟨fF,fL⟩):Hd P n N H0 Q (.code (.region id ops true)) ks ⟨fF,fL⟩:=SW.any (s:=⟨fF,fL⟩) xs m hmx hm h
theorem vdone {xs:Option (List Nat)} {fuel:Nat} {listed:Array Bool} (h:Region.ready .any all.toArray listed=[]) (k:Hd P n N H0 Q (.ex .normal) ks ⟨fF,fL⟩):Hv P n N H0 Q xs all fuel listed ks ⟨fF,fL⟩:=SW.vdone (s:=⟨fF,fL⟩) h k
theorem vcall {xs:Option (List Nat)} {fuel:Nat} {listed:Array Bool} {f:FuncId} {args:List PV} {res:PV} {as0:Array Operand} {ats:Array TypeId} (i:Nat) (hi:nth all i=some ⟨some d, .call ⟨.value x,as0,ats⟩,ty,pos,af,none⟩) (hck:(rdB all listed i&&apB n all listed i ⟨some d, .call ⟨.value x,as0,ats⟩,ty,pos,af,none⟩&&Nat.blt d n&&nosB (.call ⟨.value x,as0,ats⟩))=true) (h:Fn P H0.g f args res) (hf:res.flat=true) (ha:argsP fF x as0.toList=some (f,args)) (k:res.wf->Hv P n N H0 Q xs all fuel (listed.setIfInBounds i true) ks ⟨updp fF d res,fL⟩):Hv P n N H0 Q xs all (fuel+1) listed ks ⟨fF,fL⟩:=SW.vcall (s:=⟨fF,fL⟩) i hi hck h hf ha k
theorem vcallg {xs:Option (List Nat)} {fuel:Nat} {listed:Array Bool} {f:FuncId} {args:List PV} {res:PV} {as0:Array Operand} {ats:Array TypeId} {j:Nat} {want g:Bool} (i:Nat) (hi:nth all i=some ⟨some d, .call ⟨.value x,as0,ats⟩,ty,pos,af,some (j,want)⟩) (hck:(rdB all listed i&&apB n all listed i ⟨some d, .call ⟨.value x,as0,ats⟩,ty,pos,af,some (j,want)⟩&&Nat.blt d n&&nosB (.call ⟨.value x,as0,ats⟩))=true) (hg:gOp ⟨fF,fL⟩ all j want=some g) (h:g=true->Fn P H0.g f args res) (hf:res.flat=true) (ha:argsP (strG (J9_ as0.toList) fF) x as0.toList=some (f,args)) (hc:AllP (Ow_ fF g (J9_ as0.toList) [])) (hno:Kv_ fF (J9_ as0.toList)=true) (k:(g=true->res.wf)->Hv P n N H0 Q xs all fuel (listed.setIfInBounds i true) ks ⟨updp fF d (.gv g res),fL⟩):Hv P n N H0 Q xs all (fuel+1) listed ks ⟨fF,fL⟩:=SW.vcallg (s:=⟨fF,fL⟩) i hi hck hg h hf ha hc hno k
theorem ve {xs:List Nat} {fuel:Nat} {listed:Array Bool} {o:Oper} {j:Option Nat} (i:Nat) (hi:nth all i=some o) (hr:Region.ready .any all.toArray listed=[i]) (hj:(match j with|none=>true|some j=>memB xs j)=true) (h:E1 P n N H0 all o j ⟨fF,fL⟩ (λs'=>Hv P n N H0 Q (some xs) all fuel (listed.setIfInBounds i true) ks s')):Hv P n N H0 Q (some xs) all (fuel+1) listed ks ⟨fF,fL⟩:=SW.ve (s:=⟨fF,fL⟩) i hi hr hj h
theorem vt {xs:Option (List Nat)} {fuel:Nat} {listed:Array Bool} {o:Oper} {j:Option Nat} (i:Nat) (hi:nth all i=some o) (hr:Region.ready .any all.toArray listed=[i]) (ht:tailB all listed i=true) (h:E1 P n N H0 all o j ⟨fF,fL⟩ (λs'=>Hv P n N H0 Q none all fuel (listed.setIfInBounds i true) ks s')):Hv P n N H0 Q xs all (fuel+1) listed ks ⟨fF,fL⟩:=SW.vt (s:=⟨fF,fL⟩) i hi hr ht h
theorem vtp {xs:Option (List Nat)} {fuel:Nat} {listed:Array Bool} {o:Oper} {j:Option Nat} (i:Nat) (hi:nth all i=some o) (hr:Region.ready .any all.toArray listed=[i]) (ht:tailP all listed i=true) (h:E1 P n N H0 all o j ⟨fF,fL⟩ (λs'=>Hv P n N H0 Q none all fuel (listed.setIfInBounds i true) ks s')):Hv P n N H0 Q xs all (fuel+1) listed ks ⟨fF,fL⟩:=SW.vtp (s:=⟨fF,fL⟩) i hi hr ht h
theorem ecall {f:FuncId} {args:List PV} {res:PV} {as0:Array Operand} {ats:Array TypeId} (h:Fn P H0.g f args res) (ha:argsP fF x as0.toList=some (f,args)) (hd:Nat.blt d n=true) (k:res.wf->K ⟨updp fF d res,fL⟩):E1 P n N H0 all ⟨some d, .call ⟨.value x,as0,ats⟩,ty,pos,af,none⟩ none ⟨fF,fL⟩ K:=SW.ecall (s:=⟨fF,fL⟩) h ha hd k
theorem q1 (h:Qy P N H0 ⟨fF,fL⟩ op ty p) (hd:Nat.blt d n=true) (k:p.wf->Hd P n N H0 Q (.ops all rest) ks ⟨updp fF d p,fL⟩):Hd P n N H0 Q (.ops all (⟨some d,op,ty,pos,af,none⟩::rest)) ks ⟨fF,fL⟩:=SW.q1 (s:=⟨fF,fL⟩) h hd k
theorem eqy (h:Qy P N H0 ⟨fF,fL⟩ op ty p) (hd:Nat.blt d n=true) (k:p.wf->K ⟨updp fF d p,fL⟩):E1 P n N H0 all ⟨some d,op,ty,pos,af,none⟩ none ⟨fF,fL⟩ K:=SW.eqy (s:=⟨fF,fL⟩) h hd k
theorem vq {xs:Option (List Nat)} {fuel:Nat} {listed:Array Bool} (i:Nat) (h:Qy P N H0 ⟨fF,fL⟩ op ty p) (hi:nth all i=some ⟨some d,op,ty,pos,af,none⟩) (hck:(rdB all listed i&&apB n all listed i ⟨some d,op,ty,pos,af,none⟩&&Nat.blt d n&&nosB op)=true) (hl:N1_ op=false) (k:p.wf->Hv P n N H0 Q xs all fuel (listed.setIfInBounds i true) ks ⟨updp fF d p,fL⟩):Hv P n N H0 Q xs all (fuel+1) listed ks ⟨fF,fL⟩:=SW.vq (s:=⟨fF,fL⟩) i h hi hck hl k
theorem q1g {j:Nat} {want g:Bool} (ts:List Nat) (hg:gOp ⟨fF,fL⟩ all j want=some g) (h:g=true->Qy P N H0 (strS ts ⟨fF,fL⟩) op ty p) (hc:AllP (Ow_ fF g ts [])) (hno:Kv_ fF ts=true) (hpo:p.noOsl=true) (hd:Nat.blt d n=true) (k:(g=true->p.wf)->Hd P n N H0 Q (.ops all rest) ks ⟨updp fF d (.gv g p),fL⟩):Hd P n N H0 Q (.ops all (⟨some d,op,ty,pos,af,some (j,want)⟩::rest)) ks ⟨fF,fL⟩:=SW.q1g (s:=⟨fF,fL⟩) ts hg h hc hno hpo hd k
theorem vqg {xs:Option (List Nat)} {fuel:Nat} {listed:Array Bool} {j:Nat} {want g:Bool} (i:Nat) (ts:List Nat) (hi:nth all i=some ⟨some d,op,ty,pos,af,some (j,want)⟩) (hck:(rdB all listed i&&apB n all listed i ⟨some d,op,ty,pos,af,some (j,want)⟩&&Nat.blt d n&&nosB op)=true) (hl:N1_ op=false) (hg:gOp ⟨fF,fL⟩ all j want=some g) (h:g=true->Qy P N H0 (strS ts ⟨fF,fL⟩) op ty p) (hc:AllP (Ow_ fF g ts [])) (hno:Kv_ fF ts=true) (k:(g=true->p.wf)->Hv P n N H0 Q xs all fuel (listed.setIfInBounds i true) ks ⟨updp fF d (.gv g p),fL⟩):Hv P n N H0 Q xs all (fuel+1) listed ks ⟨fF,fL⟩:=SW.vqg (s:=⟨fF,fL⟩) i ts hi hck hl hg h hc hno k
theorem sidx {tb:Tb} {ti:TI} {a:Bs} {k:IntKind} {i:Int} (ht:tbB P tb=true) (m:Nat) (hx:evP fF x = .str a) (hy:evP fF y = .int k i) (hti:lkT tb T=some ti) (htk:ti.k = .str) (hi:i=m) (hm:m<a.length):Qy P N H0 ⟨fF,fL⟩ (.index T x y) ty (.int .u8 (a.getD m 0).toNat):=SW.sidx (s:=⟨fF,fL⟩) ht m hx hy hti htk hi hm
theorem sslo {tb:Tb} {ti:TI} {a:Bs} {k:IntKind} {i:Int} (ht:tbB P tb=true) (m:Nat) (hx:evP fF x = .str a) (hy:evP fF y = .int k i) (hti:lkT tb T=some ti) (htk:ti.k = .str) (hi:i=m) (hm:m<=a.length):Qy P N H0 ⟨fF,fL⟩ (.slice T x (some y) none none) ty (.str (a.drop m)):=SW.sslo (s:=⟨fF,fL⟩) ht m hx hy hti htk hi hm
theorem sshi {tb:Tb} {ti:TI} {a:Bs} {k:IntKind} {i:Int} (ht:tbB P tb=true) (m:Nat) (hx:evP fF x = .str a) (hy:evP fF y = .int k i) (hti:lkT tb T=some ti) (htk:ti.k = .str) (hi:i=m) (hm:m<=a.length):Qy P N H0 ⟨fF,fL⟩ (.slice T x none (some y) none) ty (.str (a.take m)):=SW.sshi (s:=⟨fF,fL⟩) ht m hx hy hti htk hi hm
theorem ssl {tb:Tb} {ti:TI} {a:Bs} {k k':IntKind} {i j:Int} (ht:tbB P tb=true) (m q:Nat) (hx:evP fF x = .str a) (hy:evP fF y = .int k i) (hz:evP fF z = .int k' j) (hti:lkT tb T=some ti) (htk:ti.k = .str) (hi:i=m) (hj:j=q) (hm:m<=q) (hq:q<=a.length):Qy P N H0 ⟨fF,fL⟩ (.slice T x (some y) (some z) none) ty (.str ((a.drop m).take (q-m))):=SW.ssl (s:=⟨fF,fL⟩) ht m q hx hy hz hti htk hi hj hm hq
theorem qidx {α:Type} {tb:Tb} {ti te:TI} {e:TypeId} {enc:α->List PV} {xs:List α} {kk:IntKind} {i:Int} (ht:tbB P tb=true) (m:Nat) {a:α} (hx:evP fF x = .sl enc xs) (hy:evP fF y = .int kk i) (hm:i=m) (ha:xs[m]? = some a) (hti:lkT tb T=some ti) (hk:ti.k = .slc e) (hte:lkT tb e=some te) (hsz:te.size=(enc a).length):Qy P N H0 ⟨fF,fL⟩ (.indexAddr T x y) ty (.el (enc a) 0):=SW.qidx (s:=⟨fF,fL⟩) ht m hx hy hm ha hti hk hte hsz
theorem lslo {α:Type} {tb:Tb} {ti te:TI} {e:TypeId} {enc:α->List PV} {xs:List α} {k:IntKind} {i:Int} (ht:tbB P tb=true) (m:Nat) (hx:evP fF x = .sl enc xs) (hy:evP fF y = .int k i) (hti:lkT tb T=some ti) (htk:ti.k = .slc e) (hte:lkT tb e=some te) (hw:∀ a,(enc a).length=te.size) (hi:i=m) (hm:m<=xs.length):Qy P N H0 ⟨fF,fL⟩ (.slice T x (some y) none none) ty (.sl enc (xs.drop m)):=SW.lslo (s:=⟨fF,fL⟩) ht m hx hy hti htk hte hw hi hm
theorem lshi {α:Type} {tb:Tb} {ti te:TI} {e:TypeId} {enc:α->List PV} {xs:List α} {k:IntKind} {i:Int} (ht:tbB P tb=true) (m:Nat) (hx:evP fF x = .sl enc xs) (hy:evP fF y = .int k i) (hti:lkT tb T=some ti) (htk:ti.k = .slc e) (hte:lkT tb e=some te) (hw:∀ a,(enc a).length=te.size) (hi:i=m) (hm:m<=xs.length):Qy P N H0 ⟨fF,fL⟩ (.slice T x none (some y) none) ty (.sl enc (xs.take m)):=SW.lshi (s:=⟨fF,fL⟩) ht m hx hy hti htk hte hw hi hm
theorem lnil {α:Type} {tb:Tb} {ti:TI} {e:TypeId} {enc:α->List PV} {xs:List α} (ht:tbB P tb=true) (hx:evP fF x = .sl enc xs) (hy:evP fF y = .val (.slice none 0 0)) (hti:lkT tb T=some ti) (htk:ti.k = .slc e) (hd:Nat.blt d n=true) (k:∀ b,(b=true->xs=[])->K ⟨updp fF d (.bool b),fL⟩):E1 P n N H0 all ⟨some d, .binOp .eql T x y T',ty,pos,af,none⟩ none ⟨fF,fL⟩ K:=SW.lnil (s:=⟨fF,fL⟩) ht hx hy hti htk hd k
theorem saeq {ps qs:List PV} {r:Bool} (hx:evP fF x = .agg ps) (hy:evP fF y = .agg qs) (hm:P.eqGuardType P.depth T=false) (h:∀ H vs us,Sims H ps vs->Sims H qs us->EqV P 10000 T (.agg vs.toArray) (.agg us.toArray) r):Qy P N H0 ⟨fF,fL⟩ (.binOp .eql T x y T') ty (.bool r):=SW.saeq (s:=⟨fF,fL⟩) hx hy hm h
theorem sane {ps qs:List PV} {r:Bool} (hx:evP fF x = .agg ps) (hy:evP fF y = .agg qs) (hm:P.eqGuardType P.depth T=false) (h:∀ H vs us,Sims H ps vs->Sims H qs us->EqV P 10000 T (.agg vs.toArray) (.agg us.toArray) r):Qy P N H0 ⟨fF,fL⟩ (.binOp .neq T x y T') ty (.bool (!r)):=SW.sane (s:=⟨fF,fL⟩) hx hy hm h
theorem sb2s {tb:Tb} {ti td te:TI} {i e e':Nat} {u:Value} {enc:UInt8->List PV} {xs:Bs} (ht:tbB P tb=true) (hx:evP fF x = .osl i) (hb:fL i = .arr u 1 e enc xs) (henc:enc=u8c) (hti:lkT tb T=some ti) (htk:ti.k = .slc e') (hte:lkT tb e'=some te) (hek:te.k = .int .u8) (htd:lkT tb T'=some td) (hdk:td.k = .str) (hl:xs≠[]) (hd:Nat.blt d n=true) (k:K ⟨updp fF d (.str xs),fL⟩):E1 P n N H0 all ⟨some d, .convert T T' x,ty,pos,af,none⟩ none ⟨fF,fL⟩ K:=SW.sb2s (s:=⟨fF,fL⟩) ht hx hb henc hti htk hte hek htd hdk hl hd k
theorem ss2b {tb:Tb} {ti td te:TI} {e:Nat} {a:Bs} (ht:tbB P tb=true) (hx:evP fF x = .str a) (hti:lkT tb T=some ti) (htk:ti.k = .str) (htd:lkT tb T'=some td) (hdk:td.k = .slc e) (hte:lkT tb e=some te) (hek:te.k = .int .u8) (hl:a.length<=140737488355328) (hd:Nat.blt d n=true) (k:K ⟨updp fF d (.sl u8c a),fL⟩):E1 P n N H0 all ⟨some d, .convert T T' x,ty,pos,af,none⟩ none ⟨fF,fL⟩ K:=SW.ss2b (s:=⟨fF,fL⟩) ht hx hti htk htd hdk hte hek hl hd k
theorem so_rt {t:Nat} {p':PV} (h:PLe (fF t) p') (hn:p'.noOsl=true) (k:Hd P n N H0 Q (.ops all rest) ks ⟨updp fF t p',fL⟩):Hd P n N H0 Q (.ops all rest) ks ⟨fF,fL⟩:=SW.so_rt (s:=⟨fF,fL⟩) h hn k
theorem sw_own {α:Type} {t k e:Nat} {c:Code} (i:Nat) (enc:α->List PV) (hF:fF t = .val (.slice none 0 0)) (hno:fL i = .no) (kk:Hd P n N H0 Q (.code c) ks ⟨updp (Ip_ i fF) t (.osl i),lups (G3_ i fL) i (.arr (.slice none 0 0) k e enc [])⟩):Hd P n N H0 Q (.code c) ks ⟨fF,fL⟩:=SW.sw_own (s:=⟨fF,fL⟩) i enc hF hno kk
theorem qconv {tb:Tb} {ti td:TI} {k k':IntKind} {a:Int} (ht:tbB P tb=true) (hx:evP fF x = .int k a) (hti:lkT tb T=some ti) (htd:lkT tb T'=some td) (hk:td.k = .int k') (h:k'.min<=a/\a<=k'.max):Qy P N H0 ⟨fF,fL⟩ (.convert T T' x) ty (.int k' a):=SW.qconv (s:=⟨fF,fL⟩) ht hx hti htd hk h
theorem ecallm {f:FuncId} {args pre post:List PV} {res:PV} {as0:Array Operand} {ats:Array TypeId} {i b b' T0 off:Nat} (h:Fm P H0.g f args T0 pre res post) (ha:argsP fF x as0.toList=some (f, .own i b off::args)) (hoff:off=0) (hb:fL i = .box b' T0 pre) (hbb:b'=b) (hd:Nat.blt d n=true) (k:res.wf->PV.wfs post->K ⟨updp fF d res,lups fL i (.box b T0 post)⟩):E1 P n N H0 all ⟨some d, .call ⟨.value x,as0,ats⟩,ty,pos,af,none⟩ (some i) ⟨fF,fL⟩ K:=SW.ecallm (s:=⟨fF,fL⟩) h ha hoff hb hbb hd k
theorem rb {tb:Tb} {rs:List ResultVar} {b b' j off T:Nat} {post q:List PV} (h:Is_ tb ⟨fF,fL⟩ rs=some ([.own j b off],[],[])) (ho:off=0) (hb:fL j = .box b' T q) (hbb:b'=b) (hn:C4_ q=true) (hq:PLes q post):Hd P n N H0 (rbK tb rs T post) (.ex .ret) [] ⟨fF,fL⟩:=SW.rb (s:=⟨fF,fL⟩) h ho hb hbb hn hq
theorem ecallb {f:FuncId} {args post:List PV} {as0:Array Operand} {ats:Array TypeId} {T0:Nat} (i:Nat) (h:Fb P H0.g f args T0 post) (ha:argsP fF x as0.toList=some (f,args)) (hd:Nat.blt d n=true) (k:PV.wfs post->∀ b,K ⟨updp fF d (.own i b 0),lups fL i (.box b T0 post)⟩):E1 P n N H0 all ⟨some d, .call ⟨.value x,as0,ats⟩,ty,pos,af,none⟩ (some i) ⟨fF,fL⟩ K:=SW.ecallb (s:=⟨fF,fL⟩) i h ha hd k
theorem cndT {c:Operand} {x y:Code} {b:Bool} (hc:evP fF c = .bool b) (hb:b=true) (k:Hd P n N H0 Q (.code x) ks ⟨fF,fL⟩):Hd P n N H0 Q (.code (.cond c x y)) ks ⟨fF,fL⟩:=SW.cndT (s:=⟨fF,fL⟩) hc hb k
theorem cndF {c:Operand} {x y:Code} {b:Bool} (hc:evP fF c = .bool b) (hb:b=false) (k:Hd P n N H0 Q (.code y) ks ⟨fF,fL⟩):Hd P n N H0 Q (.code (.cond c x y)) ks ⟨fF,fL⟩:=SW.cndF (s:=⟨fF,fL⟩) hc hb k
theorem rt1 {tb:Tb} {rs:List ResultVar} {res p:PV} {as0 bs:List Nat} (h:Is_ tb ⟨fF,fL⟩ rs=some ([p],as0,bs)) (he:as0=bs) (hp:PLe p res):Hd P n N H0 (rtK tb rs res) (.ex .ret) [] ⟨fF,fL⟩:=SW.rt1 (s:=⟨fF,fL⟩) h he hp
theorem rt2 {tb:Tb} {rs:List ResultVar} {res p q:PV} {as0 bs:List Nat} (h:Is_ tb ⟨fF,fL⟩ rs=some ([p,q],as0,bs)) (he:as0=bs) (hp:PLe (.tup [p,q]) res):Hd P n N H0 (rtK tb rs res) (.ex .ret) [] ⟨fF,fL⟩:=SW.rt2 (s:=⟨fF,fL⟩) h he hp
theorem rt3 {tb:Tb} {rs:List ResultVar} {res p q r:PV} {as0 bs:List Nat} (h:Is_ tb ⟨fF,fL⟩ rs=some ([p,q,r],as0,bs)) (he:as0=bs) (hp:PLe (.tup [p,q,r]) res):Hd P n N H0 (rtK tb rs res) (.ex .ret) [] ⟨fF,fL⟩:=SW.rt3 (s:=⟨fF,fL⟩) h he hp
theorem freeze {i t b b' off T0:Nat} {cs:List PV} (hF:fF t = .own i b off) (hL:fL i = .box b' T0 cs) (hbb:b'=b) (hn:C4_ cs=true) (k:Hd P n N H0 Q (.ops all rest) ks ⟨updp fF t (.el cs off),lups fL i .no⟩):Hd P n N H0 Q (.ops all rest) ks ⟨fF,fL⟩:=SW.freeze (s:=⟨fF,fL⟩) hF hL hbb hn k
theorem freezec {i t b b' off T0:Nat} {cs:List PV} {c:Code} (hF:fF t = .own i b off) (hL:fL i = .box b' T0 cs) (hbb:b'=b) (hn:C4_ cs=true) (k:Hd P n N H0 Q (.code c) ks ⟨updp fF t (.el cs off),lups fL i .no⟩):Hd P n N H0 Q (.code c) ks ⟨fF,fL⟩:=SW.freezec (s:=⟨fF,fL⟩) hF hL hbb hn k
theorem qpeq {x y:Operand} {T T' ty i b o:Nat} {e:TypeId} (hT:P.underlying T=some (.pointer e)) (hx:evP fF x = .own i b o) (hy:evP fF y = .val (.pointer none)):Qy P N H0 ⟨fF,fL⟩ (.binOp .eql T x y T') ty (.bool false):=SW.qpeq (s:=⟨fF,fL⟩) hT hx hy
theorem qpne {x y:Operand} {T T' ty i b o:Nat} {e:TypeId} (hT:P.underlying T=some (.pointer e)) (hx:evP fF x = .own i b o) (hy:evP fF y = .val (.pointer none)):Qy P N H0 ⟨fF,fL⟩ (.binOp .neq T x y T') ty (.bool true):=SW.qpne (s:=⟨fF,fL⟩) hT hx hy
theorem rm1 {tb:Tb} {rs:List ResultVar} {res p:PV} {b b' T:Nat} {post q:List PV} {as0 bs:List Nat} (h:Is_ tb ⟨fF,fL⟩ rs=some ([p],as0,bs)) (he:as0=bs) (hp:PLe p res) (hb:fL 0 = .box b' T q) (hbb:b'=b) (hn:C4_ q=true) (hq:PLes q post):Hd P n N H0 (rmK tb rs res b T post) (.ex .ret) [] ⟨fF,fL⟩:=SW.rm1 (s:=⟨fF,fL⟩) h he hp hb hbb hn hq
theorem rm0n {tb:Tb} {rs:List ResultVar} {res:PV} {b b' T:Nat} {post q:List PV} {as0 bs:List Nat} (h:Is_ tb ⟨fF,fL⟩ rs=some ([],as0,bs)) (he:as0=bs) (hp:PLe (.tup []) res) (hb:fL 0 = .box b' T q) (hbb:b'=b) (hn:C4_ q=true) (hq:PLes q post):Hd P n N H0 (rmK tb rs res b T post) (.ex .normal) [] ⟨fF,fL⟩:=SW.rm0n (s:=⟨fF,fL⟩) h he hp hb hbb hn hq
theorem ecallo {α:Type} {f:FuncId} {args:List PV} {res:Value->PV} {k e:Nat} {enc:α->List PV} {xs:List α} {as0:Array Operand} {ats:Array TypeId} (i:Nat) (h:Fo P H0.g f args res k e enc xs) (ha:argsP fF x as0.toList=some (f,args)) (hd:Nat.blt d n=true) (kk:∀ u,(res u).wf->K ⟨updp (Ip_ i fF) d (res u),lups (G3_ i fL) i (.arr u k e enc xs)⟩):E1 P n N H0 all ⟨some d, .call ⟨.value x,as0,ats⟩,ty,pos,af,none⟩ (some i) ⟨fF,fL⟩ K:=SW.ecallo (s:=⟨fF,fL⟩) i h ha hd kk
theorem so_osl {α:Type} {t k e:Nat} {u:Value} {enc:α->List PV} {xs:List α} (i:Nat) (hF:fF t = .val u) (hL:fL i = .arr u k e enc xs) (kk:Hd P n N H0 Q (.ops all rest) ks ⟨updp fF t (.osl i),fL⟩):Hd P n N H0 Q (.ops all rest) ks ⟨fF,fL⟩:=SW.so_osl (s:=⟨fF,fL⟩) i hF hL kk
theorem sw_osl {α:Type} {t k e:Nat} {u:Value} {enc:α->List PV} {xs:List α} {c:Code} (i:Nat) (hF:fF t = .val u) (hL:fL i = .arr u k e enc xs) (kk:Hd P n N H0 Q (.code c) ks ⟨updp fF t (.osl i),fL⟩):Hd P n N H0 Q (.code c) ks ⟨fF,fL⟩:=SW.sw_osl (s:=⟨fF,fL⟩) i hF hL kk
theorem sw_val {α:Type} {t i k e:Nat} {u:Value} {enc:α->List PV} {xs:List α} {c:Code} (hF:fF t = .osl i) (hL:fL i = .arr u k e enc xs) (kk:Hd P n N H0 Q (.code c) ks ⟨updp fF t (.val u),fL⟩):Hd P n N H0 Q (.code c) ks ⟨fF,fL⟩:=SW.sw_val (s:=⟨fF,fL⟩) hF hL kk
theorem ro1 {α:Type} {tb:Tb} {rs:List ResultVar} {u:Value} {k e j:Nat} {enc:α->List PV} {xs xs':List α} {as0 bs:List Nat} (h:Is_ tb ⟨fF,fL⟩ rs=some ([.val u],as0,bs)) (he:as0=bs) (hL:fL j = .arr u k e enc xs') (hx:xs'=xs):Hd P n N H0 (foK tb rs (λu=> .val u) k e enc xs) (.ex .ret) [] ⟨fF,fL⟩:=SW.ro1 (s:=⟨fF,fL⟩) h he hL hx
theorem qmaxN {as0:Array Operand} {k:IntKind} {z r:Int} (zs:List Int) {ats:Array TypeId} (hx:evPs fF as0.toList=(z::zs).map (PV.int k)) (hr:zs.foldl max z=r) (hq:k.min<=r/\r<=k.max):Qy P N H0 ⟨fF,fL⟩ (.call ⟨.builtin .max,as0,ats⟩) ty (.int k r):=SW.qmaxN (s:=⟨fF,fL⟩) zs hx hr hq
theorem ecallg {f:FuncId} {args:List PV} {res:PV} {x:Operand} {xs:Array Operand} {ats:Array TypeId} {ty d j:Nat} {want g:Bool} {pos:String} {af:Array Edge} (hg:gOp ⟨fF,fL⟩ all j want=some g) (h:g=true->Fn P H0.g f args res) (ha:argsP (strG (J9_ xs.toList) fF) x xs.toList=some (f,args)) (hc:AllP (Ow_ fF g (J9_ xs.toList) [])) (hno:Kv_ fF (J9_ xs.toList)=true) (hd:Nat.blt d n=true) (k:(g=true->res.wf)->K ⟨updp fF d (.gv g res),fL⟩):E1 P n N H0 all ⟨some d, .call ⟨.value x,xs,ats⟩,ty,pos,af,some (j,want)⟩ none ⟨fF,fL⟩ K:=SW.ecallg (s:=⟨fF,fL⟩) hg h ha hc hno hd k
theorem ungd {od:Option Nat} {op:Op} {ty j:Nat} {pos:String} {af:Array Edge} {want g:Bool} (hg:gOp ⟨fF,fL⟩ all j want=some g) (ht:g=true) (k:Hd P n N H0 Q (.ops all (⟨od,op,ty,pos,af,none⟩::rest)) ks ⟨fF,fL⟩):Hd P n N H0 Q (.ops all (⟨od,op,ty,pos,af,some (j,want)⟩::rest)) ks ⟨fF,fL⟩:=SW.ungd (s:=⟨fF,fL⟩) hg ht k
theorem ungs {op:Op} {ty j d:Nat} {pos:String} {af:Array Edge} {want g:Bool} (hg:gOp ⟨fF,fL⟩ all j want=some g) (ht:g=false) (hd:Nat.blt d n=true) (k:Hd P n N H0 Q (.ops all rest) ks ⟨updp fF d .junk,fL⟩):Hd P n N H0 Q (.ops all (⟨some d,op,ty,pos,af,some (j,want)⟩::rest)) ks ⟨fF,fL⟩:=SW.ungs (s:=⟨fF,fL⟩) hg ht hd k
theorem qlen0 {tb:Tb} {ti:TI} {e:Nat} (ht:tbB P tb=true) (hx:evP fF x = .val (.slice none 0 0)) (hti:lkT tb T=some ti) (htk:ti.k = .slc e):Qy P N H0 ⟨fF,fL⟩ (.call ⟨.builtin .len,#[x],#[T]⟩) ty (.int .i64 0):=SW.qlen0 (s:=⟨fF,fL⟩) ht hx hti htk
theorem qcap0 {tb:Tb} {ti:TI} {e:Nat} (ht:tbB P tb=true) (hx:evP fF x = .val (.slice none 0 0)) (hti:lkT tb T=some ti) (htk:ti.k = .slc e):Qy P N H0 ⟨fF,fL⟩ (.call ⟨.builtin .cap,#[x],#[T]⟩) ty (.int .i64 0):=SW.qcap0 (s:=⟨fF,fL⟩) ht hx hti htk
theorem qcut0 {tb:Tb} {ti te:TI} {e:Nat} {k:IntKind} {i:Int} (ht:tbB P tb=true) (hx:evP fF x = .val (.slice none 0 0)) (hy:evP fF y = .int k i) (hti:lkT tb T=some ti) (htk:ti.k = .slc e) (hte:lkT tb e=some te) (hi:i=0):Qy P N H0 ⟨fF,fL⟩ (.slice T x none (some y) none) ty (.val (.slice none 0 0)):=SW.qcut0 (s:=⟨fF,fL⟩) ht hx hy hti htk hte hi
theorem appz {tb:Tb} (i:Nat) {e m:Nat} {te ti t2:TI} {k1 k2:IntKind} {q:Int} (ht:tbB P tb=true) (hx:evP fF x = .val (.slice none 0 0)) (hy:evP fF y = .int k1 q) (hti:lkT tb T=some ti) (htk:ti.k = .slc e) (ht2:lkT tb T2=some t2) (ht2k:t2.k = .int k2) (hte:lkT tb e=some te) (hz:te.zero.length=te.size) (hone:all1 te.zero=true) (hby:Nat.blt 0 te.bytes=true) (hq:q=(m:Int)) (hm0:0<m) (hbd:m*te.bytes<=140737488355328) (hd:Nat.blt d n=true) (hno:fL i = .no) (kk:∀ u',K ⟨updp (Ip_ i fF) d (.osl i),lups (G3_ i fL) i (.arr u' te.size e (jrow te.size) (List.replicate m ()))⟩):E1 P n N H0 all ⟨some d, .call ⟨.builtin .append,#[x,y],#[T,T2]⟩,ty,pos,af,none⟩ (some i) ⟨fF,fL⟩ K:=SW.appz (s:=⟨fF,fL⟩) i ht hx hy hti htk ht2 ht2k hte hz hone hby hq hm0 hbd hd hno kk
theorem ocut {α β:Type} {tb:Tb} {i e k:Nat} {u:Value} {enc:α->List PV} {xs:List α} {te ti:TI} {k1:IntKind} {q:Int} (enc':β->List PV) (ht:tbB P tb=true) (hx:evP fF x = .osl i) (hb:fL i = .arr u k e enc xs) (hy:evP fF y = .int k1 q) (hti:lkT tb T=some ti) (htk:ti.k = .slc e) (hte:lkT tb e=some te) (hq:q=0) (hd:Nat.blt d n=true) (kk:∀ u',K ⟨updp (Ip_ i fF) d (.osl i),lups (G3_ i fL) i (.arr u' k e enc' [])⟩):E1 P n N H0 all ⟨some d, .slice T x none (some y) none,ty,pos,af,none⟩ (some i) ⟨fF,fL⟩ K:=SW.ocut (s:=⟨fF,fL⟩) enc' ht hx hb hy hti htk hte hq hd kk
theorem ecallw {α:Type} {f:FuncId} {args:List PV} {res:Value->PV} {i k e k2 e2:Nat} {enc:α->List PV} {xs ys:List α} {u:Value} {as0:Array Operand} {ats:Array TypeId} (h:Fl P H0.g f args res k e enc xs ys) (hx:evP fF x = .fn f [] []) (ha:evPs fF as0.toList = .osl i::args) (hb:fL i = .arr u k2 e2 enc xs) (hk:k2=k) (he2:e2=e) (hd:Nat.blt d n=true) (kk:∀ u',(res u').wf->K ⟨updp (Ip_ i fF) d (res u'),lups (G3_ i fL) i (.arr u' k e enc ys)⟩):E1 P n N H0 all ⟨some d, .call ⟨.value x,as0,ats⟩,ty,pos,af,none⟩ (some i) ⟨fF,fL⟩ K:=SW.ecallw (s:=⟨fF,fL⟩) h hx ha hb hk he2 hd kk
theorem next {ι:Type _} {keep kL:List Nat} {G:Nat->PV} {GL:Nat->Blk} {lv:ι->List (Nat×PV)} {lL:ι->List (Nat×Blk)} {Φ:ι->Prop} {μ:ι->Nat} {m:Nat} {ks:List Kt} {Q:Qs} (x':ι) (h1:keep.map fF=keep.map G) (h2:kL.map fL=kL.map GL) (h3:AllF fF (lv x')) (h4:AllL fL (lL x')) (hm:μ x'<m) (hΦ:Φ x'):Hd P n N H0 Q (.ex .normal) (.lp (LJ (λx=>⟨mkF (lv x) keep G,mkL (lL x) kL GL⟩) Φ μ m)::ks) ⟨fF,fL⟩:=SW.next (s:=⟨fF,fL⟩) x' h1 h2 h3 h4 hm hΦ
theorem go {tb:Tb} (ht:tbB P tb=true) (k:Nat) {c c':Cf} {ks':List Kt} {F':Nat->PV} {L':Nat->Blk} {ps:List Prop} {as0 bs:List Nat} (h:run tb n k c ks fF fL [] [] []=some ⟨c',ks',F',L',ps,as0,bs⟩) (he:as0=bs) (hp:AllP ps) (next :Hd P n N H0 Q c' ks' ⟨F',L'⟩):Hd P n N H0 Q c ks ⟨fF,fL⟩:=SW.go ht k h he hp next
theorem gov {tb:Tb} (ht:tbB P tb=true) (order:List Nat) (f:Nat) {xs:Option (List Nat)} {fuel:Nat} {listed:Array Bool} {F':Nat->PV} {L':Nat->Blk} {ps:List Prop} {as0 bs:List Nat} (hf:fuel=f+order.length) (hc:chkV n all order listed=true) (h:runV tb xs all order fF fL [] [] []=some ⟨F',L',ps,as0,bs⟩) (he:as0=bs) (hp:AllP ps) (next :Hv P n N H0 Q xs all f (lst listed order) ks ⟨F',L'⟩):Hv P n N H0 Q xs all fuel listed ks ⟨fF,fL⟩:=SW.gov ht order f hf hc h he hp next
end Go.SW.V
namespace Go.SW
structure Feed where
 rest:Bs
 err:Int
def Feed.cells (f:Feed):List Value:=[str f.rest, .int .i64 f.err]
def mt:List Bs->List Bs->Bool
 |[],k=>k.isEmpty
 |w::p,k=>if w=[35] then (List.range (k.length+1)).any (λf=>mt p (k.drop f)) else match k with
   |[]=>false
   |x::r=>(decide (w=[42]) || decide (w=x))&&mt p r
theorem Ti_ {p k:List Bs}:mt ([35]::p) k=true↔∃ f,mt p (k.drop f)=true:=by
 simp only[mt,if_true,List.any_eq_true,List.mem_range];constructor;rintro⟨f,_,h⟩;exact⟨f,h⟩;rintro⟨f,h⟩;by_cases hf:f<k.length+1;exact⟨f,hf,h⟩;refine⟨k.length,by omega,?_⟩;rw[List.drop_of_length_le pB] at h;rw[List.drop_of_length_le pB];exact h
theorem Wd_ {w:Bs} {p k:List Bs} (hw:w≠[35]):mt (w::p) k=true↔∃ x r,k=x::r/\(w=[42]\/w=x)/\mt p r=true:=by
 simp only[mt,if_neg hw]
 cases k with
 |nil=>simp
 |cons x r=>
   constructor
   . intro h;simp at h;exact⟨x,r,rfl,h.1,h.2⟩
   . rintro⟨x',r',e,h1,h2⟩;cases e;simp[h1,h2]
structure MI (p k:List Bs) (i j:Nat) (b:Int) (f:Nat):Prop where
 hi:i<=p.length
 hj:j<=k.length
 hf:f<=j
 hb:-1<=b
 hbi:b<=i
 no:b<0->(mt p k=true↔mt (p.drop i) (k.drop j)=true)
 seg:0<=b->j=f+(i-b.toNat)
 go:0<=b->(mt p k=true↔∃ g,f<=g/\mt (p.drop b.toNat) (k.drop g)=true)
 fw:0<=b->∀ g,mt (p.drop b.toNat) (k.drop g)=true->mt (p.drop i) (k.drop (g+(i-b.toNat)))=true
 bw:0<=b->mt (p.drop i) (k.drop j)=true->mt (p.drop b.toNat) (k.drop f)=true
theorem MI.start (p k:List Bs):MI p k 0 0 (-1) 0:=
 ⟨Nat.zero_le _,Nat.zero_le _,Nat.zero_le _,by omega,by omega,λ_=>by simp,λh=>absurd h pC,λh=>absurd h pC,λh=>absurd h pC,λh=>absurd h pC⟩
theorem MI.hash {p k:List Bs} {i j f:Nat} {b:Int} (h:MI p k i j b f) (hp:p[i]? = some [35]):MI p k (i+1) j ((i:Int)+1) j:=by
 have hi:i<p.length:=(List.getElem?_eq_some_iff.1 hp).1;have hd:=Df_ hp;have e1:((i:Int)+1).toNat=i+1:=by omega
 refine⟨hi,h.hj,Nat.le_refl _,by omega,by omega,λq=>absurd q pB,λ_=>by omega,λ_=>?_,λ_ g hg=>?_,λ_ hg=>?_⟩;rw[e1];by_cases hb:b<0;rw[h.no hb,hd,Ti_];constructor;rintro⟨g,hg⟩;rw[List.drop_drop] at hg;exact⟨j+g,by omega,hg⟩;rintro⟨g,hle,hg⟩;exact tP;have hs:=h.seg pB;rw[h.go pB];constructor;rintro⟨g,hle,hg⟩;have :=h.fw pB g hg;rw[hd,Ti_] at this;obtain⟨f',hf'⟩:=this;rw[List.drop_drop] at hf';exact⟨_,by omega,hf'⟩;rintro⟨g,hle,hg⟩;refine⟨f,Nat.le_refl _,h.bw pB ?_⟩;rw[hd,Ti_];exact tP;rw[e1] at hg ⊢;rw[Nat.sub_self];exact hg;rw[e1];exact hg
theorem MI.step {p k:List Bs} {i j f:Nat} {b:Int} {w x:Bs} (h:MI p k i j b f) (hp:p[i]? = some w) (hk:k[j]? = some x) (hw:w≠[35]) (hm:w=[42]\/w=x):MI p k (i+1) (j+1) b f:=by
 have hi:i<p.length:=(List.getElem?_eq_some_iff.1 hp).1;have hj:j<k.length:=(List.getElem?_eq_some_iff.1 hk).1;have hd:=Df_ hp;have hkd:=Df_ hk;have hbi:=h.hbi;have one:mt (p.drop i) (k.drop j)=true↔mt (p.drop (i+1)) (k.drop (j+1))=true:=by
   rw[hd,hkd,Wd_ hw]
   constructor
   . rintro⟨x',r,e,_,hr⟩;cases e;exact hr
   . intro hr;exact⟨_,_,rfl,hm,hr⟩
 refine⟨hi,hj,by have :=h.hf;omega,h.hb,by omega,λq=>(h.no q).trans one,λq=>by have :=h.seg q;omega,h.go,λq g hg=>?_,λq hg=>h.bw q (one.2 hg)⟩;have :=h.fw q g hg;rw[hd,Wd_ hw] at this;obtain⟨x',r,e,_,hr⟩:=this;have e2:k.drop (g+(i+1-b.toNat))=r:=by
   rw[show g+(i+1-b.toNat)=(g+(i-b.toNat))+1 by omega,<- List.drop_drop,e];rfl
 rw[e2];exact hr
theorem MI.bad {p k:List Bs} {i j f:Nat} {b:Int} {x:Bs} (_:MI p k i j b f) (hk:k[j]? = some x) (hm:∀ w,p[i]? = some w->w≠[35]/\w≠[42]/\w≠x):mt (p.drop i) (k.drop j)=false:=by
 rw[Df_ hk]
 cases hp:p[i]? with
 |none=>
   have :p.length<=i:=List.getElem?_eq_none_iff.1 hp
   rw[List.drop_of_length_le this];rfl
 |some w=>
   obtain⟨h1,h2,h3⟩:=hm w hp
   rw[Df_ hp]
   cases q:mt (w::p.drop (i+1)) (x::k.drop (j+1)) with
   |false=>rfl
   |true=>
     obtain⟨x',r,e,hh,_⟩:=(Wd_ h1).1 q
     cases e
     rcases hh with hh|hh
     . exact absurd hh h2
     . exact absurd hh h3
theorem MI.back {p k:List Bs} {i j f:Nat} {b:Int} {x:Bs} (h:MI p k i j b f) (hk:k[j]? = some x) (hb:0<=b) (hm:∀ w,p[i]? = some w->w≠[35]/\w≠[42]/\w≠x):MI p k b.toNat (f+1) b (f+1):=by
 have hj:j<k.length:=(List.getElem?_eq_some_iff.1 hk).1;have hbad:=h.bad hk hm;have h1:=h.hf;have h2:=h.hi;have h3:=h.hbi;refine⟨by omega,by omega,Nat.le_refl _,h.hb,by omega,λq=>absurd q pB,λ_=>by omega,λ_=>?_,λ_ g hg=>?_,λ_ hg=>hg⟩;rw[h.go hb];constructor;rintro⟨g,hle,hg⟩;by_cases e:g=f
 . subst e
   have :=h.fw hb g hg
   rw[<- h.seg hb,hbad] at this;cases this
 exact⟨g,by omega,hg⟩;rintro⟨g,hle,hg⟩;exact⟨g,by omega,hg⟩;rw[Nat.sub_self];exact hg
theorem MI.none {p k:List Bs} {i j f:Nat} {b:Int} {x:Bs} (h:MI p k i j b f) (hk:k[j]? = some x) (hb:b<0) (hm:∀ w,p[i]? = some w->w≠[35]/\w≠[42]/\w≠x):mt p k=false:=by
 have hbad:=h.bad hk hm
 cases q:mt p k with
 |false=>rfl
 |true=>rw[(h.no hb).1 q] at hbad;cases hbad
theorem MI.fin {p k:List Bs} {i j f:Nat} {b:Int} (h:MI p k i j b f) (hj:k.length<=j):mt p k=mt (p.drop i) []:=by
 rw[Bool.eq_iff_iff];have e:k.drop j=[]:=List.drop_of_length_le hj;by_cases hb:b<0;rw[h.no hb,e];have hs:=h.seg pB;rw[h.go pB];constructor;rintro⟨g,hle,hg⟩;have :=h.fw pB g hg;have e2:k.drop (g+(i-b.toNat))=[]:=List.drop_of_length_le pB;rw[e2] at this;exact this;intro hg;exact⟨f,Nat.le_refl _,h.bw pB (by rw[e];exact hg)⟩
theorem mt_end {p:List Bs} {i:Nat} {m:Bool} (h:m=mt (p.drop i) []) (hp:p[i]? = some [35]):m=mt (p.drop (i+1)) []:=by
 rw[h,Df_ hp,Bool.eq_iff_iff,Ti_];simp
theorem mt_endN {p:List Bs} {i:Nat} {w:Bs} (hp:p[i]? = some w) (hw:w≠[35]):mt (p.drop i) []=false:=by
 rw[Df_ hp];simp only[mt,if_neg hw]
def mmu (p k:List Bs) (j:Nat) (b:Int) (f:Nat):Nat:=(p.length+1-(b+1).toNat)*((k.length+1)*(k.length+1))+(k.length-f)*(k.length+1)+(k.length-j)
theorem mmu_hash {p k:List Bs} {i j f:Nat} {b:Int} (h:MI p k i j b f) (hi:i<p.length):mmu p k j ((i:Int)+1) j<mmu p k j b f:=by
 have h1:=h.hbi;have h2:=h.hb;unfold mmu;have e:p.length+1-(b+1).toNat=(p.length+1-((i:Int)+1+1).toNat)+1+(p.length+1-(b+1).toNat-((p.length+1-((i:Int)+1+1).toNat)+1)):=by omega
 have h3:(k.length-j)*(k.length+1)<=k.length*(k.length+1):=Nat.mul_le_mul_right _ (Nat.sub_le _ _);have h4:(k.length+1)*(k.length+1)=k.length*(k.length+1)+(k.length+1):=by rw[Nat.succ_mul]
 generalize (k.length+1)*(k.length+1)=q at *;rw[e,Nat.add_mul,Nat.add_mul,Nat.one_mul];omega
theorem mmu_step {p k:List Bs} {j f:Nat} {b:Int} (hj:j<k.length):mmu p k (j+1) b f<mmu p k j b f:=by
 unfold mmu;omega
theorem mmu_back {p k:List Bs} {j f:Nat} {b:Int} (hf:f<=j) (hj:j<k.length):mmu p k (f+1) b (f+1)<mmu p k j b f:=by
 unfold mmu;have e:(k.length-f)*(k.length+1)=(k.length-(f+1))*(k.length+1)+(k.length+1):=by
   rw[show k.length-f=(k.length-(f+1))+1 by omega,Nat.succ_mul]
 rw[e];omega
def Mail.zero:Mail:=⟨0,[],[],[],[],0,0⟩
def Reply.zero:Reply:=⟨0,0,0,0,false,[],Mail.zero⟩
structure RIn where
 s:Bs
 pos:Int
 code:Int
def RIn.cells (i:RIn):List Value:=[str i.s, .int .i64 i.pos, .int .i64 i.code]
def txtB (s:Bs):Bs:=numB 2 s.length++s
def Qt_ (p:Pair):Bs:=txtB p.key++(numB 1 p.kind.toNat++(if p.kind=0 then numB 8 (IntKind.wrap .u64 p.num).toNat else if p.kind=1 then txtB p.text else numB 1 (IntKind.wrap .u64 p.num).toNat))
theorem Dc_ {o:Out} {s:Bs} (h:(s.length:Int)<=65535):V_ o s=⟨o.s++txtB s,o.err⟩:=by
 unfold V_;rw[if_neg pB];have e:numK 2=2:=by decide
 simp[Dp_,M_,e,txtB]
theorem outNum_s {o:Out} {n:Int} {k:Nat} (h:k<=8):M_ o n k=⟨o.s++numB k n.toNat,o.err⟩:=by
 simp only[M_,numK];rw[show (min (max (k:Int) 0) 8).toNat=k by omega]
theorem Pe_ {o:Out} {n:Int}:M_ o n 1=⟨o.s++numB 1 n.toNat,o.err⟩:=outNum_s (k:=1) pB
theorem Z0_ {o:Out} {n:Int}:M_ o n 8=⟨o.s++numB 8 n.toNat,o.err⟩:=outNum_s (k:=8) pB
theorem pairOut_s {o:Out} {p:Pair} (h:p.key.length<=16/\p.kind<=2/\(p.kind=1->p.text.length<=64)) (h0:0<=p.kind):H2_ o p=⟨o.s++Qt_ p,o.err⟩:=by
 obtain⟨h1,h2,h3⟩:=h;have hk:((p.key.length:Nat):Int)<=65535:=by omega
 unfold H2_ Qt_;by_cases e0:p.kind=0;rw[if_pos e0,if_pos e0,Dc_ hk,Pe_,Z0_];simp;rw[if_neg e0,if_neg e0];by_cases e1:p.kind=1;have :=h3 e1;rw[if_pos e1,if_pos e1,Dc_ hk,Pe_,Dc_ pB];simp;rw[if_neg e1,if_neg e1,if_pos pB,Dc_ hk,Pe_,Pe_];simp
theorem Ro_:∀ {l:List Pair} {o:Out},(∀ p∈l,(p.key.length<=16/\p.kind<=2/\(p.kind=1->p.text.length<=64))/\0<=p.kind)->l.foldl H2_ o=⟨o.s++l.flatMap Qt_,o.err⟩
 |[],o,_=>by simp
 |p::r,o,h=>by
   have hp:=h p pF
   rw[List.foldl_cons,pairOut_s hp.1 hp.2,Ro_ (λq hq=>h q pZ)]
   simp
theorem headBytes_s {h:List Pair} (e:Du_ h=0) (h0:∀ p∈h,0<=p.kind):Db_ h=numB 1 h.length++h.flatMap Qt_:=by
 obtain⟨h1,h2⟩:=Oa_ e;unfold Db_ Va_;rw[if_pos e,Ro_ (λp hp=>⟨h2 p hp,h0 p hp⟩),Pe_];simp
theorem pairErr_fwd {p:Pair} {ahead:List Pair} (h:Fj_ p ahead=0):(p.kind=2->p.num=0\/p.num=1)/\(p.kind=1->p.num=0)/\(p.kind≠1->p.text=[]):=by
 unfold Fj_ at h
 split at h
 . contradiction
 . split at h
   . cases h
   . split at h
     . cases h
     . split at h
       . cases h
       . rename_i h2
         split at h
         . cases h
         . rename_i h3
           refine⟨λe=>?_,λe=>?_,λe=>?_⟩
           by_cases q:p.num=0
           exact .inl q
           exact .inr (Decidable.byContradiction λq2=>h2 ⟨e,q,q2⟩)
           exact Decidable.byContradiction λq=>h3 (.inl ⟨e,q⟩)
           exact Decidable.byContradiction λq=>h3 (.inr ⟨e,q⟩)
section
variable {α:Type} [DecidableEq α] {a b ra rb:List α} {x y:α} {k:Nat}
theorem U2_ (h:¬(a.length:Int)=b.length):decide (a=b)=false:=by
 rw[decide_eq_false_iff_not];rintro rfl;exact h Y
theorem Rm_ (h:decide (a=b) = decide (a.drop k=b.drop k)) (ha:a.drop k=x::ra) (hb:b.drop k=y::rb) (e:x=y):decide (a=b) = decide (ra=rb):=by
 rw[h,ha,hb,Bool.eq_iff_iff];simp[e]
theorem Rl_ (h:decide (a=b) = decide (a.drop k=b.drop k)) (ha:a.drop k=x::ra) (hb:b.drop k=y::rb) (e:¬x=y):decide (a=b)=false:=by
 rw[h,ha,hb,Bool.eq_iff_iff];simp[e]
theorem U1_ (h:decide (a=b) = decide (a.drop k=b.drop k)) (ha:a.length<=k) (hb:b.length<=k):decide (a=b)=true:=by
 rw[h,List.drop_of_length_le ha,List.drop_of_length_le hb];simp
end
section
variable {α:Type} {p:α->Bool} {a r:List α} {x:α} {k:Nat}
theorem all_step (h:a.all p=(a.drop k).all p) (ha:a.drop k=x::r) (e:p x=true):a.all p=r.all p:=by rw[h,ha];simp[e]
theorem all_miss (h:a.all p=(a.drop k).all p) (ha:a.drop k=x::r) (e:p x=false):a.all p=false:=by rw[h,ha];simp[e]
theorem all_end (h:a.all p=(a.drop k).all p) (ha:a.length<=k):a.all p=true:=by rw[h,List.drop_of_length_le ha];rfl
end
theorem Mail.eq_iff {a b:Mail}:a=b↔a.id=b.id/\a.Ak_=b.Ak_/\a.key=b.key/\a.head=b.head/\a.body=b.body/\a.due=b.due/\a.hops=b.hops:=by
 cases a;cases b;simp
def X1_ (p:Pair):Bool:=decide (p.key.length<=40) && decide (p.text.length<=100)
def Os_ (h:List Pair):Bool:=decide (h.length<=12)&&h.all X1_
def lightR (r:Reply):Bool:=decide (max (r.name.length:Int) (r.O_.Ak_.length:Int)<=40) && decide ((r.O_.key.length:Int)<=100)&&Os_ r.O_.head && decide ((r.O_.body.length:Int)<=300)
theorem dots_none:∀ {t:Bs},(∀ c∈t,¬c=46)->dots t=[t]
 |[],_=>rfl
 |c::r,h=>by
   have ih:=dots_none (t:=r) (λx hx=>h x pS)
   unfold dots
   rw[if_neg (h c pF),ih]
theorem dots_at:∀ {m:Nat} {t:Bs},(∀ c∈t.take m,¬c=46)->t[m]? = some 46->dots t=t.take m::dots (t.drop (m+1))
 |0,[],_,h=>by simp at h
 |0,c::r,_,h=>by
   have :c=46:=by simpa using h
   subst this
   rfl
 |m+1,[],_,h=>by simp at h
 |m+1,c::r,hn,h=>by
   have ih:=dots_at (m:=m) (t:=r) (λx hx=>hn x pS) pT
   rw[dots,if_neg (hn c pF),ih]
   rfl
def noDot (s:Bs) (f k:Nat):Prop:=∀ j,f<=j->j<k->¬s.getD j 0=46
theorem noDot_mem {s:Bs} {f k:Nat} (h:noDot s f k):∀ c∈(s.drop f).take (k-f),¬c=46:=λc hc=>by
 obtain⟨j,hj,rfl⟩:=List.getElem_of_mem hc
 rw[List.length_take,List.length_drop] at hj
 have :=h (f+j) pB pB
 rw[List.getElem_take,List.getElem_drop]
 rw[List.getD_eq_getElem?_getD,List.getElem?_eq_getElem pB] at this
 exact this
theorem split_hit {s:Bs} {f k:Nat} {out:List Bs} (h:dots s=out++dots (s.drop f)) (hn:noDot s f k) (hf:f<=k) (hk:k<s.length) (hc:s.getD k 0=46):dots s=(out++[(s.drop f).take (k-f)])++dots (s.drop (k+1)):=by
 rw[h];have hg:(s.drop f)[k-f]? = some 46:=by
   rw[List.getElem?_drop,show f+(k-f)=k by omega,List.getElem?_eq_getElem hk]
   rw[List.getD_eq_getElem?_getD,List.getElem?_eq_getElem hk] at hc
   exact congrArg some hc
 rw[dots_at (noDot_mem hn) hg,List.drop_drop,show f+(k-f+1)=k+1 by omega];simp
theorem split_end {s:Bs} {f k:Nat} {out:List Bs} (h:dots s=out++dots (s.drop f)) (hn:noDot s f k) (hk:s.length<=k):dots s=out++[s.drop f]:=by
 rw[h];have :=noDot_mem hn;rw[List.take_of_length_le (by rw[List.length_drop];omega)] at this;rw[dots_none this]
theorem noDot_step {s:Bs} {f k:Nat} (h:noDot s f k) (hc:¬s.getD k 0=46):noDot s f (k+1):=λj h1 h2=>by
 by_cases e:j=k
 . subst e;exact hc
 . exact h j h1 pB
theorem noDot_nil {s:Bs} {f:Nat}:noDot s f f:=λj h1 h2=>by omega
theorem byteEq {c:UInt8} {n:Nat} (hn:n<256) (h:(c.toNat:Int)=n):c=UInt8.ofNat n:=by
 apply UInt8.toNat_inj.1
 rw[UInt8.toNat_ofNat'];exact xQ
theorem byteNe {c:UInt8} {n:Nat} (hn:n<256) (h:¬(c.toNat:Int)=n):¬c=UInt8.ofNat n:=by
 rintro rfl;rw[UInt8.toNat_ofNat'] at h;exact xQ
def D9_ (pattern:Bool):List Bs:=if pattern=true then [[42],[35]] else []
theorem Tc_ {s:Bs} {k:Nat} (hk:k<s.length):(s.drop k).all (λc=>letter c.toNat)=(letter (s.getD k 0).toNat&&(s.drop (k+1)).all (λc=>letter c.toNat)):=by
 rw[L1_ hk,List.all_cons]
theorem isBad_doc {p b:Bool} {w:Bs} (h:(decide ((w.length:Int)=0)||!plain w)=b):Qp_ (D9_ p) w=(b&&!(p&&(decide (w=[42]) || decide (w=[35])))):=by
 subst h;have e:(w==[]) = decide ((w.length:Int)=0):=by
   cases w with
   |nil=>rfl
   |cons c r=>simp;omega
 unfold Qp_ D9_;rw[e]
 cases p
 simp;simp[Bool.and_comm]
theorem numB_snoc:∀ (k n:Nat),numB (k+1) n=numB k (n/256)++[UInt8.ofNat (n%256)]
 |0,n=>by
   simp only[numB,Nat.pow_zero,Nat.div_one,List.nil_append,List.cons.injEq,and_true]
   apply UInt8.toNat_inj.1
   simp only[UInt8.toNat_ofNat']
   exact xQ
 |k+1,n=>by
   have ih:=numB_snoc k n
   have e:numB (k+2) n=UInt8.ofNat (n/256 ^ (k+1))::numB (k+1) n:=rfl
   rw[e,ih]
   simp only[numB,List.cons_append]
   rw[Nat.div_div_eq_div_mul,Nat.pow_succ,Nat.mul_comm]
theorem numK_pred {b:Int} (h:1<=b) (h8:b<=8):numK b=numK (b-1)+1:=by unfold numK;omega
theorem Tk_ {n b:Int} (h0:0<=n) (h:1<=b) (h8:b<=8):numB (numK b) n.toNat=numB (numK (b-1)) (n/256).toNat++[UInt8.ofNat (n%256).toNat]:=by
 rw[numK_pred h h8,numB_snoc];have e1:(n/256).toNat=n.toNat/256:=by omega
 have e2:(n%256).toNat=n.toNat%256:=by omega
 rw[e1,e2]
theorem Np_ (b:Int):numK b<=8:=by unfold numK;omega
theorem Op_ (s:Bs):(txtB s).length=s.length+2:=by simp[txtB,A1_];omega
def Ym_ (h:List Pair):Prop:=h.length<=1000/\∀ p∈h,p.key.length<=1000/\p.text.length<=1000
theorem Pm_ {h:List Pair} (e:Os_ h=true):Ym_ h:=by
 simp only[Os_,Bool.and_eq_true,decide_eq_true_eq,List.all_eq_true,X1_] at e;exact⟨by omega,λp hp=>by have :=e.2 p hp;omega⟩
theorem Sw_ {r:Reply} (e:lightR r=true):Ym_ r.O_.head:=by
 simp only[lightR,Bool.and_eq_true] at e;exact Pm_ e.1.2
theorem Sg_ {p:Pair} (h:p.key.length<=1000/\p.text.length<=1000):(Qt_ p).length<=2100:=by
 unfold Qt_;simp only[List.length_append,txtB,A1_]
 split
 rw[A1_];omega
 . split
   simp only[List.length_append,A1_];omega
   rw[A1_];omega
def r9B (h:List Pair):Bs:=numB 1 h.length++h.flatMap Qt_
theorem Ja_ (p:Pair) (ahead:List Pair):Fj_ p ahead = if Cx_ p.key≠0 then Cx_ p.key else if 2<p.kind then 8 else if p.kind=1/\(64:Int)<p.text.length then 5 else if p.kind=2/\(p.num<0\/1<p.num) then 7 else if p.kind=1/\p.num≠0\/p.kind≠1/\p.text≠[] then 4 else if (J8_ ahead p.key).isSome then 9 else 0:=by
 unfold Fj_;have e:(p.kind=2/\p.num≠0/\p.num≠1)↔(p.kind=2/\(p.num<0\/1<p.num)):=by omega
 simp only[e]
theorem r9B_len {h:List Pair} (hs:Ym_ h):(r9B h).length<=1+2100*h.length:=by
 have key:∀ l:List Pair,(∀ p∈l,p.key.length<=1000/\p.text.length<=1000)->(l.flatMap Qt_).length<=2100*l.length:=by
   intro l
   induction l with
   |nil=>intro _;simp
   |cons p r ih=>
     intro hp
     have a:=ih (λq hq=>hp q pZ)
     have b:=Sg_ (hp p pF)
     simp only[List.flatMap_cons,List.length_append,List.length_cons];omega
 have :=key h hs.2;unfold r9B;rw[List.length_append,A1_];omega
structure Rule where
 sort:Int
 key:Bs
 want:List Pair
 all:Bool
deriving DecidableEq
def Rule.cells (r:Rule) (a:Option Addr) (c:Nat):List Value:=[.int .u8 r.sort,str r.key, .slice a r.want.length c, .bool r.all]
def Rule.wf (r:Rule):Prop:=(0<=r.sort/\r.sort<=255)/\r.key.length<=9223372036854775807/\r.want.length<=9223372036854775807
theorem Rule.eq_iff {a b:Rule}:a=b↔a.sort=b.sort/\a.key=b.key/\a.want=b.want/\a.all=b.all:=by
 cases a;cases b;simp
def patB:List Bs:=[[42],[35]]
def Qc_ (r:Rule):Int:=
 if 3<r.sort then 8
 else if r.sort=0 then (if keyE [] r.key≠0 then keyE [] r.key else Du_ r.want)
 else if keyE patB r.key≠0 then keyE patB r.key else Du_ r.want
def hasP (h:List Pair) (p:Pair):Bool:=(J8_ h p.key).isSome && decide ((J8_ h p.key).getD Pair.zero=p)
def Jr_ (all:Bool) (h:List Pair):List Pair->Bool
 |[]=>all
 |p::l=>if hasP h p then (if all then Jr_ all h l else true) else if all then false else Jr_ all h l
def O3_ (r:Rule) (key:Bs) (h:List Pair):Bool:=
 if r.sort=0 then decide (key=r.key) else if r.sort=2 then mt (Ck_ r.key) (Ck_ key) else if r.sort=3 then Jr_ r.all h r.want else true
structure Method where
 channel:Int
 kind:Int
 name:Bs
 other:Bs
 key:Bs
 head:List Pair
 body:Bs
 n:Int
 m:Int
 yes:Bool
deriving DecidableEq
def Method.cells (m:Method) (a:Option Addr) (c:Nat):List Value:=[.int .u8 m.channel, .int .u8 m.kind,str m.name,str m.other,str m.key, .slice a m.head.length c,str m.body, .int .u64 m.n, .int .u64 m.m, .bool m.yes]
def Method.wf (m:Method):Prop:=(0<=m.channel/\m.channel<=255)/\(0<=m.kind/\m.kind<=255)/\(0<=m.n/\m.n<=18446744073709551615)/\(0<=m.m/\m.m<=18446744073709551615)/\m.name.length<=9223372036854775807/\m.other.length<=9223372036854775807/\m.key.length<=9223372036854775807/\m.head.length<=9223372036854775807/\m.body.length<=9223372036854775807
theorem headGo_r:∀ (l a:List Pair),0<=Jf_ a l/\Jf_ a l<=15
 |[],a=>by simp[Jf_]
 |p::l,a=>by
   have h1:=Wg_ p a
   have h2:=headGo_r l (a++[p])
   simp only[Jf_]
   split<;>omega
theorem U8_ (h:List Pair):0<=Du_ h/\Du_ h<=15:=by
 have :=headGo_r h [];unfold Du_
 split<;>omega
def Eg_ (m:Mail):Int:=
 if Cx_ m.Ak_≠0 then Cx_ m.Ak_ else if keyE [] m.key≠0 then keyE [] m.key else if Du_ m.head≠0 then Du_ m.head else if (256:Int)<m.body.length then 5 else if 4<m.hops then 7 else 0
theorem keyE_r (b:List Bs) (s:Bs):0<=keyE b s/\keyE b s<=15:=by
 unfold keyE;exact tS
theorem Kg_ (m:Mail):0<=Eg_ m/\Eg_ m<=15:=by
 have h1:=No_ m.Ak_;have h2:=keyE_r [] m.key;have h3:=U8_ m.head;unfold Eg_;exact tS
theorem Ii_ {m:Mail} (h:Eg_ m=0):m.Ak_.length<=16/\m.key.length<=64/\Du_ m.head=0/\m.body.length<=256/\m.hops<=4:=by
 unfold Eg_ at h;have h1:Cx_ m.Ak_=0:=by
   by_cases e:Cx_ m.Ak_=0
   . exact e
   . exact sK
 rw[if_neg pB] at h;have h2:keyE [] m.key=0:=by
   by_cases e:keyE [] m.key=0
   . exact e
   . exact sK
 rw[if_neg pB] at h;have h3:Du_ m.head=0:=by
   by_cases e:Du_ m.head=0
   . exact e
   . exact sK
 rw[if_neg pB] at h;have a:=Ij_ h1;have b:=keyE_ok h2
 split at h
 . cases h
 . split at h
   . cases h
   exact⟨a,b,h3,by omega,by omega⟩
def Wb_ (m:Mail):Out:=M_ (M_ (V_ (Dp_ (V_ (V_ (M_ ⟨[],0⟩ m.id 8) m.Ak_) m.key) (Db_ m.head)) m.body) m.due 8) m.hops 1
def Ez_ (m:Mail):Bs:=if Eg_ m=0 then (Wb_ m).s else []
def L6_ (s:Bs):Int:=if s=[] then 0 else Cx_ s
theorem Og_ (s:Bs):0<=L6_ s/\L6_ s<=15:=by
 have :=No_ s;unfold L6_
 split<;>omega
def Cw_ (b:Bool) (e:Int):Int:=if b=true then e else 0
def bitN (b:Bool):Int:=if b=true then 1 else 0
structure Z_ where
 name:Bs
 sort:Int
 to':Bs
deriving DecidableEq
def Z_.cells (x:Z_):List Value:=[str x.name, .int .u8 x.sort,str x.to']
def Z_.wf (x:Z_):Prop:=x.name.length<=9223372036854775807/\(0<=x.sort/\x.sort<=255)/\x.to'.length<=9223372036854775807
structure Ae_ where
 name:Bs
 most:Int
 life:Int
 dead:Bs
deriving DecidableEq
def Ae_.cells (x:Ae_):List Value:=[str x.name, .int .u64 x.most, .int .u64 x.life,str x.dead]
def Ae_.wf (x:Ae_):Prop:=x.name.length<=9223372036854775807/\(0<=x.most/\x.most<=18446744073709551615)/\(0<=x.life/\x.life<=18446744073709551615)/\x.dead.length<=9223372036854775807
structure R_ where
 Ak_:Bs
 to':Bs
 up:Bool
 key:Bs
 want:List Pair
 all:Bool
deriving DecidableEq
def R_.cells (x:R_) (a:Option Addr) (c:Nat):List Value:=[str x.Ak_,str x.to', .bool x.up,str x.key, .slice a x.want.length c, .bool x.all]
def R_.wf (x:R_):Prop:=x.Ak_.length<=9223372036854775807/\x.to'.length<=9223372036854775807/\x.key.length<=9223372036854775807/\x.want.length<=9223372036854775807
theorem R_.eq_iff {a b:R_}:a=b↔a.Ak_=b.Ak_/\a.to'=b.to'/\a.up=b.up/\a.key=b.key/\a.want=b.want/\a.all=b.all:=by
 cases a;cases b;simp
structure Aa_ where
 kind:Int
 tick:Int
 Ak_:Z_
 queue:Ae_
 bind:R_
 name:Bs
 id:Int
 how:Int
 frm:Int
 code:Int
 number:Int
 O_:Mail
 text:Bs
deriving DecidableEq
def Aa_.cells (d:Aa_) (a:Option Addr) (c:Nat) (a':Option Addr) (c':Nat):List Value:=
 [.int .u8 d.kind, .int .u64 d.tick,str d.Ak_.name, .int .u8 d.Ak_.sort,str d.Ak_.to',str d.queue.name, .int .u64 d.queue.most, .int .u64 d.queue.life,str d.queue.dead,
  str d.bind.Ak_,str d.bind.to', .bool d.bind.up,str d.bind.key, .slice a d.bind.want.length c, .bool d.bind.all,str d.name, .int .u64 d.id, .int .u8 d.how, .int .u8 d.frm, .int .u8 d.code, .int .u64 d.number,
  .int .u64 d.O_.id,str d.O_.Ak_,str d.O_.key, .slice a' d.O_.head.length c',str d.O_.body, .int .u64 d.O_.due, .int .u8 d.O_.hops,str d.text]
def Aa_.wf (d:Aa_):Prop:=(0<=d.kind/\d.kind<=255)/\(0<=d.tick/\d.tick<=18446744073709551615)/\d.Ak_.wf/\d.queue.wf/\d.bind.wf/\d.name.length<=9223372036854775807/\(0<=d.id/\d.id<=18446744073709551615)/\(0<=d.how/\d.how<=255)/\(0<=d.frm/\d.frm<=255)/\(0<=d.code/\d.code<=255)/\(0<=d.number/\d.number<=18446744073709551615)/\d.O_.wf/\d.text.length<=9223372036854775807
theorem Aa_.eq_iff {a b:Aa_}:a=b↔a.kind=b.kind/\a.tick=b.tick/\a.Ak_=b.Ak_/\a.queue=b.queue/\a.bind=b.bind/\a.name=b.name/\a.id=b.id/\a.how=b.how/\a.frm=b.frm/\a.code=b.code/\a.number=b.number/\a.O_=b.O_/\a.text=b.text:=by
 cases a;cases b;simp
def Z_.zero:Z_:=⟨[],0,[]⟩
def Ae_.zero:Ae_:=⟨[],0,0,[]⟩
def R_.zero:R_:=⟨[],[],false,[],[],false⟩
def G8_ (d:Aa_):Aa_:=
 ⟨d.kind,d.tick,if d.kind=0 then d.Ak_ else .zero,if d.kind=2 then d.queue else .zero,if d.kind=4\/d.kind=5 then d.bind else .zero,
  if d.kind=1\/d.kind=3\/d.kind=7\/d.kind=8 then d.name else [],if d.kind=8 then d.id else 0,if d.kind=8 then d.how else 0,if d.kind=10 then d.frm else 0,if d.kind=12 then d.code else 0,if d.kind=10 then d.number else 0,
  if d.kind=6\/d.kind=10 then d.O_ else .zero,if d.kind=12 then d.text else []⟩
def C6_:List Int->Int
 |[]=>0
 |a::l=>if a≠0 then a else C6_ l
theorem Za_:∀ (l:List Int),(∀ a∈l,0<=a/\a<=15)->0<=C6_ l/\C6_ l<=15
 |[],_=>⟨Int.le_refl _,by simp[C6_]⟩
 |a::l,h=>by
   unfold C6_
   split
   . exact h a (List.mem_cons_self ..)
   . exact Za_ l λb hb=>h b (List.mem_cons_of_mem _ hb)
def De_ (d:Aa_):Int:=
 if 12<d.kind then 8 else if d≠G8_ d then 4
 else if d.kind=0 then C6_ [Cx_ d.Ak_.name,Cw_ (decide (4<d.Ak_.sort)) 8,L6_ d.Ak_.to']
 else if d.kind=2 then C6_ [Cx_ d.queue.name,L6_ d.queue.dead]
 else if d.kind=4\/d.kind=5 then C6_ [Cx_ d.bind.Ak_,Cx_ d.bind.to',Cw_ (decide ((64:Int)<d.bind.key.length)) 5,Du_ d.bind.want]
 else if d.kind=6\/d.kind=10 then Eg_ d.O_
 else if d.kind=9\/d.kind=11 then 0
 else if d.kind=12 then Cw_ (decide ((64:Int)<d.text.length)) 5
 else C6_ [Cx_ d.name,Cw_ (decide (2<d.how)) 7]
theorem Rk_ {b:Bool} {e:Int} (he:e≠0) (h:Cw_ b e=0):b=false:=by
 cases b with
 |false=>rfl
 |true=>exact absurd h he
theorem Dm_ {a:Int} {l:List Int} (h:C6_ (a::l)=0):a=0/\C6_ l=0:=by
 unfold C6_ at h
 split at h
 . rename_i q;exact absurd h q
 . rename_i q;exact⟨by omega,h⟩
theorem maybeE_ok {s:Bs} (h:L6_ s=0):s.length<=16:=by
 unfold L6_ at h
 split at h
 . rename_i q;subst q;simp
 exact Ij_ h
theorem Ug_ {b:Bool} {e:Int} (h:0<=e/\e<=15):0<=Cw_ b e/\Cw_ b e<=15:=by
 unfold Cw_;split<;>omega
theorem Y1_ (d:Aa_):0<=De_ d/\De_ d<=15:=by
 have hb:∀ b,0<=Cw_ b 8/\Cw_ b 8<=15:=λb=>Ug_ pB;have hb5:∀ b,0<=Cw_ b 5/\Cw_ b 5<=15:=λb=>Ug_ pB;have hb7:∀ b,0<=Cw_ b 7/\Cw_ b 7<=15:=λb=>Ug_ pB;unfold De_
 repeat' split
 all_goals first
   |omega
   |exact Kg_ _
   |exact hb5 _
   | (refine Za_ _ λa ha=>?_
      simp only[List.mem_cons,List.not_mem_nil,or_false] at ha
      first
        |(rcases ha with rfl|rfl|rfl|rfl<;>first|exact No_ _|exact Og_ _|exact U8_ _|exact hb _|exact hb5 _|exact hb7 _)
        |(rcases ha with rfl|rfl|rfl<;>first|exact No_ _|exact Og_ _|exact U8_ _|exact hb _|exact hb5 _|exact hb7 _)
        |(rcases ha with rfl|rfl<;>first|exact No_ _|exact Og_ _|exact U8_ _|exact hb _|exact hb5 _|exact hb7 _))
theorem Oo_ {d:Aa_}:d=G8_ d↔(d.kind≠0->d.Ak_=⟨[],0,[]⟩)/\(d.kind≠2->d.queue=⟨[],0,0,[]⟩)/\(d.kind≠4->d.kind≠5->d.bind=⟨[],[],false,[],[],false⟩)/\(d.kind≠1->d.kind≠3->d.kind≠7->d.kind≠8->d.name=[])/\(d.kind≠8->d.id=0)/\(d.kind≠8->d.how=0)/\(d.kind≠10->d.frm=0)/\(d.kind≠10->d.number=0)/\(d.kind≠12->d.code=0)/\(d.kind≠12->d.text=[])/\(d.kind≠6->d.kind≠10->d.O_=⟨0,[],[],[],[],0,0⟩):=by
 rw[Aa_.eq_iff];simp only[G8_,Z_.zero,Ae_.zero,R_.zero,Mail.zero];constructor;rintro⟨_,_,h1,h2,h3,h4,h5,h6,h7,h8,h9,h10,h11⟩;refine⟨λk=>?_,λk=>?_,λk k'=>?_,λk k' q q'=>?_,λk=>?_,λk=>?_,λk=>?_,λk=>?_,λk=>?_,λk=>?_,λk k'=>?_⟩;rw[if_neg k] at h1;exact h1;rw[if_neg k] at h2;exact h2;rw[if_neg pB] at h3;exact h3;rw[if_neg pB] at h4;exact h4;rw[if_neg k] at h5;exact h5;rw[if_neg k] at h6;exact h6;rw[if_neg k] at h7;exact h7;rw[if_neg k] at h9;exact h9;rw[if_neg k] at h8;exact h8;rw[if_neg k] at h11;exact h11;rw[if_neg pB] at h10;exact h10;rintro⟨h1,h2,h3,h4,h5,h6,h7,h8,h9,h10,h11⟩;refine⟨trivial,trivial,?_,?_,?_,?_,?_,?_,?_,?_,?_,?_,?_⟩<;>split<;>first|rfl|(apply_assumption<;>omega)
theorem spare_t {p:Prop} [Decidable p] (h:¬p):true=!decide p:=by simp[h]
structure DeedOk (d:Aa_):Prop where
 told:d=G8_ d
 kind:d.kind<=12
 sname:d.Ak_.name.length<=16
 sto:d.Ak_.to'.length<=16
 ssort:d.Ak_.sort<=4
 qname:d.queue.name.length<=16
 qdead:d.queue.dead.length<=16
 bshop:d.bind.Ak_.length<=16
 bto:d.bind.to'.length<=16
 bkey:d.bind.key.length<=64
 bwant:Du_ d.bind.want=0
 name:d.name.length<=16
 how:d.how<=2
 mshop:d.O_.Ak_.length<=16
 mkey:d.O_.key.length<=64
 mhead:Du_ d.O_.head=0
 mbody:d.O_.body.length<=256
 mhops:d.O_.hops<=4
 text:d.text.length<=64
theorem Y0_ {d:Aa_} (hk:0<=d.kind) (h:De_ d=0):DeedOk d:=by
 unfold De_ at h;by_cases k:12<d.kind;rw[if_pos k] at h;exact absurd h pC;rw[if_neg k] at h;by_cases t:d=G8_ d
 case neg=>rw[if_pos t] at h;exact absurd h pC
 rw[if_neg (by simpa using t)] at h;have hc:d.kind=0\/d.kind=1\/d.kind=2\/d.kind=3\/d.kind=4\/d.kind=5\/d.kind=6\/d.kind=7\/d.kind=8\/d.kind=9\/d.kind=10\/d.kind=11\/d.kind=12:=by omega
 have e1:d.Ak_=(G8_ d).Ak_:=congrArg Aa_.Ak_ t;have e2:d.queue=(G8_ d).queue:=congrArg Aa_.queue t;have e3:d.bind=(G8_ d).bind:=congrArg Aa_.bind t;have e4:d.name=(G8_ d).name:=congrArg Aa_.name t;have e5:d.how=(G8_ d).how:=congrArg Aa_.how t;have e6:d.O_=(G8_ d).O_:=congrArg Aa_.O_ t;have e7:d.text=(G8_ d).text:=congrArg Aa_.text t;simp only[G8_] at e1 e2 e3 e4 e5 e6 e7;have zs:∀ {s:Z_},s = .zero->s.name.length<=16/\s.to'.length<=16/\s.sort<=4:=λe=>by subst e;decide
 have zq:∀ {s:Ae_},s = .zero->s.name.length<=16/\s.dead.length<=16:=λe=>by subst e;decide
 have zb:∀ {s:R_},s = .zero->s.Ak_.length<=16/\s.to'.length<=16/\s.key.length<=64/\Du_ s.want=0:=λe=>by subst e;decide
 have zm:∀ {s:Mail},s = .zero->s.Ak_.length<=16/\s.key.length<=64/\Du_ s.head=0/\s.body.length<=256/\s.hops<=4:=λe=>by subst e;decide
 have zn:∀ {s:Bs},s=[]->s.length<=16:=λe=>by subst e;decide
 have zt:∀ {s:Bs},s=[]->s.length<=64:=λe=>by subst e;decide
 have zh:∀ {s:Int},s=0->s<=2:=λe=>by subst e;decide
 have mk:(d.Ak_.name.length<=16/\d.Ak_.to'.length<=16/\d.Ak_.sort<=4)->(d.queue.name.length<=16/\d.queue.dead.length<=16)->(d.bind.Ak_.length<=16/\d.bind.to'.length<=16/\d.bind.key.length<=64/\Du_ d.bind.want=0)->d.name.length<=16->d.how<=2 ->
     (d.O_.Ak_.length<=16/\d.O_.key.length<=64/\Du_ d.O_.head=0/\d.O_.body.length<=256/\d.O_.hops<=4)->d.text.length<=64->DeedOk d:=
   λa b c e f g i=>⟨t,by omega,a.1,a.2.1,a.2.2,b.1,b.2,c.1,c.2.1,c.2.2.1,c.2.2.2,e,f,g.1,g.2.1,g.2.2.1,g.2.2.2.1,g.2.2.2.2,i⟩
 rcases hc with q|q|q|q|q|q|q|q|q|q|q|q|q<;>simp only[q] at e1 e2 e3 e4 e5 e6 e7 h<;>simp (config:={failIfUnchanged:=false}) at e1 e2 e3 e4 e5 e6 e7 h
 obtain⟨h1,h⟩:=Dm_ h;obtain⟨h2,h⟩:=Dm_ h;obtain⟨h3,h⟩:=Dm_ h;have :=Rk_ pC h2;exact mk ⟨Ij_ h1,maybeE_ok h3,by have :=of_decide_eq_false this;omega⟩ (zq e2) (zb e3) (zn e4) (zh e5) (zm e6) (zt e7);exact zH;obtain⟨h1,h⟩:=Dm_ h;exact mk (zs e1) ⟨Ij_ h1,maybeE_ok (Dm_ h).1⟩ (zb e3) (zn e4) (zh e5) (zm e6) (zt e7);exact zH;exact wL;exact wL;exact zI;exact zH;obtain⟨h1,h⟩:=Dm_ h;have :=of_decide_eq_false (Rk_ pC (Dm_ h).1);exact mk (zs e1) (zq e2) (zb e3) (Ij_ h1) pB (zm e6) (zt e7);exact zJ;exact zI;exact zJ;have :=of_decide_eq_false (Rk_ pC h);exact mk (zs e1) (zq e2) (zb e3) (zn e4) (zh e5) (zm e6) pB
def Iq_ (d:Aa_):Out:=
 if d.kind=0 then V_ (M_ (V_ (M_ (M_ ⟨[],0⟩ d.kind 1) d.tick 8) d.Ak_.name) d.Ak_.sort 1) d.Ak_.to'
 else if d.kind=2 then V_ (M_ (M_ (V_ (M_ (M_ ⟨[],0⟩ d.kind 1) d.tick 8) d.queue.name) d.queue.most 8) d.queue.life 8) d.queue.dead
 else if d.kind=4\/d.kind=5 then M_ (Dp_ (V_ (M_ (V_ (V_ (M_ (M_ ⟨[],0⟩ d.kind 1) d.tick 8) d.bind.Ak_) d.bind.to') (bitN d.bind.up) 1) d.bind.key) (Db_ d.bind.want)) (bitN d.bind.all) 1
 else if d.kind=6 then Dp_ (M_ (M_ ⟨[],0⟩ d.kind 1) d.tick 8) (Ez_ d.O_)
 else if d.kind=1\/d.kind=3\/d.kind=7 then V_ (M_ (M_ ⟨[],0⟩ d.kind 1) d.tick 8) d.name
 else if d.kind=8 then M_ (M_ (V_ (M_ (M_ ⟨[],0⟩ d.kind 1) d.tick 8) d.name) d.id 8) d.how 1
 else if d.kind=10 then Dp_ (M_ (M_ (M_ (M_ ⟨[],0⟩ d.kind 1) d.tick 8) d.frm 1) d.number 8) (Ez_ d.O_)
 else if d.kind=12 then V_ (M_ (M_ (M_ ⟨[],0⟩ d.kind 1) d.tick 8) d.code 1) d.text
 else M_ (M_ ⟨[],0⟩ d.kind 1) d.tick 8
def Ci_ (d:Aa_):Bs:=if De_ d=0 then (Iq_ d).s else []
def Zw_ (m:Mail):Bs:=numB 8 m.id.toNat++(txtB m.Ak_++(txtB m.key++(r9B m.head++(txtB m.body++(numB 8 m.due.toNat++numB 1 m.hops.toNat)))))
def deedB (d:Aa_):Bs:=
 numB 1 d.kind.toNat++(numB 8 d.tick.toNat++(
 if d.kind=0 then txtB d.Ak_.name++(numB 1 d.Ak_.sort.toNat++txtB d.Ak_.to')
 else if d.kind=2 then txtB d.queue.name++(numB 8 d.queue.most.toNat++(numB 8 d.queue.life.toNat++txtB d.queue.dead))
 else if d.kind=4\/d.kind=5 then txtB d.bind.Ak_++(txtB d.bind.to'++(numB 1 (bitN d.bind.up).toNat++(txtB d.bind.key++(r9B d.bind.want++numB 1 (bitN d.bind.all).toNat))))
 else if d.kind=6 then Zw_ d.O_
 else if d.kind=8 then txtB d.name++(numB 8 d.id.toNat++numB 1 d.how.toNat)
 else if d.kind=9\/d.kind=11 then []
 else if d.kind=10 then numB 1 d.frm.toNat++(numB 8 d.number.toNat++Zw_ d.O_)
 else if d.kind=12 then numB 1 d.code.toNat++txtB d.text
 else txtB d.name))
theorem Ih_ (m:Mail):(Ez_ m).length<=3000:=by
 unfold Ez_
 split
 . rename_i h
   obtain⟨h1,h2,h3,h4,_⟩:=Ii_ h
   have :=Hd_ m.head
   have a1:=B2_ ⟨[],0⟩ m.id 8
   have a2:=B9_ (M_ ⟨[],0⟩ m.id 8) m.Ak_
   have a3:=B9_ (V_ (M_ ⟨[],0⟩ m.id 8) m.Ak_) m.key
   have a4:=Jj_ (V_ (V_ (M_ ⟨[],0⟩ m.id 8) m.Ak_) m.key) (Db_ m.head)
   have a5:=B9_ (Dp_ (V_ (V_ (M_ ⟨[],0⟩ m.id 8) m.Ak_) m.key) (Db_ m.head)) m.body
   have a6:=B2_ (V_ (Dp_ (V_ (V_ (M_ ⟨[],0⟩ m.id 8) m.Ak_) m.key) (Db_ m.head)) m.body) m.due 8
   have a7:=B2_ (M_ (V_ (Dp_ (V_ (V_ (M_ ⟨[],0⟩ m.id 8) m.Ak_) m.key) (Db_ m.head)) m.body) m.due 8) m.hops 1
   simp only[Wb_,List.length_nil] at *
   omega
 simp
theorem Qn_ {h:List Pair} (e:Du_ h=0) (h0:∀ p∈h,0<=p.kind):Db_ h=r9B h:=by
 rw[headBytes_s e h0];rfl
theorem Qr_ {m:Mail} (h:Eg_ m=0) (h0:∀ p∈m.head,0<=p.kind):Ez_ m=Zw_ m:=by
 obtain⟨h1,h2,h3,h4,_⟩:=Ii_ h;have e1:∀ o,V_ o m.Ak_=⟨o.s++txtB m.Ak_,o.err⟩:=λo=>Dc_ pB;have e2:∀ o,V_ o m.key=⟨o.s++txtB m.key,o.err⟩:=λo=>Dc_ pB;have e3:∀ o,V_ o m.body=⟨o.s++txtB m.body,o.err⟩:=λo=>Dc_ pB;unfold Ez_;rw[if_pos h];simp only[Wb_,Zw_,e1,e2,e3,Dp_,Pe_,Z0_,Qn_ h3 h0,List.nil_append,List.append_assoc]
theorem deedBytes_s {d:Aa_} (hk:0<=d.kind) (h:De_ d=0) (hb:∀ p∈d.bind.want,0<=p.kind) (hm:∀ p∈d.O_.head,0<=p.kind):Ci_ d=deedB d:=by
 have ok:=Y0_ hk h;obtain⟨k1,k2,k3,k4,k5,k6,k7,k8,k9,k10,k11,k12,k13,k14,k15,k16,k17,k18,k19⟩:=ok;have e1:∀ o,V_ o d.Ak_.name=⟨o.s++txtB d.Ak_.name,o.err⟩:=λo=>Dc_ pB;have e2:∀ o,V_ o d.Ak_.to'=⟨o.s++txtB d.Ak_.to',o.err⟩:=λo=>Dc_ pB;have e3:∀ o,V_ o d.queue.name=⟨o.s++txtB d.queue.name,o.err⟩:=λo=>Dc_ pB;have e4:∀ o,V_ o d.queue.dead=⟨o.s++txtB d.queue.dead,o.err⟩:=λo=>Dc_ pB;have e5:∀ o,V_ o d.bind.Ak_=⟨o.s++txtB d.bind.Ak_,o.err⟩:=λo=>Dc_ pB;have e6:∀ o,V_ o d.bind.to'=⟨o.s++txtB d.bind.to',o.err⟩:=λo=>Dc_ pB;have e7:∀ o,V_ o d.bind.key=⟨o.s++txtB d.bind.key,o.err⟩:=λo=>Dc_ pB;have e8:∀ o,V_ o d.name=⟨o.s++txtB d.name,o.err⟩:=λo=>Dc_ pB;have e9:∀ o,V_ o d.text=⟨o.s++txtB d.text,o.err⟩:=λo=>Dc_ pB;have hmail:d.kind=6\/d.kind=10->Ez_ d.O_=Zw_ d.O_:=λq=>by
   refine Qr_ ?_ hm
   unfold De_ at h
   rw[if_neg pB,if_neg (λq=>q k1),if_neg pB,if_neg pB,if_neg pB,if_pos q] at h
   exact h
 have hc:d.kind=0\/d.kind=1\/d.kind=2\/d.kind=3\/d.kind=4\/d.kind=5\/d.kind=6\/d.kind=7\/d.kind=8\/d.kind=9\/d.kind=10\/d.kind=11\/d.kind=12:=by omega
 unfold Ci_;rw[if_pos h];unfold Iq_ deedB
 rcases hc with q|q|q|q|q|q|q|q|q|q|q|q|q<;>
   simp only[q,e1,e2,e3,e4,e5,e6,e7,e8,e9,Dp_,Pe_,Z0_,Qn_ k11 hb,List.nil_append,List.append_assoc]<;>simp (config:={failIfUnchanged:=false}) [hmail,q]
theorem r9B_le {h:List Pair} (e:Du_ h=0) (h0:∀ p∈h,0<=p.kind):(r9B h).length<=1000:=by
 rw[<- Qn_ e h0];exact Hd_ h
theorem mailB_len {m:Mail} (h:Eg_ m=0) (h0:∀ p∈m.head,0<=p.kind):(Zw_ m).length<=3000:=by
 rw[<- Qr_ h h0];exact Ih_ m
theorem Yz_ {d:Aa_} (hk:0<=d.kind):(Ci_ d).length<=5000:=by
 by_cases h:De_ d=0
 . have ok:=Y0_ hk h
   obtain⟨k1,k2,k3,k4,k5,k6,k7,k8,k9,k10,k11,k12,k13,k14,k15,k16,k17,k18,k19⟩:=ok
   have e1:∀ o,V_ o d.Ak_.name=⟨o.s++txtB d.Ak_.name,o.err⟩:=λo=>Dc_ pB
   have e2:∀ o,V_ o d.Ak_.to'=⟨o.s++txtB d.Ak_.to',o.err⟩:=λo=>Dc_ pB
   have e3:∀ o,V_ o d.queue.name=⟨o.s++txtB d.queue.name,o.err⟩:=λo=>Dc_ pB
   have e4:∀ o,V_ o d.queue.dead=⟨o.s++txtB d.queue.dead,o.err⟩:=λo=>Dc_ pB
   have e5:∀ o,V_ o d.bind.Ak_=⟨o.s++txtB d.bind.Ak_,o.err⟩:=λo=>Dc_ pB
   have e6:∀ o,V_ o d.bind.to'=⟨o.s++txtB d.bind.to',o.err⟩:=λo=>Dc_ pB
   have e7:∀ o,V_ o d.bind.key=⟨o.s++txtB d.bind.key,o.err⟩:=λo=>Dc_ pB
   have e8:∀ o,V_ o d.name=⟨o.s++txtB d.name,o.err⟩:=λo=>Dc_ pB
   have e9:∀ o,V_ o d.text=⟨o.s++txtB d.text,o.err⟩:=λo=>Dc_ pB
   have :=Hd_ d.bind.want
   have :=Ih_ d.O_
   unfold Ci_
   rw[if_pos h]
   unfold Iq_
   repeat' split
   all_goals
     simp only[e1,e2,e3,e4,e5,e6,e7,e8,e9,Dp_,Pe_,Z0_,List.length_append,A1_,Op_,List.length_nil]
     omega
 unfold Ci_;rw[if_neg h];simp
theorem U9_:∀ {l a:List Pair},Jf_ a l=0->∀ p∈l,∃ ah,Fj_ p ah=0
 |[],_,_,_,hp=>by cases hp
 |q::r,a,h,p,hp=>by
   unfold Jf_ at h
   split at h
   . contradiction
   . rename_i e
     rcases List.mem_cons.1 hp with rfl|hp
     . exact⟨a,by omega⟩
     . exact U9_ h p hp
theorem headE_each {h:List Pair} (e:Du_ h=0):∀ p∈h,∃ ah,Fj_ p ah=0:=by
 unfold Du_ at e
 split at e
 . cases e
 exact U9_ e
theorem Sx_ {h:List Pair} (e:Du_ h=0):Ym_ h:=by
 obtain⟨h1,h2⟩:=Oa_ e;refine⟨by omega,λp hp=>?_⟩;obtain⟨a,b,c⟩:=h2 p hp;obtain⟨ah,q⟩:=headE_each e p hp;obtain⟨_,_,q3⟩:=pairErr_fwd q;refine⟨by omega,?_⟩;by_cases k:p.kind=1;have :=c k;omega;rw[q3 k];simp
theorem bindE_r (b:R_):0<=C6_ [Cx_ b.Ak_,Cx_ b.to',Cw_ (decide ((64:Int)<b.key.length)) 5,Du_ b.want]/\C6_ [Cx_ b.Ak_,Cx_ b.to',Cw_ (decide ((64:Int)<b.key.length)) 5,Du_ b.want]<=15:=by
 refine Za_ _ λa ha=>?_;simp only[List.mem_cons,List.not_mem_nil,or_false] at ha
 rcases ha with rfl|rfl|rfl|rfl
 exact No_ _;exact No_ _;exact Ug_ pB;exact U8_ _
def Td_ (m:Mail):Bool:=decide ((m.Ak_.length:Int)<=40) && decide ((m.key.length:Int)<=100)&&Os_ m.head && decide ((m.body.length:Int)<=300)
theorem lightH_le {h:List Pair} (e:Os_ h=true):h.length<=12:=by
 simp only[Os_,Bool.and_eq_true,decide_eq_true_eq] at e;omega
theorem Vy_ (m:Mail) (e:Td_ m=true):m.Ak_.length<=40/\m.key.length<=100/\m.head.length<=12/\m.body.length<=300/\Os_ m.head=true:=by
 simp only[Td_,Bool.and_eq_true,decide_eq_true_eq] at e;have :=lightH_le e.1.2;exact⟨by omega,by omega,this,by omega,e.1.2⟩
def Rx_ (d:Aa_):Bool:=
 decide ((max (max (max (max (max (max (d.Ak_.name.length:Int) (d.Ak_.to'.length:Int)) (d.queue.name.length:Int)) (d.queue.dead.length:Int)) (d.bind.Ak_.length:Int)) (d.bind.to'.length:Int)) (d.name.length:Int))<=40) && decide ((max (d.bind.key.length:Int) (d.text.length:Int))<=100)&&Os_ d.bind.want&&Td_ d.O_
theorem X0_ (d:Aa_) (e:Rx_ d=true):d.bind.want.length<=12/\d.O_.head.length<=12/\d.name.length<=40/\Td_ d.O_=true:=by
 simp only[Rx_,Bool.and_eq_true,decide_eq_true_eq] at e;have h1:=lightH_le e.1.2;have h2:=Vy_ _ e.2;exact⟨h1,h2.2.2.1,by omega,e.2⟩
structure Ac_ where
 Ad_:List Z_
 binds:List R_
deriving DecidableEq
def Ac_.cells (x:Ac_) (a1:Option Addr) (c1:Nat) (a2:Option Addr) (c2:Nat):List Value:=[.slice a1 x.Ad_.length c1, .slice a2 x.binds.length c2]
def Ac_.wf (x:Ac_):Prop:=x.Ad_.length<=9223372036854775807/\x.binds.length<=9223372036854775807
def Ac_.zero:Ac_:=⟨[],[]⟩
def idxF {α:Type} (p:α->Bool):Nat->List α->Int
 |_,[]=>-1
 |k,x::r=>if p x then k else idxF p (k+1) r
def idxP {α:Type} (p:α->Bool) (l:List α):Int:=idxF p 0 l
theorem Li_ {α:Type} {p:α->Bool} {l r:List α} {c:α} {k:Nat} (h:idxP p l=idxF p k (l.drop k)) (e:l.drop k=c::r) (hc:p c=false):idxP p l=idxF p (k+1) r:=by
 rw[h,e,idxF,hc];rfl
theorem Oc_ {α:Type} {p:α->Bool} {l r:List α} {c:α} {k:Nat} (h:idxP p l=idxF p k (l.drop k)) (e:l.drop k=c::r) (hc:p c=true):idxP p l=k:=by
 rw[h,e,idxF,hc];rfl
theorem Ob_ {α:Type} {p:α->Bool} {l:List α} {k:Nat} (h:idxP p l=idxF p k (l.drop k)) (hk:l.length<=k):idxP p l = -1:=by
 rw[h,List.drop_of_length_le hk];rfl
theorem idxF_r {α:Type} (p:α->Bool):∀ (l:List α) (k:Nat),idxF p k l = -1\/(k:Int)<=idxF p k l/\idxF p k l<k+l.length
 |[],k=> .inl Y
 |x::r,k=>by
   unfold idxF
   split
   . right;simp;omega
   . rcases idxF_r p r (k+1) with h|h
     . exact .inl h
     . right;exact sT
theorem idxP_r {α:Type} (p:α->Bool) (l:List α):-1<=idxP p l/\idxP p l<(l.length:Int)\/idxP p l = -1:=by
 have :=idxF_r p l 0;unfold idxP;omega
theorem idxF_any {α:Type} (p:α->Bool):∀ (l:List α) (k:Nat),(0<=idxF p k l)=(l.any p=true)
 |[],k=>by simp[idxF]
 |x::r,k=>by
   unfold idxF
   cases h:p x with
   |true=>simp[h]
   |false=>simp only[Bool.false_eq_true,if_false,List.any_cons,h,Bool.false_or];exact idxF_any p r (k+1)
theorem idxP_any {α:Type} (p:α->Bool) (l:List α):(0<=idxP p l)=(l.any p=true):=idxF_any p l 0
def D0_ (l:List Z_) (n:Bs):Option Z_:=l.find? λs=>decide (s.name=n)
theorem shopOf_hit {l r:List Z_} {c:Z_} {n:Bs} {k:Nat} (h:D0_ l n=D0_ (l.drop k) n) (e:l.drop k=c::r) (hc:c.name=n):D0_ l n=some c:=by
 rw[h,e];simp[D0_,hc]
theorem shopOf_miss {l r:List Z_} {c:Z_} {n:Bs} {k:Nat} (h:D0_ l n=D0_ (l.drop k) n) (e:l.drop k=c::r) (hc:¬c.name=n):D0_ l n=D0_ r n:=by
 rw[h,e];simp[D0_,hc]
def On_ (x:Z_):Int:=if Cx_ x.name≠0 then Cx_ x.name else if 4<x.sort then 8 else if x.sort=4 then Cx_ x.to' else if x.to'≠[] then 4 else 0
theorem shopE_r (x:Z_):0<=On_ x/\On_ x<=15:=by
 have :=No_ x.name;have :=No_ x.to';unfold On_;exact tS
def Hc_ (x:R_) (sort:Int):Rule:=⟨sort,x.key,x.want,x.all⟩
structure Rh_ where
 l:List Aa_
deriving DecidableEq
def Rh_.cells (x:Rh_) (a1:Option Addr) (c1:Nat):List Value:=[.slice a1 x.l.length c1]
def Rh_.wf (x:Rh_):Prop:=x.l.length<=9223372036854775807
def Rh_.zero:Rh_:=⟨[]⟩
def Feed.pc (x:Feed):List PV:=[.str x.rest, .int .i64 x.err]
instance :Inhabited Feed:=⟨⟨[],0⟩⟩
def Out.pc (x:Out):List PV:=[.str x.s, .int .i64 x.err]
instance :Inhabited Out:=⟨⟨[],0⟩⟩
def In.pc (x:In):List PV:=[.str x.s, .int .i64 x.err]
instance :Inhabited In:=⟨⟨[],0⟩⟩
def RIn.pc (x:RIn):List PV:=[.str x.s, .int .i64 x.pos, .int .i64 x.code]
instance :Inhabited RIn:=⟨⟨[],0,0⟩⟩
def Pair.pc (x:Pair):List PV:=[.str x.key, .int .u8 x.kind, .int .i64 x.num, .str x.text]
instance :Inhabited Pair:=⟨⟨[],0,0,[]⟩⟩
theorem Pair.pwf {x:Pair} (h:PV.wfs (Pair.pc x)):Pair.wf x:=by
 simp only[Pair.pc,PV.wfs,PV.wf] at h;simp only[Pair.wf];omega
def Frame.pc (x:Frame):List PV:=[.int .u8 x.channel, .int .u8 x.kind, .str x.body]
instance :Inhabited Frame:=⟨⟨0,0,[]⟩⟩
def Z_.pc (x:Z_):List PV:=[.str x.name, .int .u8 x.sort, .str x.to']
instance :Inhabited Z_:=⟨⟨[],0,[]⟩⟩
theorem Z_.pwf {x:Z_} (h:PV.wfs (Z_.pc x)):Z_.wf x:=by
 simp only[Z_.pc,PV.wfs,PV.wf] at h;simp only[Z_.wf];omega
def Ae_.pc (x:Ae_):List PV:=[.str x.name, .int .u64 x.most, .int .u64 x.life, .str x.dead]
instance :Inhabited Ae_:=⟨⟨[],0,0,[]⟩⟩
def R_.pc (x:R_):List PV:=[.str x.Ak_, .str x.to', .bool x.up, .str x.key, .sl Pair.pc x.want, .bool x.all]
instance :Inhabited R_:=⟨⟨[],[],false,[],[],false⟩⟩
theorem R_.pwf {x:R_} (h:PV.wfs (R_.pc x)):R_.wf x:=by
 simp only[R_.pc,PV.wfs,PV.wf] at h;simp only[R_.wf];omega
theorem R_.kd4 {x:R_} (h:PV.wfs (R_.pc x)):∀ p∈x.want,0<=p.kind:=λp hp=>by
 have q:=Pair.pwf (h.2.2.2.2.1.2 p hp)
 exact sU
def Rule.pc (x:Rule):List PV:=[.int .u8 x.sort, .str x.key, .sl Pair.pc x.want, .bool x.all]
instance :Inhabited Rule:=⟨⟨0,[],[],false⟩⟩
theorem Rule.pwf {x:Rule} (h:PV.wfs (Rule.pc x)):Rule.wf x:=by
 simp only[Rule.pc,PV.wfs,PV.wf] at h;simp only[Rule.wf];omega
theorem Rule.kd2 {x:Rule} (h:PV.wfs (Rule.pc x)):∀ p∈x.want,0<=p.kind:=λp hp=>by
 have q:=Pair.pwf (h.2.2.1.2 p hp)
 exact sU
def Mail.pc (x:Mail):List PV:=[.int .u64 x.id, .str x.Ak_, .str x.key, .sl Pair.pc x.head, .str x.body, .int .u64 x.due, .int .u8 x.hops]
instance :Inhabited Mail:=⟨⟨0,[],[],[],[],0,0⟩⟩
theorem Mail.pwf {x:Mail} (h:PV.wfs (Mail.pc x)):Mail.wf x:=by
 simp only[Mail.pc,PV.wfs,PV.wf] at h;simp only[Mail.wf];omega
theorem Mail.kd3 {x:Mail} (h:PV.wfs (Mail.pc x)):∀ p∈x.head,0<=p.kind:=λp hp=>by
 have q:=Pair.pwf (h.2.2.2.1.2 p hp)
 exact sU
def Reply.pc (x:Reply):List PV:=[.int .u8 x.channel, .int .u8 x.kind, .int .u64 x.n, .int .u64 x.m, .bool x.yes, .str x.name, .int .u64 x.O_.id, .str x.O_.Ak_, .str x.O_.key, .sl Pair.pc x.O_.head, .str x.O_.body, .int .u64 x.O_.due, .int .u8 x.O_.hops]
instance :Inhabited Reply:=⟨⟨0,0,0,0,false,[],⟨0,[],[],[],[],0,0⟩⟩⟩
def Method.pc (x:Method):List PV:=[.int .u8 x.channel, .int .u8 x.kind, .str x.name, .str x.other, .str x.key, .sl Pair.pc x.head, .str x.body, .int .u64 x.n, .int .u64 x.m, .bool x.yes]
instance :Inhabited Method:=⟨⟨0,0,[],[],[],[],[],0,0,false⟩⟩
def Aa_.pc (x:Aa_):List PV:=[.int .u8 x.kind, .int .u64 x.tick, .str x.Ak_.name, .int .u8 x.Ak_.sort, .str x.Ak_.to', .str x.queue.name, .int .u64 x.queue.most, .int .u64 x.queue.life, .str x.queue.dead, .str x.bind.Ak_, .str x.bind.to', .bool x.bind.up, .str x.bind.key, .sl Pair.pc x.bind.want, .bool x.bind.all, .str x.name, .int .u64 x.id, .int .u8 x.how, .int .u8 x.frm, .int .u8 x.code, .int .u64 x.number, .int .u64 x.O_.id, .str x.O_.Ak_, .str x.O_.key, .sl Pair.pc x.O_.head, .str x.O_.body, .int .u64 x.O_.due, .int .u8 x.O_.hops, .str x.text]
instance :Inhabited Aa_:=⟨⟨0,0,⟨[],0,[]⟩,⟨[],0,0,[]⟩,⟨[],[],false,[],[],false⟩,[],0,0,0,0,0,⟨0,[],[],[],[],0,0⟩,[]⟩⟩
theorem Aa_.pwf {x:Aa_} (h:PV.wfs (Aa_.pc x)):Aa_.wf x:=by
 simp only[Aa_.pc,PV.wfs,PV.wf] at h;simp only[Aa_.wf,Z_.wf,Ae_.wf,R_.wf,Mail.wf];omega
theorem Aa_.kd13 {x:Aa_} (h:PV.wfs (Aa_.pc x)):∀ p∈x.bind.want,0<=p.kind:=λp hp=>by
 have q:=Pair.pwf (h.2.2.2.2.2.2.2.2.2.2.2.2.2.1.2 p hp)
 exact sU
theorem Aa_.kd24 {x:Aa_} (h:PV.wfs (Aa_.pc x)):∀ p∈x.O_.head,0<=p.kind:=λp hp=>by
 have q:=Pair.pwf (h.2.2.2.2.2.2.2.2.2.2.2.2.2.2.2.2.2.2.2.2.2.2.2.2.1.2 p hp)
 exact sU
def Ac_.pc (x:Ac_):List PV:=[.sl Z_.pc x.Ad_, .sl R_.pc x.binds]
instance :Inhabited Ac_:=⟨⟨[],[]⟩⟩
def Rh_.pc (x:Rh_):List PV:=[.sl Aa_.pc x.l]
instance :Inhabited Rh_:=⟨⟨[]⟩⟩
end Go.SW
