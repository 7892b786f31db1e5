/-
  A part of the proof of PurgeComes: Runs of quiet steps: one computation, proved once. Over any program that the table fits; it asks what it
-/
import Derived.Test.YtlemlalknchmcaaGreatDoorPurgeComesP1
import Derived.Lib.SplitLaws
import Derived.Lib.IndexAny
import Derived.ProofKit
import Derived.OpenShut
import Derived.Deep.Slices
import Derived.Carry
import Derived.Lib.LaidTab
import Derived.SizedLaws
import Derived.KernelRfl
import Derived.Lib.ItoaLen
import Derived.Lib.Join
import Derived.Below
import Derived.Laws.AppendOwn
import Derived.Lib.FieldsP
import Derived.Lib.ParseIntB
import Derived.Lib.SmallJoins
import Derived.MapKept
import Derived.ChangeKeysEq
set_option linter.unusedVariables false
set_option linter.unusedSimpArgs false
set_option maxRecDepth 100000
set_option maxHeartbeats 4000000
namespace Go.SW
variable {P:Program} {n:Nat} {N:Rest} {H0:Env}
def frc0 {α:Type _} (v:PV) (c:PV->α):α:=
 match v with
 | .int k z=>c (.int k z)
 | .bool b=>c (.bool b)
 | .str s=>c (.str s)
 | .agg cs=>c (.agg cs)
 | .sl e x=>c (.sl e x)
 | .own i b o=>c (.own i b o)
 | .osl i=>c (.osl i)
 | .el r o=>c (.el r o)
 | .fn f a b=>c (.fn f a b)
 | .tup vs=>c (.tup vs)
 | .gv g v=>c (.gv g v)
 | .val v=>c (.val v)
 | .usl v=>c (.usl v)
 | .junk=>c .junk
theorem Lj_ {α:Type _} (v:PV) (c:PV->α):frc0 v c=c v:=by cases v<;>rfl
def frcL {α:Type _}:List PV->(List PV->α)->α
 |[],c=>c []
 |p::r,c=>frc0 p λp=>frcL r λr=>c (p::r)
theorem G9_ {α:Type _}:∀ (l:List PV) (c:List PV->α),frcL l c=c l
 |[],c=>rfl
 |p::r,c=>by simp only[frcL,Lj_,G9_ r]
def frc {α:Type _} (v:PV) (c:PV->α):α:=
 match v with
 | .agg cs=>frcL cs λcs=>c (.agg cs)
 | .gv g v=>match v with
   | .agg cs=>frcL cs λcs=>c (.gv g (.agg cs))
   |v=>frc0 v λv=>c (.gv g v)
 |v=>frc0 v c
theorem Ik_ {α:Type _} (v:PV) (c:PV->α):frc v c=c v:=by
 unfold frc;split<;>first|(simp only[G9_];done)|(split<;>simp only[G9_,Lj_];done)|simp only[Lj_]
def frcP {α:Type _}:List Prop->(List Prop->α)->α
 |[],c=>c []
 |p::r,c=>frcP r λr=>c (p::r)
theorem Ha_ {α:Type _}:∀ (l:List Prop) (c:List Prop->α),frcP l c=c l
 |[],c=>rfl
 |p::r,c=>by simp only[frcP,Ha_ r]
def frcN {α:Type _}:List Nat->(List Nat->α)->α
 |[],c=>c []
 |p::r,c=>frcN r λr=>c (p::r)
theorem Ja_ {α:Type _}:∀ (l:List Nat) (c:List Nat->α),frcN l c=c l
 |[],c=>rfl
 |p::r,c=>by simp only[frcN,Ja_ r]
inductive Cf where
 |code (c:Code)
 |ops (all rest:List Oper)
 |ex (e:Exit)
def Cf.holds (P:Program) (n:Nat) (N:Rest) (H0:Env) (Q:Qs):Cf->St->Prop
 | .code c,s=>Sw P n N H0 c Q s
 | .ops all rest,s=>So P n N H0 all rest Q s
 | .ex e,s=>Q e s
def Hd (P:Program) (n:Nat) (N:Rest) (H0:Env) (Q:Qs) (c:Cf) (ks:List Kt) (s:St):Prop:=Cf.holds P n N H0 (Kt.den P n N H0 ks Q) c s
structure RR where
 c:Cf
 ks:List Kt
 F:Nat->PV
 L:Nat->Blk
 ps:List Prop
 as0:List Nat
 bs:List Nat
def apP:List Prop->List Prop->List Prop
 |[],k=>k
 |p::r,k=>p::apP r k
theorem Em_:∀ {ps qs:List Prop},AllP (apP ps qs)->AllP ps/\AllP qs
 |[],_,h=>⟨trivial,h⟩
 |_::_,_,h=>⟨⟨h.1,(Em_ h.2).1⟩,(Em_ h.2).2⟩
theorem Ou_:∀ (l:List Prop),apP l []=l
 |[]=>rfl
 |p::r=>by simp only[apP,Ou_ r]
def addP {α:Type _} (ps qs:List Prop) (c:List Prop->α):α:=
 match qs with
 |[]=>c ps
 |q::r=>frcP (apP ps (q::r)) c
theorem Iz_ {α:Type _} (ps qs:List Prop) (c:List Prop->α):addP ps qs c=c (apP ps qs):=by
 unfold addP;split;rw[Ou_];rw[Ha_]
def vOp (tb:Tb) (s:St) (all:List Oper) (o:Oper):Option PR:=
 match o.guard with
 |none=>pop tb s.L s.F o.op
 |some (j,want)=>match nth all j with
   |some oj=>match oj.dst with
     |some dj=>match gC (s.F dj) want with
       |some g=>match Cy_ s.F (tsOf o.op) with
         |true=>pG1 tb s.L s.F o.op g
         |false=>none
       |none=>none
     |none=>none
   |none=>none
def run (tb:Tb) (n:Nat):Nat->Cf->List Kt->(Nat->PV)->(Nat->Blk)->List Prop->List Nat->List Nat->Option RR
 |0,c,ks,F,L,ps,as0,bs=>frcP ps λps=>frcN as0 λas0=>frcN bs λbs=>some ⟨c,ks,F,L,ps,as0,bs⟩
 |k+1,c,ks,F,L,ps,as0,bs=>
   match c with
   | .code c=>match c with
     | .seq a b=>run tb n k (.code a) (.seq b::ks) F L ps as0 bs
     | .skip=>run tb n k (.ex .normal) ks F L ps as0 bs
     | .label _=>run tb n k (.ex .normal) ks F L ps as0 bs
     | .block id b=>run tb n k (.code b) (.blk id::ks) F L ps as0 bs
     | .scope b=>run tb n k (.code b) (.sc::ks) F L ps as0 bs
     | .exit i=>run tb n k (.ex (.exit i)) ks F L ps as0 bs
     | .ret=>run tb n k (.ex .ret) ks F L ps as0 bs
     | .region _ ops draw=>match draw with
       |false=>run tb n k (.ops ops.toList ops.toList) ks F L ps as0 bs
       |true=>none
     | .cond c a b=>match evP F c with
       | .bool p=>match p with
         |true=>run tb n k (.code a) ks F L ps as0 bs
         |false=>run tb n k (.code b) ks F L ps as0 bs
       |_=>none
     |_=>none
   | .ops all rest=>match rest with
     |[]=>run tb n k (.ex .normal) ks F L ps as0 bs
     |o::rest=>match o.dst with
       |some d=>match Nat.blt d n with
         |true=>match vOp tb ⟨F,L⟩ all o with
           |some ⟨v0,ps0,lk0⟩=>match lk0 with
             |none=>addP ps ps0 λps=>frc v0 λv=>run tb n k (.ops all rest) ks (updp F d v) L ps as0 bs
             |some (_,a,b)=>addP ps ps0 λps=>frc v0 λv=>run tb n k (.ops all rest) ks (updp F d v) L ps (a::as0) (b::bs)
           |none=>none
         |false=>none
       |none=>none
   | .ex e=>match ks with
     |[]=>none
     | .seq y::ks=>match e with
       | .normal=>run tb n k (.code y) ks F L ps as0 bs
       |e=>run tb n k (.ex e) ks F L ps as0 bs
     | .blk id::ks=>match e with
       | .exit i=>match Nat.beq i id with
         |true=>run tb n k (.ex .normal) ks F L ps as0 bs
         |false=>run tb n k (.ex (.exit i)) ks F L ps as0 bs
       |e=>run tb n k (.ex e) ks F L ps as0 bs
     | .sc::ks=>match e with
       | .goto _=>none
       |e=>run tb n k (.ex e) ks F L ps as0 bs
     | .lp _::ks=>match e with
       | .normal=>none
       |e=>run tb n k (.ex e) ks F L ps as0 bs
theorem Kk_ {c b want:Bool}:(c&&(b==want))=(c&&gOf b want):=by cases b<;>cases want<;>rfl
theorem gqn {F:Fr} {H:Hp} {L:Ls} {ops rest:List Oper} {op:Op} {ty d j:Nat} {pos:String} {af:Array Edge} {Q:Qt} {want c b:Bool} {v:Value} (hy:yF ops F j=some (gv c (.bool b))) (hd:Nat.blt d n=true) (h:(c&&gOf b want)=true->Lo P N op ty F H L v)
   (k:Ow P n N ops rest Q (upd F d (gv (c&&gOf b want) v)) H L):Ow P n N ops (⟨some d,op,ty,pos,af,some (j,want)⟩::rest) Q F H L:=
 gq (c:=c) (b:=b) (v:=v) hy hd (λe=>h (Kk_ ▸ e)) (Kk_ (c:=c) (b:=b) (want:=want) ▸ k)
theorem T1_ {ops:List Oper} {F:Fr} {j d:Nat} {o:Oper} (h:nth ops j=some o) (hd:o.dst=some d):yF ops F j=some (F d):=by
 rw[Cz_] at h;simp[yF,h,hd]
theorem gC_ok {p:PV} {v:Value} {H:Hp} {want g:Bool} (hg:gC p want=some g) (h:Sim H p v):∃ c b,v=gv c (.bool b)/\g=(c&&gOf b want):=by
 unfold gC at hg
 split at hg
 . cases hg;exact⟨true,_,h.inv_bool,by simp⟩
 . rename_i c q
   split at hg
   . rename_i b
     cases hg
     rcases h.inv_gv with ⟨rfl,h1⟩|⟨rfl,h1⟩
     exact⟨true,b,h1.inv_bool,rfl⟩
     exact⟨false,b,h1,rfl⟩
   . cases hg
 . cases hg
theorem so_v {tb:Tb} {all rest:List Oper} {o:Oper} {d:Nat} {Q:Qs} {s:St} {r:PR} (ht:tbB P tb=true) (ho:o.dst=some d) (hd:Nat.blt d n=true) (h:vOp tb s all o=some r) (hp:AllP r.ps) (he:∀ x,r.lk=some x->x.2.1=x.2.2)
   (k:So P n N H0 all rest Q ⟨updp s.F d r.v,s.L⟩):So P n N H0 all (o::rest) Q s:=by
 obtain⟨d',op,ty,pos,af,g⟩:=o
 cases ho
 unfold vOp at h
 split at h
 . rename_i hg
   cases hg
   exact so_pop ht hd h hp he k
 . rename_i j want hg
   cases hg
   split at h
   . rename_i oj hj
     split at h
     . rename_i dj hdj
       split at h
       . rename_i g hgc
         split at h
         . rename_i hno
           unfold pG1 at h
           split at h
           . rename_i v0 ps0 lk0 hr0
             split at h
             . rename_i hnv
               cases h
               intro F H L ha
               obtain⟨c,b,hv,hge⟩:=gC_ok hgc (ha.f dj).sim
               have hy:yF all F j=some (gv c (.bool b)):=by rw[T1_ hj hdj,hv]
               obtain⟨hp1,hp2⟩:=Do_ hp
               cases hgv:(c&&gOf b want) with
               |false=>
                 refine gqn (v:=undef) hy hd (λe=>by rw[hgv] at e;cases e) (k _ _ _ (ha.put d ?_))
                 rw[hge,hgv]
                 exact Sim.gvf
               |true=>
                 have hgt:g=true:=hge.trans hgv
                 obtain⟨val,h1,h2⟩:=Ni_ (N:=N) (ty:=ty) ht (H1_ ha.f (λt ht c v e=>hp2 t ht c v e hgt) (Db_ hno)) ha.l hr0 (Hb_ hgt hp1) he
                 refine gqn (v:=val) hy hd (λ_=>h2 H L (.refl H) (λ_ _=>rfl)) (k _ _ _ (ha.put d ?_))
                 rw[hge,hgv]
                 exact Sim.gvt h1.sim
             . cases h
           . cases h
         . cases h
       . cases h
     . cases h
   . cases h
theorem den_seq {y:Code} {r:List Kt} {Q:Qs} {e:Exit} {s:St} (h:e = .normal->False) (x:Kt.den P n N H0 r Q e s):Kt.den P n N H0 (.seq y::r) Q e s:=by cases e<;>first|exact x|exact (h Y).elim
theorem den_lp {J:St->Prop} {r:List Kt} {Q:Qs} {e:Exit} {s:St} (h:e = .normal->False) (x:Kt.den P n N H0 r Q e s):Kt.den P n N H0 (.lp J::r) Q e s:=by cases e<;>first|exact x|exact (h Y).elim
theorem den_blk {id:Nat} {r:List Kt} {Q:Qs} {e:Exit} {s:St} (h:∀ i,e = .exit i->False) (x:Kt.den P n N H0 r Q e s):Kt.den P n N H0 (.blk id::r) Q e s:=by cases e<;>first|exact x|exact (h _ Y).elim
theorem den_sc {r:List Kt} {Q:Qs} {e:Exit} {s:St} (h:∀ i,e = .goto i->False) (x:Kt.den P n N H0 r Q e s):Kt.den P n N H0 (.sc::r) Q e s:=by cases e<;>first|exact x|exact (h _ Y).elim
theorem Rp_ {tb:Tb} (ht:tbB P tb=true) {Q:Qs}:∀ (k:Nat) (c:Cf) (ks:List Kt) (F:Nat->PV) (L:Nat->Blk) (ps:List Prop) (as0 bs:List Nat) (r:RR),run tb n k c ks F L ps as0 bs=some r->AllP r.ps->r.as0=r.bs->AllP ps/\as0=bs/\(Hd P n N H0 Q r.c r.ks ⟨r.F,r.L⟩->Hd P n N H0 Q c ks ⟨F,L⟩)
 |0,c,ks,F,L,ps,as0,bs,r,h,hp,he=>by
   simp only[run,Ha_,Ja_,Option.some.injEq] at h
   subst h
   exact⟨hp,he,id⟩
 |k+1,c,ks,F,L,ps,as0,bs,r,h,hp,he=>by
   have ih:=Rp_ ht (Q:=Q) k
   unfold run at h
   split at h
   . split at h
     . obtain⟨h1,h0,h2⟩:=ih _ _ _ _ _ _ _ _ h hp he;exact⟨h1,h0,λx=>sw_seq (h2 x)⟩
     . obtain⟨h1,h0,h2⟩:=ih _ _ _ _ _ _ _ _ h hp he;exact⟨h1,h0,λx=>sw_skip (h2 x)⟩
     . obtain⟨h1,h0,h2⟩:=ih _ _ _ _ _ _ _ _ h hp he;exact⟨h1,h0,λx=>Tw_ (h2 x)⟩
     . obtain⟨h1,h0,h2⟩:=ih _ _ _ _ _ _ _ _ h hp he;exact⟨h1,h0,λx=>Tv_ (h2 x)⟩
     . obtain⟨h1,h0,h2⟩:=ih _ _ _ _ _ _ _ _ h hp he;exact⟨h1,h0,λx=>Tx_ (h2 x)⟩
     . obtain⟨h1,h0,h2⟩:=ih _ _ _ _ _ _ _ _ h hp he;exact⟨h1,h0,λx=>sw_exit (h2 x)⟩
     . obtain⟨h1,h0,h2⟩:=ih _ _ _ _ _ _ _ _ h hp he;exact⟨h1,h0,λx=>sw_ret (h2 x)⟩
     . split at h
       . obtain⟨h1,h0,h2⟩:=ih _ _ _ _ _ _ _ _ h hp he;exact⟨h1,h0,λx=>Rw_ (h2 x)⟩
       . cases h
     . split at h
       . rename_i hc
         split at h
         . obtain⟨h1,h0,h2⟩:=ih _ _ _ _ _ _ _ _ h hp he;exact⟨h1,h0,λx=>L8_ hc (λ_=>h2 x) (λe=>by cases e)⟩
         . obtain⟨h1,h0,h2⟩:=ih _ _ _ _ _ _ _ _ h hp he;exact⟨h1,h0,λx=>L8_ hc (λe=>by cases e) (λ_=>h2 x)⟩
       . cases h
     . cases h
   . split at h
     . obtain⟨h1,h0,h2⟩:=ih _ _ _ _ _ _ _ _ h hp he;exact⟨h1,h0,λx=>so_nil (h2 x)⟩
     . split at h
       . rename_i d hd
         split at h
         . rename_i hb
           split at h
           . rename_i v0 ps0 lk0 hq
             split at h
             . rw[Iz_,Ik_] at h
               obtain⟨h1,h0,h2⟩:=ih _ _ _ _ _ _ _ _ h hp he
               obtain⟨h3,h4⟩:=Em_ h1
               exact⟨h3,h0,λx=>so_v ht hd hb hq h4 (λy hy=>by cases hy) (h2 x)⟩
             . rename_i i a b
               rw[Iz_,Ik_] at h
               obtain⟨h1,h0,h2⟩:=ih _ _ _ _ _ _ _ _ h hp he
               obtain⟨h3,h4⟩:=Em_ h1
               simp only[List.cons.injEq] at h0
               exact⟨h3,h0.2,λx=>so_v ht hd hb hq h4 (λy hy=>by cases hy;exact h0.1) (h2 x)⟩
           . cases h
         . cases h
       . cases h
   . split at h
     . cases h
     . split at h
       . obtain⟨h1,h0,h2⟩:=ih _ _ _ _ _ _ _ _ h hp he;exact⟨h1,h0,λx=>h2 x⟩
       . rename_i e1 hne
         obtain⟨h1,h0,h2⟩:=ih _ _ _ _ _ _ _ _ h hp he
         exact⟨h1,h0,λx=>den_seq hne (h2 x)⟩
     . split at h
       . split at h
         . exact yH
         . exact yH
       . rename_i e1 hne
         obtain⟨h1,h0,h2⟩:=ih _ _ _ _ _ _ _ _ h hp he
         exact⟨h1,h0,λx=>den_blk hne (h2 x)⟩
     . split at h
       . cases h
       . rename_i e1 hne
         obtain⟨h1,h0,h2⟩:=ih _ _ _ _ _ _ _ _ h hp he
         exact⟨h1,h0,λx=>den_sc hne (h2 x)⟩
     . split at h
       . cases h
       . rename_i e1 hne
         obtain⟨h1,h0,h2⟩:=ih _ _ _ _ _ _ _ _ h hp he
         exact⟨h1,h0,λx=>den_lp hne (h2 x)⟩
theorem go {tb:Tb} (ht:tbB P tb=true) (k:Nat) {Q:Qs} {c c':Cf} {ks ks':List Kt} {F F':Nat->PV} {L L':Nat->Blk} {ps:List Prop} {as0 bs:List Nat} (h:run tb n k c ks F L [] [] []=some ⟨c',ks',F',L',ps,as0,bs⟩) (he:as0=bs) (hp:AllP ps) (next :Hd P n N H0 Q c' ks' ⟨F',L'⟩):Hd P n N H0 Q c ks ⟨F,L⟩:=
 (Rp_ ht k c ks F L [] [] [] _ h hp he).2.2 next
end Go.SW
namespace Go.SW
variable {P:Program} {n:Nat} {N:Rest} {H0:Env}
def PLe (p q:PV):Prop:=∀ H v,Sim H p v->Sim H q v
theorem ple {p q:PV} (h:p=q):PLe p q:=λ_ _ x=>h ▸ x
structure Fn (P:Program) (G:Gb) (f:FuncId) (args:List PV) (res:PV):Prop where
 cb:Ac_ P f
 no:res.noOsl=true
 run:∀ (N:Rest) (H:Hp) (L:Ls) (w:World) (vs:List Value),G.p H->Sims H args vs->Mem N H L w->Calls P f vs.toArray w λe w'=>∃ v H',e = .returned v/\Sim H' res v/\HLe H H'/\Mem N H' L w'
theorem Fn.ph {G:Gb} {f:FuncId} {args:List PV} {res:PV} {H:Hp} {vs:List Value} (h:Fn P G f args res) (hg:G.p H) (hs:Sims H args vs):Ph P f vs.toArray H (λv H'=>Sim H' res v):=λN L w hm=>
 (h.run N H L w vs hg hs hm).mono λ_ _ ⟨v,H',h1,h2,h3,h4⟩=>⟨v,H',h1,h2,h3,h4⟩
theorem Fn.pr {G:Gb} {f:FuncId} {args:List PV} {res:PV} {H:Hp} {vs:List Value} (h:Fn P G f args res) (hf:res.flat=true) (hg:G.p H) (hs:Sims H args vs) {v:Value} {H1:Hp} (hv:Sim H1 res v):Pr P f vs.toArray H v:=λN L w hm=>
 (h.run N H L w vs hg hs hm).mono λ_ _ ⟨v',H',h1,h2,h3,h4⟩=>⟨by rw[h1,Sim.uniq hf h2 hv],h4.le h3⟩
def Tj_ (tb:Tb) (s:St):ResultVar->Option PR
 | .tmp t=>some (.q (s.F t))
 | .cell a T=>Td_ tb s.L T (s.F a)
def Jt_ (tb:Tb) (s:St):List ResultVar->Option (List PV×List Nat×List Nat)
 |[]=>some ([],[],[])
 |r::rs=>match Tj_ tb s r with
   |some x=>match Jt_ tb s rs with
     |some (ps,as0,bs)=>frc x.v λv=>match x.lk with
       |none=>some (v::ps,as0,bs)
       |some (_,a,b)=>some (v::ps,a::as0,b::bs)
     |none=>none
   |none=>none
def tupP:List PV->PV
 |[p]=>p
 |ps=> .tup ps
theorem rv_1 {tb:Tb} {s:St} {F:Fr} {H:Hp} {L:Ls} {r:ResultVar} {x:PR} (ht:tbB P tb=true) (ha:Abs H0 s F H L) (h:Tj_ tb s r=some x) (he:∀ y,x.lk=some y->y.2.1=y.2.2):∃ v,RV P N F H L r v/\Sim H x.v v:=by
 cases r with
 |tmp t=>simp only[Tj_,Option.some.injEq] at h;subst h;exact⟨F t,rv_t Y,(ha.f t).sim⟩
 |cell a T=>
   simp only[Tj_] at h
   obtain⟨v,h1,h2⟩:=Vi_ (P:=P) (N:=N) (ty:=0) (x:= .tmp a) ht ha.l (ha.f a) h he
   refine⟨v,λw tmps htm hm=>?_,h1.sim⟩
   have h3:=h2 H L (.refl H) (λ_ _=>rfl) none "" #[] none w hm
   simp only[rvS,htm a]
   simp only[execOp,ev,Instr.loadAt] at h3
   revert h3
   cases F a with
   |pointer q=>
     cases q with
     |some q=>
       simp[Instr.sureAddr,asAddr]
       intro h3
       cases hr:(loadVar T q).run P w with
       |ok x w'=>rw[hr] at h3;simp[Result.andThen] at h3;simp[h3]
       |halt x w'=>rw[hr] at h3;simp[Result.andThen] at h3
     |none=>intro h3;simp[Instr.sureAddr] at h3
   |_=>intro h3;simp[Instr.sureAddr] at h3
theorem L2_ {tb:Tb} {s:St} {F:Fr} {H:Hp} {L:Ls} (ht:tbB P tb=true) (ha:Abs H0 s F H L):∀ (rs:List ResultVar) (ps:List PV) (as0 bs:List Nat),Jt_ tb s rs=some (ps,as0,bs)->as0=bs ->
   ∃ vs:List Value,Sims H ps vs/\∀ (w:World) (tmps:Array Value),(∀ t,tmps.getD t undef=F t)->Mem N H L w->(rs.mapM (rvS tmps)).run P w = .ok vs w
 |[],ps,as0,bs,h,_=>by simp only[Jt_,Option.some.injEq,Prod.mk.injEq] at h;obtain⟨rfl,_⟩:=h;exact⟨[],Sims.nil,λw tmps _ _=>by simp⟩
 |r::rs,ps,as0,bs,h,he=>by
   simp only[Jt_] at h
   split at h
   . rename_i x hx
     split at h
     . rename_i ps' as' bs' hps
       rw[Ik_] at h
       split at h
       . rename_i hlk
         simp only[Option.some.injEq,Prod.mk.injEq] at h
         obtain⟨rfl,rfl,rfl⟩:=h
         obtain⟨vs,h1,h2⟩:=L2_ ht ha rs _ _ _ hps he
         obtain⟨v,h3,h4⟩:=rv_1 (N:=N) ht ha hx (λy hy=>by rw[hlk] at hy;cases hy)
         exact zM
       . rename_i i a b hlk
         simp only[Option.some.injEq,Prod.mk.injEq] at h
         obtain⟨rfl,rfl,rfl⟩:=h
         simp only[List.cons.injEq] at he
         obtain⟨vs,h1,h2⟩:=L2_ ht ha rs _ _ _ hps he.2
         obtain⟨v,h3,h4⟩:=rv_1 (N:=N) ht ha hx (λy hy=>by rw[hlk] at hy;cases hy;exact he.1)
         exact zM
     . cases h
   . cases h
def rtK (tb:Tb) (rs:List ResultVar) (res:PV):Qs:=λe s=>(e = .normal\/e = .ret)/\∃ ps as0 bs,Jt_ tb s rs=some (ps,as0,bs)/\as0=bs/\PLe (tupP ps) res
theorem rt {tb:Tb} {rs:List ResultVar} {res:PV} {s:St} {ps:List PV} {as0 bs:List Nat} (h:Jt_ tb s rs=some (ps,as0,bs)) (he:as0=bs) (hp:PLe (tupP ps) res):Hd P n N H0 (rtK tb rs res) (.ex .ret) [] s:=⟨.inr Y,ps,as0,bs,h,he,hp⟩
theorem rtK_res {tb:Tb} {fn:Func} {res:PV} {s:St} {F:Fr} {H:Hp} {L:Ls} {e:Exit} (ht:tbB P tb=true) (ha:Abs H0 s F H L) (h:rtK tb fn.results.toList res e s):(e = .normal\/e = .ret)/\∃ v,Res P N fn F H L v/\Sim H res v:=by
 obtain⟨he,ps,as0,bs,h1,h2,h3⟩:=h;refine⟨he,?_⟩;obtain⟨vs,h4,h5⟩:=L2_ (N:=N) ht ha _ _ _ _ h1 h2;have h6:∀ (w:World) (tmps:Array Value),(∀ t,tmps.getD t undef=F t)->Mem N H L w->(fn.results.mapM (rvS tmps)).run P w = .ok vs.toArray w:=λw tmps htm hm=>by
   rw[Array.mapM_eq_mapM_toList]
   simp[h5 w tmps htm hm]
 match ps,vs,h4,h6,h3 with
 |[p],[v],h4,h6,h3=>
   refine⟨v,λw tmps htm hm=>?_,h3 H v (h4.2 0 p v Y Y)⟩
   rw[B3_,Sem.run_bind,h6 w tmps htm hm]
   simp
 |[],vs,h4,h6,h3=>
   cases h4.inv_nil
   refine⟨.tuple #[],λw tmps htm hm=>?_,h3 H _ (Sim.toTup (vs:=[]) Sims.nil)⟩
   rw[B3_,Sem.run_bind,h6 w tmps htm hm]
   simp
 |p::q::r,vs,h4,h6,h3=>
   refine⟨.tuple vs.toArray,λw tmps htm hm=>?_,h3 H _ (Sim.toTup h4)⟩
   rw[B3_,Sem.run_bind,h6 w tmps htm hm]
   have :vs.length≠1:=by rw[h4.1];simp
   simp[this]
 |[p],[],h4,_,_=>exact absurd h4.1 xP
 |[p],_::_::_,h4,_,_=>exact absurd h4.1 xP
def Py_ (args:List PV):Nat->PV:=λt=>match nth args t with
 |some p=>p
 |none=> .junk
def A6_:List PV->Bool
 |[]=>true
 |p::r=>p.noOsl&&A6_ r
theorem Fz_:∀ {ps:List PV} {i:Nat} {p:PV},A6_ ps=true->ps[i]? = some p->p.noOsl=true
 |[],i,p,_,h=>by simp at h
 |q::r,0,p,h,hp=>by simp only[A6_,Bool.and_eq_true] at h;simp at hp;rw[<- hp];exact h.1
 |q::r,i+1,p,h,hp=>by simp only[A6_,Bool.and_eq_true] at h;exact Fz_ h.2 (by simpa using hp)
theorem Su_ {sL:Nat->Blk} {H:Hp} {args:List PV} {vs:List Value} (hs:Sims H args vs) (hn:A6_ args=true) (t:Nat):SimT sL H (Py_ args t) (Gf_ vs.toArray t):=by
 unfold Py_;rw[Cz_]
 cases h:args[t]? with
 |none=>exact Sim.junk
 |some p=>
   obtain⟨v,hv,hp⟩:=hs.get h
   refine Sim.simT ?_ (Fz_ hn h)
   simpa [Gf_,List.getD_eq_getElem?_getD,hv] using hp
theorem fn_cw {tb:Tb} {G:Gb} {m:Nat} {f:FuncId} {fn:Func} {c:Code} {args:List PV} {res:PV} (ht:tbB P tb=true) (hf:P.funcs[f]? = some fn) (hb:fn.body=some c) (hn:fn.ntmps=m) (hs:Nat.ble args.length m=true) (hcb:Ac_ P f) (hno:res.noOsl=true) (hna:A6_ args=true)
   (h:PV.wfs args->∀ N H,G.p H->Hd P m N ⟨H,G⟩ (rtK tb fn.results.toList res) (.code c) [] ⟨Py_ args,λ_=> .no⟩):Fn P G f args res:=by
 refine⟨hcb,hno,λN H L w vs hg hsim hm=>?_⟩;subst hn;have key:Ph P f vs.toArray H (λv H'=>Sim H' res v):=by
   refine Tf_ hf hb (by have :=Nat.le_of_ble_eq_true hs;simp[hsim.1];exact this) λN=>?_
   have h1:=h hsim.wf N H hg (Gf_ vs.toArray) H l0 ⟨.refl H,hg,λt=>Su_ hsim hna t,λi=>trivial⟩
   refine Ft_ (λe F' H' L' hq=>?_) h1
   obtain⟨s',ha',hq'⟩:=hq
   obtain⟨he,v,hr,hv⟩:=rtK_res (N:=N) ht ha' hq'
   rcases he with rfl|rfl
   . exact⟨v,hr,ha'.le,hv⟩
   . exact⟨v,hr,ha'.le,hv⟩
 exact (key N L w hm).mono λ_ _ ⟨v,H',h1,h2,h3,h4⟩=>⟨v,H',h1,h2,h3,h4⟩
theorem Uc_ {F:Fr} {x:Operand} {f:FuncId} {fs cap:List Value} {xs:Array Operand} {ats:Array TypeId} (hx:ev F x = .func (.func f) fs.toArray cap.toArray) (hc:Ac_ P f):En P (.call ⟨.value x,xs,ats⟩) F f (fs++evs F xs.toList++cap).toArray:=λty d pos af g w=>by
 have :=hc (fs++evs F xs.toList++cap).toArray w
 have e3:xs.map (ev F)=(evs F xs.toList).toArray:=by rw[<- Fv_];apply Array.ext';simp
 simp only[List.append_assoc] at this ⊢
 simp[execOp,resolve,Deferred.ofValue,hx,invoke,e3,this]
def argsP (G:Nat->PV) (x:Operand) (xs:List Operand):Option (FuncId×List PV):=
 match evP G x with
 | .fn f fs cap=>some (f,apL fs (apL (evPs G xs) cap))
 |_=>none
where apL:List PV->List PV->List PV
 |[],k=>k
 |p::r,k=>p::apL r k
theorem Ot_:∀ (a b:List PV),argsP.apL a b=a++b
 |[],b=>rfl
 |p::r,b=>by simp[argsP.apL,Ot_ r b]
theorem Fr_ {sL:Nat->Blk} {H:Hp} {F:Fr} {G:Nat->PV} {x:Operand} {xs:Array Operand} {ats:Array TypeId} {f:FuncId} {args:List PV} (hG:∀ t,SimT sL H (G t) (F t)) (h:argsP G x xs.toList=some (f,args)) (hc:Ac_ P f):∃ vs,Sims H args vs/\En P (.call ⟨.value x,xs,ats⟩) F f vs.toArray:=by
 unfold argsP at h
 split at h
 . rename_i f' fs cap he
   simp only[Option.some.injEq,Prod.mk.injEq] at h
   obtain⟨rfl,rfl⟩:=h
   have h1:=(A2_ hG x).sim
   rw[he] at h1
   obtain⟨vs,us,e,h2,h3⟩:=h1.inv_fn
   refine⟨vs++evs F xs.toList++us,?_,Uc_ e hc⟩
   rw[Ot_,Ot_,<- List.append_assoc]
   exact (h2.append (G7_ λy _=>A2_ hG y)).append h3
 . cases h
theorem call {all rest:List Oper} {Q:Qs} {ks:List Kt} {s:St} {f:FuncId} {args:List PV} {res:PV} {x:Operand} {xs:Array Operand} {ats:Array TypeId} {ty d:Nat} {pos:String} {af:Array Edge} (h:Fn P H0.g f args res) (ha:argsP s.F x xs.toList=some (f,args)) (hd:Nat.blt d n=true)
   (k:res.wf->Hd P n N H0 Q (.ops all rest) ks ⟨updp s.F d res,s.L⟩):Hd P n N H0 Q (.ops all (⟨some d, .call ⟨.value x,xs,ats⟩,ty,pos,af,none⟩::rest)) ks s:=by
 intro F H L hab;obtain⟨vs,h1,h2⟩:=Fr_ (ats:=ats) hab.f ha h.cb;refine ow1 (Qz_ (h.ph hab.g h1) h2 hd λv H' hv hl=>?_);exact k hv.wf _ _ _ ((hab.mono hl).put d (hv.simT h.no))
def gOp (s:St) (all:List Oper) (j:Nat) (want:Bool):Option Bool:=
 match nth all j with
 |some oj=>match oj.dst with
   |some dj=>gC (s.F dj) want
   |none=>none
 |none=>none
theorem Kh_ {s:St} {all:List Oper} {j:Nat} {want g:Bool} {F:Fr} {H:Hp} {L:Ls} (ha:Abs H0 s F H L) (h:gOp s all j want=some g):∃ c b,yF all F j=some (gv c (.bool b))/\g=(c&&gOf b want):=by
 unfold gOp at h
 split at h
 . rename_i oj hj
   split at h
   . rename_i dj hdj
     obtain⟨c,b,hv,hge⟩:=gC_ok h (ha.f dj).sim
     exact⟨c,b,by rw[T1_ hj hdj,hv],hge⟩
   . cases h
 . cases h
theorem ow_gd {F:Fr} {H:Hp} {L:Ls} {ops rest:List Oper} {op:Op} {ty j d:Nat} {pos:String} {af:Array Edge} {Q:Qt} {want c b:Bool} (hy:yF ops F j=some (gv c (.bool b))) (hd:Nat.blt d n=true)
   (ht:(c&&gOf b want)=true->Op1 P n N ops ⟨some d,op,ty,pos,af,none⟩ (λF H L=>Ow P n N ops rest Q F H L) F H L) (hf:(c&&gOf b want)=false->Ow P n N ops rest Q (upd F d undef) H L):Ow P n N ops (⟨some d,op,ty,pos,af,some (j,want)⟩::rest) Q F H L:=by
 cases c with
 |false=>
   refine ow1 λa w ha hm=>?_
   have :yielded ops.toArray a.tmps j=none:=Ge_ ha hy
   rw[if_neg (by simp[Region.wanted,this])]
   exact⟨_,_,_,ha.put xU undef,hm,hf Y⟩
 |true=>
   by_cases e:b=want
   . subst e
     exact ow1 (Nc_ hy Y (ht (by cases b<;>rfl)))
   . refine ow1 (Qw_ hy (b:=b) ?_ hd (hf ?_))
     . cases b<;>cases want<;>simp_all
     . cases b<;>cases want<;>simp_all [gOf]
theorem callg {all rest:List Oper} {Q:Qs} {ks:List Kt} {s:St} {f:FuncId} {args:List PV} {res:PV} {x:Operand} {xs:Array Operand} {ats:Array TypeId} {ty d j:Nat} {want g:Bool} {pos:String} {af:Array Edge} (hg:gOp s all j want=some g) (h:g=true->Fn P H0.g f args res) (ha:argsP (strG (Ew_ xs.toList) s.F) x xs.toList=some (f,args)) (hc:AllP (E2_ s.F g (Ew_ xs.toList) [])) (hno:Cy_ s.F (Ew_ xs.toList)=true) (hd:Nat.blt d n=true)
   (k:(g=true->res.wf)->Hd P n N H0 Q (.ops all rest) ks ⟨updp s.F d (.gv g res),s.L⟩):Hd P n N H0 Q (.ops all (⟨some d, .call ⟨.value x,xs,ats⟩,ty,pos,af,some (j,want)⟩::rest)) ks s:=by
 intro F H L hab;obtain⟨c,b,hy,hge⟩:=Kh_ hab hg;refine ow_gd hy hd (λe=>?_) (λe=>?_);have hgt:=hge.trans e;have hF:=h hgt;obtain⟨vs,h1,h2⟩:=Fr_ (ats:=ats) (H1_ hab.f (λt ht c v e=>(Do_ hc).2 t ht c v e hgt) (Db_ hno)) ha hF.cb;refine Qz_ (hF.ph hab.g h1) h2 hd λv H' hv hl=>?_;refine k (λ_=>hv.wf) _ _ _ ((hab.mono hl).put d ?_);rw[hgt];exact Sim.gvt hv;have hgf:=hge.trans e;refine k (λe=>by rw[hgf] at e;cases e) _ _ _ (hab.put d ?_)
 rw[hgf];exact Sim.gvf
end Go.SW
namespace Go.SW
variable {P:Program} {n:Nat} {N:Rest} {H0:Env}
theorem cnd {Q:Qs} {ks:List Kt} {s:St} {c:Operand} {x y:Code} {b:Bool} (hc:evP s.F c = .bool b) (ht:b=true->Hd P n N H0 Q (.code x) ks s) (hf:b=false->Hd P n N H0 Q (.code y) ks s):Hd P n N H0 Q (.code (.cond c x y)) ks s:=L8_ hc ht hf
def Junk (s s':St):Prop:=(∀ t,s'.F t=s.F t\/s'.F t = .junk)/\∀ i,s'.L i=s.L i\/s'.L i = .no
theorem Junk.le {s s':St} (h:Junk s s'):StLe s s':=λH0 F H L ha=>by
 refine⟨ha.le,ha.g,λt=>?_,λi=>?_⟩
 . rcases h.1 t with e|e
   . rw[e]
     have h1:=ha.f t
     generalize s.F t=p at *
     cases p with
     |osl i=>
       simp only[SimT] at h1 ⊢
       rcases h.2 i with e2|e2
       . rw[e2];exact h1
       . rw[e2];trivial
     |_=>exact h1
   . rw[e];exact Sim.junk
 . rcases h.2 i with e|e
   . rw[e]
     have h1:=ha.l i
     generalize s.L i=B at *
     cases B with
     |box b T cs=>
       obtain⟨vs,h2,h3,h4⟩:=h1
       refine⟨vs,h2,h3,λj p v hp hv=>?_⟩
       have h5:=h4 j p v hp hv
       cases p with
       |osl q=>
         simp only[SimT] at h5 ⊢
         rcases h.2 q with e2|e2
         . rw[e2];exact h5
         . rw[e2];trivial
       |_=>exact h5
     |no=>trivial
     |arr u k e enc xs=>exact h1
     |itr b s p=>exact h1
     |ob b o=>exact h1
   . rw[e];trivial
def lkF:List (Nat×PV)->Nat->Option PV
 |[],_=>none
 |(a,x)::r,t=>bif Nat.beq t a then some x else lkF r t
def mkF (lv:List (Nat×PV)) (keep:List Nat) (G:Nat->PV):Nat->PV:=λt=>match lkF lv t with
 |some p=>p
 |none=>bif memB keep t then G t else .junk
def lkL:List (Nat×Blk)->Nat->Option Blk
 |[],_=>none
 |(a,x)::r,t=>bif Nat.beq t a then some x else lkL r t
def mkL (lv:List (Nat×Blk)) (keep:List Nat) (G:Nat->Blk):Nat->Blk:=λt=>match lkL lv t with
 |some p=>p
 |none=>bif memB keep t then G t else .no
def AllF (F:Nat->PV):List (Nat×PV)->Prop
 |[]=>True
 |(t,p)::r=>F t=p/\AllF F r
def AllL (F:Nat->Blk):List (Nat×Blk)->Prop
 |[]=>True
 |(t,p)::r=>F t=p/\AllL F r
theorem Op_ {F:Nat->PV}:∀ {lv:List (Nat×PV)} {t:Nat} {p:PV},AllF F lv->lkF lv t=some p->F t=p
 |[],t,p,_,h=>by cases h
 |(a,x)::r,t,p,h,hl=>by
   simp only[lkF] at hl
   cases e:Nat.beq t a with
   |true=>rw[e] at hl;simp at hl;rw[Nat.eq_of_beq_eq_true e,<- hl];exact h.1
   |false=>rw[e] at hl;exact Op_ h.2 wE
theorem Oq_ {F:Nat->Blk}:∀ {lv:List (Nat×Blk)} {t:Nat} {p:Blk},AllL F lv->lkL lv t=some p->F t=p
 |[],t,p,_,h=>by cases h
 |(a,x)::r,t,p,h,hl=>by
   simp only[lkL] at hl
   cases e:Nat.beq t a with
   |true=>rw[e] at hl;simp at hl;rw[Nat.eq_of_beq_eq_true e,<- hl];exact h.1
   |false=>rw[e] at hl;exact Oq_ h.2 wE
theorem Lr_ {α:Type _} {F G:Nat->α}:∀ {l:List Nat},l.map F=l.map G->∀ t∈l,F t=G t
 |[],_,t,h=>by cases h
 |a::r,e,t,h=>by
   simp only[List.map_cons,List.cons.injEq] at e
   rcases List.mem_cons.1 h with rfl|q
   . exact e.1
   . exact Lr_ e.2 t q
theorem mk_le {s:St} {lv:List (Nat×PV)} {keep:List Nat} {G:Nat->PV} {lL:List (Nat×Blk)} {kL:List Nat} {GL:Nat->Blk} (h1:keep.map s.F=keep.map G) (h2:kL.map s.L=kL.map GL) (h3:AllF s.F lv) (h4:AllL s.L lL):StLe s ⟨mkF lv keep G,mkL lL kL GL⟩:=by
 refine Junk.le ⟨λt=>?_,λi=>?_⟩
 . simp only[mkF]
   cases e:lkF lv t with
   |some p=>exact .inl (Op_ h3 e).symm
   |none=>
     cases e2:memB keep t with
     |true=>exact .inl (Lr_ h1 t (Fi_ e2)).symm
     |false=>exact .inr Y
 . simp only[mkL]
   cases e:lkL lL i with
   |some p=>exact .inl (Oq_ h4 e).symm
   |none=>
     cases e2:memB kL i with
     |true=>exact .inl (Lr_ h2 i (Fi_ e2)).symm
     |false=>exact .inr Y
def LJ {ι:Type _} (S:ι->St) (Φ:ι->Prop) (μ:ι->Nat) (m:Nat):St->Prop:=λs=>∃ x,Φ x/\μ x<m/\StLe s (S x)
theorem sw_loop {ι:Type _} {c:Code} {ks:List Kt} {Q:Qs} {s:St} (S:ι->St) (Φ:ι->Prop) (μ:ι->Nat) (x0:ι) (h0:StLe s (S x0)) (hΦ:Φ x0) (body:∀ x,Φ x->Hd P n N H0 Q (.code c) (.lp (LJ S Φ μ (μ x))::ks) (S x)):Hd P n N H0 Q (.code (.loop c)) ks s:=by
 intro F H L ha;refine Lc_ (λk F H L=>∃ x,Φ x/\μ x=k/\Abs H0 (S x) F H L) (μ x0) ⟨x0,hΦ,rfl,h0 _ _ _ _ ha⟩ λk F H L hI=>?_;obtain⟨x,hx,rfl,hax⟩:=hI;refine Ft_ (λe F' H' L' hq=>?_) (body x hx F H L hax);obtain⟨s',ha',hq'⟩:=hq
 cases e with
 |normal=>
   obtain⟨x',h1,h2,h3⟩:=hq'
   exact⟨μ x',h2,x',h1,rfl,h3 _ _ _ _ ha'⟩
 |_=>exact⟨s',ha',hq'⟩
theorem loop {ι:Type _} {c:Code} {ks:List Kt} {Q:Qs} {s:St} (keep kL:List Nat) (lv:ι->List (Nat×PV)) (lL:ι->List (Nat×Blk)) (Φ:ι->Prop) (μ:ι->Nat) (x0:ι) (h1:AllF s.F (lv x0)) (h2:AllL s.L (lL x0)) (hΦ:Φ x0) (body:∀ x,Φ x->Hd P n N H0 Q (.code c) (.lp (LJ (λx=>⟨mkF (lv x) keep s.F,mkL (lL x) kL s.L⟩) Φ μ (μ x))::ks) ⟨mkF (lv x) keep s.F,mkL (lL x) kL s.L⟩):Hd P n N H0 Q (.code (.loop c)) ks s:=
 sw_loop (λx=>⟨mkF (lv x) keep s.F,mkL (lL x) kL s.L⟩) Φ μ x0 (mk_le Y Y h1 h2) hΦ body
theorem next {ι:Type _} {keep kL:List Nat} {G:Nat->PV} {GL:Nat->Blk} {lv:ι->List (Nat×PV)} {lL:ι->List (Nat×Blk)} {Φ:ι->Prop} {μ:ι->Nat} {m:Nat} {s:St} {ks:List Kt} {Q:Qs} (x':ι) (h1:keep.map s.F=keep.map G) (h2:kL.map s.L=kL.map GL) (h3:AllF s.F (lv x')) (h4:AllL s.L (lL x')) (hm:μ x'<m) (hΦ:Φ x'):Hd P n N H0 Q (.ex .normal) (.lp (LJ (λx=>⟨mkF (lv x) keep G,mkL (lL x) kL GL⟩) Φ μ m)::ks) s:=
 ⟨x',hΦ,hm,mk_le h1 h2 h3 h4⟩
theorem Rr_ {L:Nat->Blk} {H:Hp} {i:Nat} {B:Blk} {p:PV} {v:Value} (h:SimT L H p v) (hi:p ≠ .osl i):SimT (lups L i B) H p v:=by
 cases p with
 |osl j=>
   have :j≠i:=λe=>hi (by rw[e])
   simp only[SimT,Ds_ _ _ _ _ this] at h ⊢
   exact h
 |_=>exact h
def purge (i:Nat):PV->PV
 | .osl j=>bif Nat.beq j i then .junk else .osl j
 |p=>p
theorem Nj_ {L:Nat->Blk} {H:Hp} {i:Nat} {B:Blk} {p:PV} {v:Value} (h:SimT L H p v):SimT (lups L i B) H (purge i p) v:=by
 cases p with
 |osl j=>
   simp only[purge]
   cases e:Nat.beq j i with
   |true=>exact Sim.junk
   |false=>exact Rr_ h (λq=>by cases q;simp at e)
 |_=>exact h
def purgeB (i:Nat):Blk->Blk
 | .box b T cs=> .box b T (cs.map (purge i))
 |B=>B
theorem Kx_ {L:Nat->Blk} {H:Hp} {i:Nat} {B:Blk} {ps:List PV} {vs:List Value} (h:SimTs L H ps vs):SimTs (lups L i B) H (ps.map (purge i)) vs:=by
 refine⟨by simp[h.1],λj p v hp hv=>?_⟩;rw[List.getElem?_map] at hp
 cases e:ps[j]? with
 |none=>rw[e] at hp;cases hp
 |some q=>rw[e] at hp;cases hp;exact Nj_ (h.2 j q v e hv)
def F8_ (i:Nat) (F:Nat->PV):Nat->PV:=λt=>purge i (F t)
def Df_ (i:Nat) (L:Nat->Blk):Nat->Blk:=λt=>purgeB i (L t)
theorem Abs.turn {s:St} {F:Fr} {H:Hp} {L:Ls} (ha:Abs H0 s F H L) (i:Nat) {B:Blk} {x:Option (Nat×Obj)} (hx:SimB (lups (Df_ i s.L) i B) H B x):Abs H0 ⟨F8_ i s.F,lups (Df_ i s.L) i B⟩ F H (lupd L i x):=by
 have hshape:∀ {q p v},SimT (lups s.L i q) H p v->SimT (lups (Df_ i s.L) i q) H p v:=λ{q p v} h=>by
   cases p with
   |osl j=>
     by_cases e:j=i
     . subst e;simp only[SimT,Bu_] at h ⊢;exact h
     . simp only[SimT,Ds_ _ _ _ _ e,Df_] at h ⊢
       generalize s.L j=C at *
       cases C<;>exact h
   |_=>exact h
 refine⟨ha.le,ha.g,λt=>hshape (Nj_ (ha.f t)),λj=>?_⟩;by_cases e:j=i;subst e;simp only[Bu_,F_];exact hx
 . simp only[Ds_ _ _ _ _ e,E_ _ _ _ _ e,Df_]
   have h1:=ha.l j
   generalize s.L j=C at *
   cases C with
   |box b T cs=>
     obtain⟨vs,h2,h3⟩:=h1
     exact⟨vs,h2,(Kx_ (B:=B) h3).1,λa p v hp hv=>hshape ((Kx_ (B:=B) h3).2 a p v hp hv)⟩
   |no=>trivial
   |arr u k e enc xs=>exact h1
   |itr b s p=>exact h1
   |ob b o=>exact h1
theorem Abs.turnB {s:St} {F:Fr} {H:Hp} {L:Ls} (ha:Abs H0 s F H L) (i:Nat) {B:Blk} {x:Option (Nat×Obj)} (hB:match B with| .arr _ _ _ _ _=>False|_=>True) (hx:SimB (lups s.L i B) H B x):Abs H0 ⟨s.F,lups s.L i B⟩ F H (lupd L i x):=by
 have hshape:∀ {p v},SimT s.L H p v->SimT (lups s.L i B) H p v:=λ{p v} h=>by
   cases p with
   |osl j=>
     by_cases e:j=i
     . subst e;simp only[SimT,Bu_];cases B<;>first|trivial|exact hB.elim
     . simp only[SimT,Ds_ _ _ _ _ e] at h ⊢;exact h
   |_=>exact h
 refine⟨ha.le,ha.g,λt=>hshape (ha.f t),λj=>?_⟩;by_cases e:j=i;subst e;simp only[Bu_,F_];exact hx
 . simp only[Ds_ _ _ _ _ e,E_ _ _ _ _ e]
   have h1:=ha.l j
   generalize s.L j=C at *
   cases C with
   |box b T cs=>obtain⟨vs,h2,h3,h4⟩:=h1;exact⟨vs,h2,h3,λa p v hp hv=>hshape (h4 a p v hp hv)⟩
   |no=>trivial
   |arr u k e enc xs=>exact h1
   |itr b s p=>exact h1
   |ob b o=>exact h1
variable {all rest:List Oper} {Q:Qs} {ks:List Kt} {s:St} {T ty d:Nat} {pos:String} {af:Array Edge} {x y z:Operand} {K:St->Prop}
def E1 (P:Program) (n:Nat) (N:Rest) (H0:Env) (all:List Oper) (o:Oper) (j:Option Nat) (s:St) (K:St->Prop):Prop:=
 ∀ F H L,Abs H0 s F H L->Op1 P n N all o (λF' H' L'=>HLe H H'/\(∀ i,j≠some i->L' i=L i)/\∃ s',Abs H0 s' F' H' L'/\K s') F H L
theorem Op1.imp {o:Oper} {K K':Fr->Hp->Ls->Prop} {F:Fr} {H:Hp} {L:Ls} (h:Op1 P n N all o K F H L) (hk:∀ F H L,K F H L->K' F H L):Op1 P n N all o K' F H L:=λa w ha hm=>by
 have :=h a w ha hm
 split
 . rename_i hw
   rw[if_pos hw] at this
   exact Eu_ (λa' w' ⟨F',H',L',x,y,z⟩=>⟨F',H',L',x,y,hk _ _ _ z⟩) (λ_ _ _ x=>x) this
 . rename_i hw
   rw[if_neg hw] at this
   obtain⟨F',H',L',x,y,z⟩:=this
   exact⟨F',H',L',x,y,hk _ _ _ z⟩
theorem ef {o:Oper} {j:Option Nat} (h:E1 P n N H0 all o j s (λs'=>Hd P n N H0 Q (.ops all rest) ks s')):Hd P n N H0 Q (.ops all (o::rest)) ks s:=λF H L ha=>
 ow1 ((h F H L ha).imp λF' H' L' ⟨_,_,s',h1,h2⟩=>h2 F' H' L' h1)
theorem only {L:Ls} {j:Nat} {x:Option (Nat×Obj)}:∀ i,some j≠some i->lupd L j x i=L i:=λi h=>E_ _ _ _ _ λe=>h (by rw[e])
theorem Es_ {L:Nat->Blk} {H:Hp} {ps:List PV} {vs:List Value} (h:Sims H ps vs) (hn:A6_ ps=true):SimTs L H ps vs:=⟨h.1,λi p v hp hv=>(h.2 i p v hp hv).simT (Fz_ hn hp)⟩
theorem boxA (i:Nat) {cs:List PV} (hx:evP s.F x = .agg cs) (hn:A6_ cs=true) (hd:Nat.blt d n=true) (k:∀ b,K ⟨updp s.F d (.own i b 0),lups s.L i (.box b T cs)⟩):E1 P n N H0 all ⟨some d, .box T x,ty,pos,af,none⟩ (some i) s K:=by
 intro F H L ha;have h1:=(A2_ ha.f x).sim;rw[hx] at h1;obtain⟨vs,e,h2⟩:=h1.inv_agg;exact Qv_ i hd e λb=>⟨.refl H,only,_,(ha.turnB (B:= .box b T cs) i Z ⟨vs,rfl,Es_ h2 hn⟩).put (p:= .own i b 0) d Sim.own,k b⟩
theorem Qs_ {v:Value} (h:v.oneCell'=true):v.cells = #[v]:=by cases v<;>first|rfl|(simp[Value.oneCell'] at h)
def evS (p:PV):Option PV:=frc p some
theorem Ud_ {p q:PV} (h:evS p=some q):p=q:=by simp only[evS,Ik_,Option.some.injEq] at h;exact h
def evL (l:List PV):Option (List PV):=frcL l some
theorem Ms_ {l m:List PV} (h:evL l=some m):l=m:=by simp only[evL,G9_,Option.some.injEq] at h;exact h
theorem box1 (i:Nat) {p:PV} (hx:evS (evP s.F x)=some p) (ho:p.one=true) (hd:Nat.blt d n=true) (k:∀ b,K ⟨updp s.F d (.own i b 0),lups s.L i (.box b T [p])⟩):E1 P n N H0 all ⟨some d, .box T x,ty,pos,af,none⟩ (some i) s K:=by
 intro F H L ha;have hx:=Ud_ hx;have h1:=(A2_ ha.f x).sim;rw[hx] at h1;have hno:p.noOsl=true:=by cases p<;>first|rfl|(simp[PV.one] at ho)
 exact S8_ i hd Y (Qs_ (h1.one ho)) λb=>⟨.refl H,only,_,(ha.turnB (B:= .box b T [p]) i Z ⟨[ev F x],rfl,Es_ (Sims.nil.cons h1) (by simp[A6_,hno])⟩).put (p:= .own i b 0) d Sim.own,k b⟩
theorem alloc {tb:Tb} {ti:TI} {zs:List PV} (ht:tbB P tb=true) (i:Nat) (hti:lkT tb T=some ti) (hz:evL ti.zero=some zs) (hn:A6_ zs=true) (hd:Nat.blt d n=true) (k:∀ b,K ⟨updp s.F d (.own i b 0),lups s.L i (.box b T zs)⟩):E1 P n N H0 all ⟨some d, .alloc T,ty,pos,af,none⟩ (some i) s K:=by
 intro F H L ha;have hz:=Ms_ hz;subst hz;obtain⟨zv,hz,hs⟩:=(Bn_ ht hti).zero;exact Ec_ i hd (cs:=zv.cells.toList) (λw=>⟨zv,hz w,by simp⟩) λb=>⟨.refl H,only,_,(ha.turnB (B:= .box b T ti.zero) i trivial ⟨_,rfl,Es_ (hs H) hn⟩).put (p:= .own i b 0) d Sim.own,k b⟩
theorem SimTs.set {L:Nat->Blk} {H:Hp} {ps:List PV} {vs:List Value} (h:SimTs L H ps vs) {p:PV} {v:Value} (m:Nat) (hp:SimT L H p v):SimTs L H (ps.set m p) (vs.set m v):=by
 refine⟨by simp[h.1],λi q u hq hu=>?_⟩;rw[List.getElem?_set] at hq hu
 split at hq
 . rename_i e
   rw[if_pos e] at hu
   split at hq
   . split at hu
     . cases hq;cases hu;exact hp
     . cases hu
   . cases hq
 . rename_i e;rw[if_neg e] at hu;exact h.2 i q u hq hu
theorem SimTs.append {L:Nat->Blk} {H:Hp} {ps qs:List PV} {vs us:List Value} (h:SimTs L H ps vs) (k:SimTs L H qs us):SimTs L H (ps++qs) (vs++us):=by
 refine⟨by simp[h.1,k.1],λi p v hp hv=>?_⟩
 rcases Nat.lt_or_ge i ps.length with q|q
 rw[List.getElem?_append_left q] at hp;rw[List.getElem?_append_left (by rw[h.1];exact q)] at hv;exact h.2 i p v hp hv;rw[List.getElem?_append_right q] at hp;rw[List.getElem?_append_right (by rw[h.1];exact q),h.1] at hv;exact k.2 _ p v hp hv
theorem SimTs.take {L:Nat->Blk} {H:Hp} {ps:List PV} {vs:List Value} (h:SimTs L H ps vs) (m:Nat):SimTs L H (ps.take m) (vs.take m):=by
 refine⟨by simp[h.1],λi p v hp hv=>?_⟩;rw[List.getElem?_take] at hp hv
 split at hp
 . rename_i q;rw[if_pos q] at hv;exact h.2 i p v hp hv
 . cases hp
theorem SimTs.drop {L:Nat->Blk} {H:Hp} {ps:List PV} {vs:List Value} (h:SimTs L H ps vs) (m:Nat):SimTs L H (ps.drop m) (vs.drop m):=by
 exact zZ
theorem Gv_ {L:Nat->Blk} {H:Hp} {i b b':Nat} {T T':TypeId} {cs cs':List PV} (hb:L i = .box b T cs) {p:PV} {v:Value} (h:SimT L H p v):SimT (lups L i (.box b' T' cs')) H p v:=by
 cases p with
 |osl j=>
   by_cases e:j=i
   . subst e;simp only[SimT,Bu_]
   . simp only[SimT,Ds_ _ _ _ _ e] at h ⊢;exact h
 |_=>exact h
theorem store1 {tb:Tb} {ti:TI} {i b b' off T0:Nat} {cs cs':List PV} {p:PV} (ht:tbB P tb=true) (hx:evP s.F x = .own i b off) (hb:s.L i = .box b' T0 cs) (hti:lkT tb T=some ti) (hsz:ti.size=1) (hy:evS (evP s.F y)=some p) (ho:p.one=true) (hl:Nat.blt off cs.length=true) (hbb:b'=b) (hc:evL (cs.set off p)=some cs')
   (k:K ⟨s.F,lups s.L i (.box b T0 cs')⟩):E1 P n N H0 all ⟨none, .store T x y,ty,pos,af,none⟩ (some i) s K:=by
 intro F H L ha;subst hbb;have hc:=Ms_ hc;subst hc;have hy:=Ud_ hy;have h1:=(A2_ ha.f x).sim;rw[hx] at h1;have h2:=A2_ ha.f y;unfold Ok1 at h2;rw[hy] at h2;have h3:=ha.l i;rw[hb] at h3;obtain⟨vs,hL,hs⟩:=h3;have hsz':=(Bn_ ht hti).sz;rw[hsz] at hsz';refine De_ h1.inv_own Y (h2.sim.one ho) hsz' hL wR ?_;refine⟨.refl H,only,_,ha.turnB (B:= .box _ T0 (cs.set off p)) i Z ⟨_,rfl,?_⟩,k⟩;have h4:=hs.set off h2;exact zL
def all1:List PV->Bool
 |[]=>true
 |p::r=>p.one&&all1 r
theorem Cd_ {H:Hp}:∀ {ps:List PV} {vs:List Value},Sims H ps vs->all1 ps=true->vs.all Value.oneCell'=true
 |[],vs,h,_=>by cases h.inv_nil;rfl
 |p::r,vs,h,ho=>by
   obtain⟨v,us,rfl,h1,h2⟩:=h.inv_cons
   simp only[all1,Bool.and_eq_true] at ho
   simp only[List.all_cons,Bool.and_eq_true]
   exact⟨h1.one ho.1,Cd_ h2 ho.2⟩
theorem storeA {tb:Tb} {ti:TI} {i b b' off T0:Nat} {cs ps cs':List PV} (ht:tbB P tb=true) (hx:evP s.F x = .own i b off) (hb:s.L i = .box b' T0 cs) (hti:lkT tb T=some ti) (hy:evP s.F y = .agg ps) (hn:A6_ ps=true) (ho:all1 ps=true) (hsz:ps.length=ti.size) (hl:Nat.ble (off+ti.size) cs.length=true) (hbb:b'=b) (hc:evL (cs.take off++(ps++cs.drop (off+ti.size)))=some cs')
   (k:K ⟨s.F,lups s.L i (.box b T0 cs')⟩):E1 P n N H0 all ⟨none, .store T x y,ty,pos,af,none⟩ (some i) s K:=by
 intro F H L ha;subst hbb;have hc:=Ms_ hc;subst hc;have h1:=(A2_ ha.f x).sim;rw[hx] at h1;have h2:=(A2_ ha.f y).sim;rw[hy] at h2;obtain⟨us,e,h2⟩:=h2.inv_agg;have h3:=ha.l i;rw[hb] at h3;obtain⟨vs,hL,hs⟩:=h3;have hl':=Nat.le_of_ble_eq_true hl;refine Lw_ (m:=ti.size) (vs.take off++(us++vs.drop (off+ti.size))) h1.inv_own e (Cd_ h2 ho) (Bn_ ht hti).sz (by rw[h2.1,hsz]) hL wR Y ?_;refine⟨.refl H,only,_,ha.turnB (B:= .box _ T0 _) i Z ⟨_,rfl,?_⟩,k⟩;have h4:=(hs.take off).append ((Es_ (L:=s.L) h2 hn).append (hs.drop (off+ti.size)));exact zL
end Go.SW
namespace Go.SW
variable {P:Program} {n:Nat} {N:Rest} {H0:Env} {all rest:List Oper} {Q:Qs} {ks:List Kt} {s:St} {T T2 ty d:Nat} {pos:String} {af:Array Edge} {x y z:Operand} {K:St->Prop}
def SrcP (P:Program) (N:Rest) (H0:Env) (s:St) {α:Type} (enc:α->List PV) (k:Nat) (y:Operand) (ys:List α):Prop:=
 ∀ F H L,Abs H0 s F H L->∃ news,Src P N H L k (ev F y) ys.length news/\Rl (RowE enc k) H ys news/\∀ u∈news,u.oneCell'=true
theorem src_own {F:Fr} {H:Hp} {L:Ls} {k e i:Nat} {v:Value} {len:Nat} {cs:List Value} (h:OwnV k e v (L i) len cs):Src P N H L k v len cs:=by
 obtain⟨hl,h⟩:=h;refine⟨hl,λw hm=>?_⟩
 rcases h with ⟨rfl,rfl,_⟩|⟨b,cap,c,f,rfl,hL,hc,hle,ht,hff⟩
 have :cs=[]:=List.length_eq_zero_iff.1 wE;subst this;exact⟨by simp[Builtin.lenOf],by simp[Builtin.firstCells]⟩;refine⟨by simp[Builtin.lenOf],?_⟩
 have :=run_loadCells_list (P:=P) w ⟨b,f.length,none⟩ cs (λj v hj=>by
   rw[K_]
   refine hm.cellL hL ?_
   rw[List.getElem?_append_right xN,Nat.add_sub_cancel_left]
   subst ht
   rw[List.getElem?_take] at hj
   split at hj
   . exact hj
   . cases hj)
 rw[hl] at this;exact xD
theorem src_l {α:Type} {enc:α->List PV} {k:Nat} {ys:List α} (hy:evP s.F y = .sl enc ys) (hk:∀ a,(enc a).length=k):SrcP P N H0 s enc k y ys:=λF H L ha=>by
 have h1:=(A2_ ha.f y).sim
 rw[hy] at h1
 obtain⟨k0,hs,hb⟩:=h1.slh
 cases ys with
 |nil=>
   obtain⟨⟨a,c,e,hc⟩,_⟩:=hs
   refine⟨[],⟨by simp,λw hm=>?_⟩,No_,λu hu=>by cases hu⟩
   rw[e]
   refine⟨by simp[Builtin.lenOf],?_⟩
   cases a with
   |none=>simp[Builtin.firstCells]
   |some a=>
     have :=run_loadCells_list (P:=P) w a [] (λj v hj=>by simp at hj)
     simpa [Builtin.firstCells] using this
 |cons a r=>
   have e:k0=k:=by
     obtain⟨cs,hE,_⟩:=hs.get (show (a::r)[0]? = some a from rfl)
     rw[<- hE.1,hk]
   subst e
   obtain⟨news,h2,h3,h4⟩:=src_slE (P:=P) Ei_ hs
   exact⟨news,h4 N L,h2,h3⟩
theorem src_o {α:Type} {enc:α->List PV} {i e k:Nat} {u:Value} {ys:List α} (hy:evP s.F y = .osl i) (hb:s.L i = .arr u k e enc ys):SrcP P N H0 s enc k y ys:=λF H L ha=>by
 have h1:=A2_ ha.f y
 unfold Ok1 at h1
 rw[hy] at h1
 simp only[SimT,hb] at h1
 have h2:=ha.l i
 rw[hb] at h2
 obtain⟨cs,ho,hr,hm⟩:=h2
 rw[h1]
 exact⟨cs,src_own (F:=F) ho,hr,L0_ Ei_ hr⟩
def Na_ (tb:Tb) (T:TypeId):Bool:=
 match lkT tb T with
 |some ti=>match ti.k with
   | .slc _=>true
   | .str=>true
   |_=>false
 |none=>false
theorem Qk_ {tb:Tb} (ht:tbB P tb=true) {T:TypeId} (h:Na_ tb T=true):∃ d2,P.underlying T=some d2/\Hn_ d2=true:=by
 unfold Na_ at h
 split at h
 . rename_i ti hti
   split at h
   . rename_i e hk;exact⟨_,(Bn_ ht hti).slc hk,rfl⟩
   . rename_i hk;exact⟨_,(Bn_ ht hti).str hk,rfl⟩
   . cases h
 . cases h
theorem T5_ {tb:Tb} {t:Nat} {ti:TI} (ht:tbB P tb=true) (hti:lkT tb t=some ti) (h1:ti.zero.length=ti.size):∃ zs:List Value,Zr P t zs/\zs.length=ti.size:=by
 obtain⟨zv,hz,hs⟩:=(Bn_ ht hti).zero;exact⟨zv.cells.toList,λw=>⟨zv,hz w,by simp⟩,by rw[(hs (λ_=>none)).1,h1]⟩
theorem app {α:Type} {tb:Tb} {i e k:Nat} {u:Value} {enc:α->List PV} {xs:List α} {te:TI} (ht:tbB P tb=true) (ys:List α) (hx:evP s.F x = .osl i) (hb:s.L i = .arr u k e enc xs) {ti:TI} (hti:lkT tb T=some ti) (htk:ti.k = .slc e) (hT2:Na_ tb T2=true) (hte:lkT tb e=some te) (hz:te.zero.length=te.size) (hby:Nat.blt 0 te.bytes=true) (hk:te.size=k) (hy:SrcP P N H0 s enc k y ys) (hs:(xs.length+ys.length)*te.bytes<=140737488355328) (hd:Nat.blt d n=true)
   (kk:∀ u',K ⟨updp (F8_ i s.F) d (.osl i),lups (Df_ i s.L) i (.arr u' k e enc (xs++ys))⟩):E1 P n N H0 all ⟨some d, .call ⟨.builtin .append,#[x,y],#[T,T2]⟩,ty,pos,af,none⟩ (some i) s K:=by
 intro F H L ha;have h1:=A2_ ha.f x;unfold Ok1 at h1;rw[hx] at h1;simp only[SimT,hb] at h1;have h2:=ha.l i;rw[hb] at h2;obtain⟨cs,ho,hr,hm⟩:=h2;obtain⟨news,h3,h4,h5⟩:=hy F H L ha;obtain⟨d2,hd2,hn2⟩:=Qk_ ht hT2;obtain⟨zs,hzr,hzl⟩:=T5_ ht hte hz;have hok:=Bn_ ht hte;subst hk;have hby':0<te.bytes:=by simpa using hby
 have hlen:xs.length+ys.length<=140737488355328:=Nat.le_trans (Nat.le_mul_of_pos_right _ hby') hs;refine Qu_ i h1 Y ((Bn_ ht hti).slc htk) hd2 hn2 hok.sz hok.by_ hby' hzr ho h3 h5 hzl hs hd λv' en' hv'=>?_;exact⟨.refl H,only,_,(ha.turn i (B:= .arr v' te.size e enc (xs++ys)) ⟨_,by simpa using hv',U4_ hr h4,by simpa using hlen⟩).put d (by simp[SimT,Bu_]),kk v'⟩
def bslP (G:Nat->PV):List (Nat×Operand)->Nat->Option (List (List PV))
 |[],_=>some []
 |(j,x)::r,i=>match Nat.beq j i with
   |true=>match (evP G x).cellsOf with
     |some c=>match all1 c with
       |true=>match bslP G r (i+1) with
         |some rows=>some (c::rows)
         |none=>none
       |false=>none
     |none=>none
   |false=>none
theorem Oy_ {sL:Nat->Blk} {H:Hp} {F:Fr} {G:Nat->PV} (hG:∀ t,SimT sL H (G t) (F t)) {k:Nat}:∀ (ps:List (Nat×Operand)) (i:Nat) (rows:List (List PV)),bslP G ps i=some rows->(∀ r∈rows,r.length=k) ->
   Hd_ k i (evp F ps)/\(evp F ps).length=rows.length/\∀ {α:Type} (enc:α->List PV) (xs:List α),rows=xs.map enc->Rl (RowE enc k) H xs (Dn_ (evp F ps))
 |[],i,rows,h,_=>by
   simp only[bslP,Option.some.injEq] at h
   subst h
   exact ⟨trivial,rfl,λenc xs e=>by
     have :xs=[]:=by simpa using e.symm
     subst this;exact No_⟩
 |(j,x)::r,i,rows,h,hk=>by
   simp only[bslP] at h
   split at h
   . rename_i hj
     split at h
     . rename_i c hc
       split at h
       . rename_i h1
         split at h
         . rename_i rows' hr
           cases h
           obtain⟨a1,a2,a3⟩:=Oy_ hG r (i+1) rows' hr λq hq=>hk q (List.mem_cons_of_mem _ hq)
           have hv:=Ie_ (A2_ hG x).sim hc
           have hck:=hk c List.mem_cons_self
           refine⟨⟨Nat.eq_of_beq_eq_true hj,by rw[<- hck,<- hv.1];simp,a1⟩,by simp[evp,a2],λenc xs e=>?_⟩
           cases xs with
           |nil=>cases e
           |cons a xs=>
             simp only[List.map_cons,List.cons.injEq] at e
             obtain⟨rfl,e2⟩:=e
             refine⟨_,_,rfl,⟨hck,hv,λu hu=>?_⟩,a3 enc xs e2⟩
             have :=Cd_ hv h1
             rw[List.all_eq_true] at this
             exact this u hu
         . cases h
       . cases h
     . cases h
   . cases h
theorem bsl {α:Type} {tb:Tb} (i:Nat) {e len:Nat} {ps:Array (Nat×Operand)} (enc:α->List PV) (xs:List α) {rows:List (List PV)} {ti te:TI} (ht:tbB P tb=true) (hti:lkT tb T=some ti) (htk:ti.k = .slc e) (hte:lkT tb e=some te) (hr:bslP s.F ps.toList 0=some rows) (hx:rows=xs.map enc) (hk:∀ a,(enc a).length=te.size) (hl:xs.length=len) (hs:len*te.size<=16777216) (hs2:len<=140737488355328) (hd:Nat.blt d n=true)
   (kk:∀ u',K ⟨updp (F8_ i s.F) d (.osl i),lups (Df_ i s.L) i (.arr u' te.size e enc xs)⟩):E1 P n N H0 all ⟨some d, .buildSlice T len ps,ty,pos,af,none⟩ (some i) s K:=by
 obtain⟨pl,rfl⟩:∃ pl:List (Nat×Operand),ps=pl.toArray:=⟨ps.toList,by simp⟩;simp only[List.toList_toArray] at hr;intro F H L ha;have hrow:∀ r∈rows,r.length=te.size:=λr hr=>by
   rw[hx] at hr
   obtain⟨a,_,rfl⟩:=List.mem_map.1 hr
   exact hk a
 obtain⟨a1,a2,a3⟩:=Oy_ ha.f pl 0 rows hr hrow;have hrl:=a3 enc xs hx;obtain⟨zv,hz,_⟩:=(Bn_ ht hte).zero;have hlen:(evp F pl).length=len:=by rw[a2,hx];simpa using hl
 refine Er_ i hd ((Bn_ ht hti).slc htk) (Bn_ ht hte).sz ⟨zv,hz⟩ Y a1 hlen Y hs λb=>?_;refine⟨.refl H,only,_,(ha.turn i (B:= .arr (.slice (some ⟨b,0,none⟩) len len) te.size e enc xs) ⟨_,?_,hrl,by omega⟩).put d (by simp[SimT,Bu_]),kk _⟩;rw[<- hl];exact ownV_bx (Rl_ Ei_ hrl)
def Sq_ {α:Type} (i:Nat) (enc:α->List PV) (xs:List α):PV->PV
 | .osl j=>bif Nat.beq j i then .sl enc xs else .osl j
 |p=>p
def Lm_ {α:Type} (i:Nat) (enc:α->List PV) (xs:List α) (F:Nat->PV):Nat->PV:=λt=>Sq_ i enc xs (F t)
def giveB {α:Type} (i:Nat) (enc:α->List PV) (xs:List α):Blk->Blk
 | .box b T cs=> .box b T (cs.map (Sq_ i enc xs))
 |B=>B
def Ki_ {α:Type} (i:Nat) (enc:α->List PV) (xs:List α) (L:Nat->Blk):Nat->Blk:=λt=>bif Nat.beq t i then .no else giveB i enc xs (L t)
theorem Abs.give {α:Type} {i e k:Nat} {u:Value} {enc:α->List PV} {xs:List α} {F:Fr} {H H':Hp} {L:Ls} (ha:Abs H0 s F H L) (hb:s.L i = .arr u k e enc xs) (hl:HLe H H') (hH:∀ b o,L i=some (b,o)->H' b=some o):Abs H0 ⟨Lm_ i enc xs s.F,Ki_ i enc xs s.L⟩ F H' (lupd L i none):=by
 have hi:=ha.l i;rw[hb] at hi;obtain⟨cs,ho,hr,hm⟩:=hi;have hsl:Sim H' (.sl enc xs) u:=Sim.of_slh (Tr_ Ei_ ho (hr.mono Fm_ hl) hH) hm;have hp:∀ {p v},SimT s.L H p v->SimT (Ki_ i enc xs s.L) H' (Sq_ i enc xs p) v:=λ{p v} h=>by
   cases p with
   |osl j=>
     simp only[Sq_]
     cases q:Nat.beq j i with
     |true=>
       have :=Nat.eq_of_beq_eq_true q
       subst this
       simp only[SimT,hb] at h
       subst h
       exact hsl
     |false=>
       simp only[SimT] at h
       show SimT _ _ (.osl j) v
       simp only[SimT,Ki_,q,cond_false]
       generalize s.L j=B at *
       cases B<;>first|exact h|trivial
   |_=>exact Sim.mono hl h
 refine⟨ha.le.trans hl,H0.g.mono _ _ hl ha.g,λt=>hp (ha.f t),λj=>?_⟩;simp only[Ki_]
 cases q:Nat.beq j i with
 |true=>trivial
 |false=>
   have hne:j≠i:=λe=>by subst e;simp at q
   rw[E_ _ _ _ _ hne]
   have h1:=ha.l j
   simp only[cond_false]
   generalize s.L j=B at *
   cases B with
   |box b T cs'=>
     obtain⟨vs,h2,h3,h4⟩:=h1
     refine⟨vs,h2,by simp[h3],λa p v hpp hv=>?_⟩
     rw[List.getElem?_map] at hpp
     cases q2:cs'[a]? with
     |none=>rw[q2] at hpp;cases hpp
     |some p0=>rw[q2] at hpp;cases hpp;exact hp (h4 a p0 v q2 hv)
   |no=>trivial
   |arr u2 k2 e2 enc2 xs2=>obtain⟨c2,h2,h3,h4⟩:=h1;exact⟨c2,h2,h3.mono Fm_ hl,h4⟩
   |itr b s2 p=>exact h1
   |ob b o=>exact h1
theorem give {α:Type} {e k:Nat} {u:Value} {enc:α->List PV} {xs:List α} (i:Nat) (hb:s.L i = .arr u k e enc xs) (kk:Hd P n N H0 Q (.ops all rest) ks ⟨Lm_ i enc xs s.F,Ki_ i enc xs s.L⟩):Hd P n N H0 Q (.ops all rest) ks s:=by
 intro F H L ha;exact Nf_ i Y λH' hl hg=>kk _ _ _ (ha.give hb hl hg)
theorem givec {α:Type} {e k:Nat} {u:Value} {enc:α->List PV} {xs:List α} {c:Code} (i:Nat) (hb:s.L i = .arr u k e enc xs) (kk:Hd P n N H0 Q (.code c) ks ⟨Lm_ i enc xs s.F,Ki_ i enc xs s.L⟩):Hd P n N H0 Q (.code c) ks s:=by
 intro F H L ha;exact Sh_ i Y λH' hl hg=>kk _ _ _ (ha.give hb hl hg)
theorem calll {α:Type} {e k:Nat} {u:Value} {enc:α->List PV} {ls:List α} {f:FuncId} {args:List PV} {res:PV} {xs:Array Operand} {ats:Array TypeId} (i:Nat) (hb:s.L i = .arr u k e enc ls) (h:Fn P H0.g f args res) (hf:res.flat=true) (ha:argsP (Lm_ i enc ls s.F) x xs.toList=some (f,args)) (hd:Nat.blt d n=true)
   (kk:res.wf->K ⟨updp s.F d res,s.L⟩):E1 P n N H0 all ⟨some d, .call ⟨.value x,xs,ats⟩,ty,pos,af,none⟩ none s K:=by
 intro F H L hab;refine λa w hA hm=>?_;obtain⟨H1,hl1,hg1,hm1⟩:=hm.giveO (i:=i) Y;have hab1:=hab.give hb hl1 hg1;obtain⟨vs,h1,h2⟩:=Fr_ (ats:=ats) hab1.f ha h.cb;rw[if_pos xR];unfold Oper.wp;rw[hA.eval,h2];refine (h.run N H1 _ w vs hab1.g h1 hm1).mono λe' w' ⟨v,H',he,hv,hl,hm'⟩=>?_;subst he;refine⟨_,H,L,hA.put xU v,?_, .refl H,λ_ _=>rfl,_,hab.put d ?_,kk hv.wf⟩
 . have hm2:=hm'.le hl
   cases hLi:L i with
   |none=>
     have e1:lupd L i none=L:=M8_ hLi
     rw[e1] at hm2
     exact hm2.le hl1
   |some bo=>
     obtain⟨b,o⟩:=bo
     have hle:HLe (hadd H b o) H1:=λc q hq=>by
       by_cases e:c=b
       . subst e;simp[hadd] at hq;subst hq;exact hg1 _ _ hLi
       . simp[hadd,e] at hq;exact hl1 c q hq
     exact hm.take hLi (hm2.le hle)
 have hno:=h.no;refine Sim.simT ?_ hno;obtain⟨v0,hv0⟩:∃ v0,v0=v:=⟨v,rfl⟩;exact Sim.flat_any hf hv
end Go.SW
namespace Go.SW
variable {P:Program} {n:Nat} {N:Rest} {H0:Env} {all rest:List Oper} {Q:Qs} {ks:List Kt} {s:St} {T T2 ty d:Nat} {pos:String} {af:Array Edge} {x y z:Operand} {K:St->Prop}
def LkR (xs:Option (List Nat)) (Lk L:Ls):Prop:=match xs with
 |some xs=>∀ i,Lk i = bif memB xs i then none else L i
 |none=>True
def Hv (P:Program) (n:Nat) (N:Rest) (H0:Env) (Q:Qs) (xs:Option (List Nat)) (all:List Oper) (fuel:Nat) (listed:Array Bool) (ks:List Kt) (s:St):Prop:=
 ∀ F H L Lk,Abs H0 s F H L->LkR xs Lk L->Vw P n N all Lk (ql H0 (Kt.den P n N H0 ks Q)) fuel listed F H L
theorem any (xs:List Nat) (m:Nat) {id:Nat} {ops:Array Oper} (hmx:P.follows .mixedOrders=true) (hm:ops.toList.length=m) (h:Hv P n N H0 Q (some xs) ops.toList m (Array.replicate m false) ks s):Hd P n N H0 Q (.code (.region id ops true)) ks s:=by
 intro F H L ha;subst hm;have :=Ua_ (id:=id) hmx (λi=>bif memB xs i then none else L i) (h F H L _ ha λ_=>rfl);exact xF
theorem vdone {xs:Option (List Nat)} {fuel:Nat} {listed:Array Bool} (h:Region.ready .any all.toArray listed=[]) (k:Hd P n N H0 Q (.ex .normal) ks s):Hv P n N H0 Q xs all fuel listed ks s:=λF H L Lk ha _=>Mc_ h ⟨s,ha,k⟩
def okX (xs:Option (List Nat)) (i:Nat):Bool:=match xs with
 |some xs=>!memB xs i
 |none=>false
def okLk (xs:Option (List Nat)) (sL:Nat->Blk) (op:Op) (lk:Option (Nat×Nat×Nat)):Bool:=
 match lk with
 |none=>true
 |some (i,_,_)=>match Da_ op with
   |true=>match okX xs i with
     |true=>match sL i with
       | .box _ _ _=>true
       |_=>false
     |false=>false
   |false=>false
theorem N5_ {xs:Option (List Nat)} {Lk L:Ls} (h:LkR xs Lk L) {op:Op} (ho:Da_ op=false\/∃ i,okX xs i=true):LLe (lkOf op Lk) L:=by
 rcases Eo_ op Lk with ⟨h1,h2⟩|h2
 . rcases ho with q|⟨i,q⟩
   . rw[h1] at q;cases q
   . rw[h2]
     cases xs with
     |none=>cases q
     |some xs=>
       intro j o hj
       rw[h j] at hj
       cases e:memB xs j with
       |true=>rw[e] at hj;cases hj
       |false=>rw[e] at hj;exact hj
 rw[h2];exact λ_ _ q=>by cases q
theorem Qp_ {xs:Option (List Nat)} {F:Fr} {H:Hp} {L Lk:Ls} {op:Op} {lk:Option (Nat×Nat×Nat)} (ha:Abs H0 s F H L) (hL:LkR xs Lk L) (h:okLk xs s.L op lk=true) {L':Ls} (hl:LLe (lkOf op Lk) L'):∀ x,lk=some x->L' x.1=L x.1:=by
 intro x hx;subst hx;obtain⟨i,a,b⟩:=x;simp only[okLk] at h
 split at h
 . rename_i h1
   split at h
   . rename_i h2
     split at h
     . rename_i b' T cs h3
       have h4:=ha.l i
       rw[h3] at h4
       obtain⟨vs,h5,_⟩:=h4
       rcases Eo_ op Lk with ⟨_,e⟩|e
       . cases xs with
         |none=>cases h2
         |some xs=>
           have h6:Lk i=L i:=by
             rw[hL i]
             simp only[okX,Bool.not_eq_true'] at h2
             rw[h2];rfl
           exact (hl i _ (by rw[e,h6,h5])).trans h5.symm
       . exfalso
         have e2:lkOf op Lk=Lk\/Da_ op=false:=by cases op<;>first|exact .inl Y|exact .inr Y
         rcases e2 with q|q
         . rw[q] at e
           cases xs with
           |none=>cases h2
           |some xs=>
             have h6:=hL i
             simp only[okX,Bool.not_eq_true'] at h2
             rw[h2,e] at h6
             simp only[cond_false] at h6
             rw[h5] at h6;cases h6
         . rw[h1] at q;cases q
     . cases h
   . cases h
 . cases h
theorem sv_v {tb:Tb} {xs:Option (List Nat)} {fuel i:Nat} {listed:Array Bool} {o:Oper} {r:PR} (ht:tbB P tb=true) (hi:nth all i=some o) (ho:o.dst=some d) (hck:(rdB all listed i&&apB n all listed i o&&Nat.blt d n&&nosB o.op)=true) (h:vOp tb s all o=some r) (hp:AllP r.ps) (he:∀ x,r.lk=some x->x.2.1=x.2.2) (hlk:okLk xs s.L o.op r.lk=true) (hx:Da_ o.op=false\/∃ i,okX xs i=true)
   (k:Hv P n N H0 Q xs all fuel (listed.setIfInBounds i true) ks ⟨updp s.F d r.v,s.L⟩):Hv P n N H0 Q xs all (fuel+1) listed ks s:=by
 intro F H L Lk ha hL;rw[Cz_] at hi;obtain⟨d',op,ty,pos,af,g⟩:=o
 cases ho
 unfold vOp at h
 split at h
 . rename_i hg
   cases hg
   obtain⟨val,h1,h2⟩:=Ni_ (N:=N) (ty:=ty) ht ha.f ha.l h hp he
   exact vw_q i hi hck (N5_ hL hx) (λH' L' hh hl=>h2 H' L' hh (Qp_ ha hL hlk hl)) (k _ _ _ _ (ha.put d h1) hL)
 . rename_i j want hg
   cases hg
   split at h
   . rename_i oj hj
     split at h
     . rename_i dj hdj
       split at h
       . rename_i g hgc
         split at h
         . rename_i hno
           unfold pG1 at h
           split at h
           . rename_i v0 ps0 lk0 hr0
             split at h
             . rename_i hnv
               cases h
               obtain⟨c,b,hv,hge⟩:=gC_ok hgc (ha.f dj).sim
               have hy:yF all F j=some (gv c (.bool b)):=by rw[T1_ hj hdj,hv]
               obtain⟨hp1,hp2⟩:=Do_ hp
               have hge2:g=(c&&(b==want)):=hge.trans Kk_.symm
               cases hgv:g with
               |false=>
                 refine vgq (c:=c) (b:=b) (v:=undef) i hi hck (N5_ hL hx) (λ_ _ q=>by cases q) hy (λe=>by rw[<- hge2,hgv] at e;cases e) (k _ _ _ _ (ha.put d ?_) hL)
                 rw[<- hge2,hgv]
                 exact Sim.gvf
               |true=>
                 obtain⟨val,h1,h2⟩:=Ni_ (N:=N) (ty:=ty) ht (H1_ ha.f (λt ht c v e=>hp2 t ht c v e hgv) (Db_ hno)) ha.l hr0 (Hb_ hgv hp1) he
                 refine vgq (c:=c) (b:=b) (v:=val) i hi hck (N5_ hL hx) (λ_ _ q=>by cases q) hy (λ_ H' L' hh hl=>h2 H' L' hh (Qp_ ha hL hlk hl)) (k _ _ _ _ (ha.put d ?_) hL)
                 rw[<- hge2,hgv]
                 exact Sim.gvt h1.sim
             . cases h
           . cases h
         . cases h
       . cases h
     . cases h
   . cases h
structure VV where
 F:Nat->PV
 L:Nat->Blk
 ps:List Prop
 as0:List Nat
 bs:List Nat
def lksOk (xs:Option (List Nat)) (op:Op):Bool:=match Da_ op with
 |false=>true
 |true=>match xs with
   |some xs=>!memB xs (xs.foldr max 0+1)
   |none=>false
theorem M0_ {xs:Option (List Nat)} {op:Op} (h:lksOk xs op=true):Da_ op=false\/∃ i,okX xs i=true:=by
 unfold lksOk at h
 split at h
 exact .inl xY
 . split at h
   exact .inr ⟨_,h⟩
   . cases h
def runV (tb:Tb) (xs:Option (List Nat)) (all:List Oper):List Nat->(Nat->PV)->(Nat->Blk)->List Prop->List Nat->List Nat->Option VV
 |[],F,L,ps,as0,bs=>frcP ps λps=>frcN as0 λas0=>frcN bs λbs=>some ⟨F,L,ps,as0,bs⟩
 |i::r,F,L,ps,as0,bs=>match nth all i with
   |some o=>match o.dst with
     |some d=>match vOp tb ⟨F,L⟩ all o with
       |some ⟨v0,ps0,lk0⟩=>match okLk xs L o.op lk0 with
         |true=>match lksOk xs o.op with
           |true=>match lk0 with
             |none=>addP ps ps0 λps=>frc v0 λv=>runV tb xs all r (updp F d v) L ps as0 bs
             |some (_,a,b)=>addP ps ps0 λps=>frc v0 λv=>runV tb xs all r (updp F d v) L ps (a::as0) (b::bs)
           |false=>none
         |false=>none
       |none=>none
     |none=>none
   |none=>none
def chkV (n:Nat) (all:List Oper):List Nat->Array Bool->Bool
 |[],_=>true
 | i::r,listed=>(match nth all i with
   |some o=>rdB all listed i&&apB n all listed i o&&dstB n o&&nosB o.op
   |none=>false)&&chkV n all r (listed.setIfInBounds i true)
def lst (listed:Array Bool):List Nat->Array Bool
 |[]=>listed
 |i::r=>lst (listed.setIfInBounds i true) r
theorem Rn_ {tb:Tb} (ht:tbB P tb=true) {xs:Option (List Nat)}:∀ (order:List Nat) (fuel:Nat) (listed:Array Bool) (F:Nat->PV) (L:Nat->Blk) (ps:List Prop) (as0 bs:List Nat) (r:VV),chkV n all order listed=true->runV tb xs all order F L ps as0 bs=some r->AllP r.ps->r.as0=r.bs ->
   AllP ps/\as0=bs/\(Hv P n N H0 Q xs all fuel (lst listed order) ks ⟨r.F,r.L⟩->Hv P n N H0 Q xs all (fuel+order.length) listed ks ⟨F,L⟩)
 |[],fuel,listed,F,L,ps,as0,bs,r,_,h,hp,he=>by
   simp only[runV,Ha_,Ja_,Option.some.injEq] at h
   subst h
   exact⟨hp,he,id⟩
 |i::q,fuel,listed,F,L,ps,as0,bs,r,hc,h,hp,he=>by
   simp only[chkV,Bool.and_eq_true] at hc
   obtain⟨hc1,hc2⟩:=hc
   have ih:=Rn_ ht (xs:=xs) q fuel (listed.setIfInBounds i true)
   simp only[runV] at h
   split at h
   . rename_i o ho
     rw[ho] at hc1
     split at h
     . rename_i d hd
       split at h
       . rename_i v0 ps0 lk0 hv
         split at h
         . rename_i hlk
           split at h
           . rename_i hlo
             have hck:(rdB all listed i&&apB n all listed i o&&Nat.blt d n&&nosB o.op)=true:=by simpa [dstB,hd] using hc1
             split at h
             . rw[Iz_,Ik_] at h
               obtain⟨h1,h2,h3⟩:=ih _ _ _ _ _ r hc2 h hp he
               obtain⟨h4,h5⟩:=Em_ h1
               exact⟨h4,h2,λx=>sv_v ht ho hd hck hv h5 (λy hy=>by cases hy) hlk (M0_ hlo) (h3 x)⟩
             . rename_i j a b
               rw[Iz_,Ik_] at h
               obtain⟨h1,h2,h3⟩:=ih _ _ _ _ _ r hc2 h hp he
               obtain⟨h4,h5⟩:=Em_ h1
               simp only[List.cons.injEq] at h2
               exact⟨h4,h2.2,λx=>sv_v ht ho hd hck hv h5 (λy hy=>by cases hy;exact h2.1) hlk (M0_ hlo) (h3 x)⟩
           . cases h
         . cases h
       . cases h
     . cases h
   . cases h
theorem gov {tb:Tb} (ht:tbB P tb=true) (order:List Nat) (f:Nat) {xs:Option (List Nat)} {fuel:Nat} {listed:Array Bool} {F F':Nat->PV} {L L':Nat->Blk} {ps:List Prop} {as0 bs:List Nat} (hf:fuel=f+order.length) (hc:chkV n all order listed=true) (h:runV tb xs all order F L [] [] []=some ⟨F',L',ps,as0,bs⟩) (he:as0=bs) (hp:AllP ps) (next :Hv P n N H0 Q xs all f (lst listed order) ks ⟨F',L'⟩):Hv P n N H0 Q xs all fuel listed ks ⟨F,L⟩:=by
 subst hf;exact (Rn_ ht order f listed F L [] [] [] _ hc h hp he).2.2 next
theorem U6_ {G:Gb} {f:FuncId} {args:List PV} {res:PV} {H:Hp} {vs:List Value} {L:Ls} {w:World} (h:Fn P G f args res) (hg:G.p H) (hs:Sims H args vs) (hm:Mem N H L w):∃ v H',Sim H' res v:=by
 obtain⟨_,_,_,⟨v,H',_,h2,_⟩,_⟩:=h.run N H L w vs hg hs hm [];exact⟨v,H',h2⟩
theorem R7_ {Lk:Ls} {Qq:Qt} {fuel i:Nat} {listed:Array Bool} {F:Fr} {H:Hp} {L:Ls} (hr:rdB all listed i=true) (hn:¬∃ w,Mem N H L w):Vw P n N all Lk Qq (fuel+1) listed F H L:=by
 refine⟨λe=>?_,λj hj a w _ hm=>absurd ⟨w,hm⟩ hn⟩;simp[rdB,e] at hr
theorem vcall {xs:Option (List Nat)} {fuel:Nat} {listed:Array Bool} {f:FuncId} {args:List PV} {res:PV} {as0:Array Operand} {ats:Array TypeId} (i:Nat) (hi:nth all i=some ⟨some d, .call ⟨.value x,as0,ats⟩,ty,pos,af,none⟩) (hck:(rdB all listed i&&apB n all listed i ⟨some d, .call ⟨.value x,as0,ats⟩,ty,pos,af,none⟩&&Nat.blt d n&&nosB (.call ⟨.value x,as0,ats⟩))=true) (h:Fn P H0.g f args res) (hf:res.flat=true) (ha:argsP s.F x as0.toList=some (f,args))
   (k:res.wf->Hv P n N H0 Q xs all fuel (listed.setIfInBounds i true) ks ⟨updp s.F d res,s.L⟩):Hv P n N H0 Q xs all (fuel+1) listed ks s:=by
 intro F H L Lk hab hL;by_cases hw:∃ w,Mem N H L w;obtain⟨w,hm⟩:=hw;rw[Cz_] at hi;obtain⟨vs,h1,h2⟩:=Fr_ (ats:=ats) hab.f ha h.cb;obtain⟨v,H',hv⟩:=U6_ h hab.g h1 hm;exact vw_qc i hi hck (λ_ _ q=>by cases q) (h.pr hf hab.g h1 hv) h2 (k hv.wf _ _ _ _ (hab.put d ((Sim.flat_any hf hv).simT h.no)) hL)
 exact yV
theorem vcallg {xs:Option (List Nat)} {fuel:Nat} {listed:Array Bool} {f:FuncId} {args:List PV} {res:PV} {as0:Array Operand} {ats:Array TypeId} {j:Nat} {want g:Bool} (i:Nat) (hi:nth all i=some ⟨some d, .call ⟨.value x,as0,ats⟩,ty,pos,af,some (j,want)⟩) (hck:(rdB all listed i&&apB n all listed i ⟨some d, .call ⟨.value x,as0,ats⟩,ty,pos,af,some (j,want)⟩&&Nat.blt d n&&nosB (.call ⟨.value x,as0,ats⟩))=true) (hg:gOp s all j want=some g) (h:g=true->Fn P H0.g f args res) (hf:res.flat=true) (ha:argsP (strG (Ew_ as0.toList) s.F) x as0.toList=some (f,args)) (hc:AllP (E2_ s.F g (Ew_ as0.toList) [])) (hno:Cy_ s.F (Ew_ as0.toList)=true)
   (k:(g=true->res.wf)->Hv P n N H0 Q xs all fuel (listed.setIfInBounds i true) ks ⟨updp s.F d (.gv g res),s.L⟩):Hv P n N H0 Q xs all (fuel+1) listed ks s:=by
 intro F H L Lk hab hL;by_cases hw:∃ w,Mem N H L w
 . obtain⟨w,hm⟩:=hw
   rw[Cz_] at hi
   obtain⟨c,b,hy,hge⟩:=Kh_ hab hg
   have hge2:g=(c&&(b==want)):=hge.trans Kk_.symm
   cases hgv:g with
   |false=>
     have hcf:(c&&(b==want))=false:=by rw[<- hge2,hgv]
     refine vgp (c:=c) (b:=b) (v:=undef) (f:=f) (args:=#[]) i hi hck (λ_ _ q=>by cases q) hy (λe=>by rw[hcf] at e;cases e) (λe=>by rw[hcf] at e;cases e) (k (λe=>by rw[hgv] at e;cases e) _ _ _ _ (hab.put d ?_) hL)
     rw[<- hge2,hgv]
     exact Sim.gvf
   |true=>
     have hF:=h hgv
     obtain⟨vs,h1,h2⟩:=Fr_ (ats:=ats) (H1_ hab.f (λt ht c v e=>(Do_ hc).2 t ht c v e hgv) (Db_ hno)) ha hF.cb
     obtain⟨v,H',hv⟩:=U6_ hF hab.g h1 hm
     refine vgp (c:=c) (b:=b) (v:=v) i hi hck (λ_ _ q=>by cases q) hy (λ_=>hF.pr hf hab.g h1 hv) (λ_=>h2) (k (λ_=>hv.wf) _ _ _ _ (hab.put d ?_) hL)
     rw[<- hge2,hgv]
     exact Sim.gvt (Sim.flat_any hf hv)
 exact yV
theorem ve {xs:List Nat} {fuel:Nat} {listed:Array Bool} {o:Oper} {j:Option Nat} (i:Nat) (hi:nth all i=some o) (hr:Region.ready .any all.toArray listed=[i]) (hj:(match j with|none=>true|some j=>memB xs j)=true) (h:E1 P n N H0 all o j s (λs'=>Hv P n N H0 Q (some xs) all fuel (listed.setIfInBounds i true) ks s')):Hv P n N H0 Q (some xs) all (fuel+1) listed ks s:=by
 intro F H L Lk ha hL;rw[Cz_] at hi;have hle:∀ L':Ls,(∀ i,j≠some i->L' i=L i)->LkR (some xs) Lk L':=λL' hL' i=>by
   rw[hL i]
   cases e:memB xs i with
   |true=>rfl
   |false=>
     refine (hL' i λq=>?_).symm
     subst q
     simp only at hj
     rw[e] at hj;cases hj
 refine vw_e i hi hr ((h F H L ha).imp λF' H' L' ⟨h1,h2,s',h3,h4⟩=>⟨⟨h1,λi x hx=>?_⟩,h4 F' H' L' Lk h3 (hle L' h2)⟩);have :=hle L' h2 i;rw[this] at hx
 cases e:memB xs i with
 |true=>rw[e] at hx;cases hx
 |false=>rw[e] at hx;exact hx
theorem ecall {f:FuncId} {args:List PV} {res:PV} {as0:Array Operand} {ats:Array TypeId} (h:Fn P H0.g f args res) (ha:argsP s.F x as0.toList=some (f,args)) (hd:Nat.blt d n=true) (k:res.wf->K ⟨updp s.F d res,s.L⟩):E1 P n N H0 all ⟨some d, .call ⟨.value x,as0,ats⟩,ty,pos,af,none⟩ none s K:=by
 intro F H L hab;obtain⟨vs,h1,h2⟩:=Fr_ (ats:=ats) hab.f ha h.cb;exact Qz_ (h.ph hab.g h1) h2 hd λv H' hv hl=>⟨hl,λ_ _=>rfl,_,(hab.mono hl).put d (hv.simT h.no),k hv.wf⟩
end Go.SW
namespace Go.SW
variable {P:Program} {n:Nat} {N:Rest} {H0:Env} {all rest:List Oper} {Q:Qs} {ks:List Kt} {s:St} {T T' T2 ty d:Nat} {pos:String} {af:Array Edge} {x y z:Operand} {K:St->Prop} {op:Op} {p:PV}
def Qy (P:Program) (N:Rest) (H0:Env) (s:St) (op:Op) (ty:TypeId) (p:PV):Prop:=
 ∀ F H L,Abs H0 s F H L->∃ val,SimT s.L H p val/\∀ H' L',HLe H H'->Lo P N op ty F H' L' val
theorem q1 (h:Qy P N H0 s op ty p) (hd:Nat.blt d n=true) (k:p.wf->Hd P n N H0 Q (.ops all rest) ks ⟨updp s.F d p,s.L⟩):Hd P n N H0 Q (.ops all (⟨some d,op,ty,pos,af,none⟩::rest)) ks s:=λF H L ha=>by
 obtain⟨val,h1,h2⟩:=h F H L ha
 exact ow1 (E9_ hd (h2 H L (.refl H)) (k h1.sim.wf _ _ _ (ha.put d h1)))
theorem eqy (h:Qy P N H0 s op ty p) (hd:Nat.blt d n=true) (k:p.wf->K ⟨updp s.F d p,s.L⟩):E1 P n N H0 all ⟨some d,op,ty,pos,af,none⟩ none s K:=λF H L ha=>by
 obtain⟨val,h1,h2⟩:=h F H L ha
 exact E9_ hd (h2 H L (.refl H)) ⟨.refl H,λ_ _=>rfl,_,ha.put d h1,k h1.sim.wf⟩
theorem vq {xs:Option (List Nat)} {fuel:Nat} {listed:Array Bool} (i:Nat) (h:Qy P N H0 s op ty p) (hi:nth all i=some ⟨some d,op,ty,pos,af,none⟩) (hck:(rdB all listed i&&apB n all listed i ⟨some d,op,ty,pos,af,none⟩&&Nat.blt d n&&nosB op)=true) (hl:Da_ op=false) (k:p.wf->Hv P n N H0 Q xs all fuel (listed.setIfInBounds i true) ks ⟨updp s.F d p,s.L⟩):Hv P n N H0 Q xs all (fuel+1) listed ks s:=by
 intro F H L Lk ha hL;rw[Cz_] at hi;obtain⟨val,h1,h2⟩:=h F H L ha;exact vw_q i hi hck (N5_ hL (.inl hl)) (λH' L' hh _=>h2 H' L' hh) (k h1.sim.wf _ _ _ _ (ha.put d h1) hL)
def strS (ts:List Nat) (s:St):St:=⟨strG ts s.F,s.L⟩
theorem La_ {g:Bool} {ts:List Nat} {F:Fr} {H:Hp} {L:Ls} (ha:Abs H0 s F H L) (hc:AllP (E2_ s.F g ts [])) (hno:Cy_ s.F ts=true) (hg:g=true):Abs H0 (strS ts s) F H L:=
 ⟨ha.le,ha.g,H1_ ha.f (λt ht c v e=>(Do_ hc).2 t ht c v e hg) (Db_ hno),ha.l⟩
theorem q1g {j:Nat} {want g:Bool} (ts:List Nat) (hg:gOp s all j want=some g) (h:g=true->Qy P N H0 (strS ts s) op ty p) (hc:AllP (E2_ s.F g ts [])) (hno:Cy_ s.F ts=true) (hpo:p.noOsl=true) (hd:Nat.blt d n=true) (k:(g=true->p.wf)->Hd P n N H0 Q (.ops all rest) ks ⟨updp s.F d (.gv g p),s.L⟩):Hd P n N H0 Q (.ops all (⟨some d,op,ty,pos,af,some (j,want)⟩::rest)) ks s:=λF H L ha=>by
 obtain⟨c,b,hy,hge⟩:=Kh_ ha hg
 refine ow_gd hy hd (λe=>?_) (λe=>?_)
 . have hgt:=hge.trans e
   obtain⟨val,h1,h2⟩:=h hgt F H L (La_ ha hc hno hgt)
   refine E9_ hd (h2 H L (.refl H)) (k (λ_=>h1.sim.wf) _ _ _ (ha.put d ?_))
   rw[hgt];exact Sim.gvt h1.sim
 . exact zT
theorem vqg {xs:Option (List Nat)} {fuel:Nat} {listed:Array Bool} {j:Nat} {want g:Bool} (i:Nat) (ts:List Nat) (hi:nth all i=some ⟨some d,op,ty,pos,af,some (j,want)⟩) (hck:(rdB all listed i&&apB n all listed i ⟨some d,op,ty,pos,af,some (j,want)⟩&&Nat.blt d n&&nosB op)=true) (hl:Da_ op=false) (hg:gOp s all j want=some g) (h:g=true->Qy P N H0 (strS ts s) op ty p) (hc:AllP (E2_ s.F g ts [])) (hno:Cy_ s.F ts=true)
   (k:(g=true->p.wf)->Hv P n N H0 Q xs all fuel (listed.setIfInBounds i true) ks ⟨updp s.F d (.gv g p),s.L⟩):Hv P n N H0 Q xs all (fuel+1) listed ks s:=by
 intro F H L Lk ha hL;rw[Cz_] at hi;obtain⟨c,b,hy,hge⟩:=Kh_ ha hg;have hge2:g=(c&&(b==want)):=hge.trans Kk_.symm
 cases hgv:g with
 |false=>
   have hcf:(c&&(b==want))=false:=by rw[<- hge2,hgv]
   refine vgq (c:=c) (b:=b) (v:=undef) i hi hck (N5_ hL (.inl hl)) (λ_ _ q=>by cases q) hy (λe=>by rw[hcf] at e;cases e) (k (λe=>by rw[hgv] at e;cases e) _ _ _ _ (ha.put d ?_) hL)
   rw[<- hge2,hgv];exact Sim.gvf
 |true=>
   obtain⟨val,h1,h2⟩:=h hgv F H L (La_ ha hc hno hgv)
   refine vgq (c:=c) (b:=b) (v:=val) i hi hck (N5_ hL (.inl hl)) (λ_ _ q=>by cases q) hy (λ_ H' L' hh _=>h2 H' L' hh) (k (λ_=>h1.sim.wf) _ _ _ _ (ha.put d ?_) hL)
   rw[<- hge2,hgv];exact Sim.gvt h1.sim
theorem Abs.ev {F:Fr} {H:Hp} {L:Ls} (ha:Abs H0 s F H L) {x:Operand} {p:PV} (hx:evP s.F x=p):SimT s.L H p (ev F x):=by
 have h1:=A2_ ha.f x;unfold Ok1 at h1
 rwa [hx] at h1
theorem u8_get {H:Hp} {a:Bs} {m:Nat}:Sim H (.int .u8 ((a.getD m 0).toNat:Int)) (.int .u8 ((a.getD m 0).toNat:Int)):=by
 have :=(a.getD m 0).toNat_lt;have e1:IntKind.min .u8=0:=rfl;have e2:IntKind.max .u8=255:=rfl;exact .int xN xN
theorem sidx {tb:Tb} {ti:TI} {a:Bs} {k:IntKind} {i:Int} (ht:tbB P tb=true) (m:Nat) (hx:evP s.F x = .str a) (hy:evP s.F y = .int k i) (hti:lkT tb T=some ti) (htk:ti.k = .str) (hi:i=m) (hm:m<a.length):Qy P N H0 s (.index T x y) ty (.int .u8 (a.getD m 0).toNat):=λF H L ha=>by
 have h1:=(ha.ev hx).sim
 have h2:=(ha.ev hy).sim
 exact⟨_,u8_get,λH' L' _=>F5_ m h1.inv_str.1 h2.inv_int.1 ((Bn_ ht hti).str htk) hi hm⟩
theorem qidx {α:Type} {tb:Tb} {ti te:TI} {e:TypeId} {enc:α->List PV} {xs:List α} {kk:IntKind} {i:Int} (ht:tbB P tb=true) (m:Nat) {a:α} (hx:evP s.F x = .sl enc xs) (hy:evP s.F y = .int kk i) (hm:i=m) (ha:xs[m]? = some a) (hti:lkT tb T=some ti) (hk:ti.k = .slc e) (hte:lkT tb e=some te) (hsz:te.size=(enc a).length):Qy P N H0 s (.indexAddr T x y) ty (.el (enc a) 0):=λF H L hab=>by
 have h1:=(hab.ev hx).sim
 have h2:=(hab.ev hy).sim
 obtain⟨k0,hs,hb⟩:=h1.slh
 obtain⟨cs,hE,hat⟩:=hs.get ha
 have hsize:=(Bn_ ht hte).sz
 rw[hsz,hE.1] at hsize
 have hlt:m<xs.length:=by
   rcases Nat.lt_or_ge m xs.length with q|q
   . exact q
   . rw[List.getElem?_eq_none q] at ha;cases ha
 refine⟨_,Sim.simT (p:= .el (enc a) 0) ?_ Y,λH' L' hh=>Kp_ Y h2.inv_int.1 hs.1 (hat.mono hh) ((Bn_ ht hti).slc hk) hsize hm hlt⟩
 have :=Sim.el (row:=enc a) (o:=0) hat hE.1 hE.2.1.2
 simpa [sPtr] using this
theorem lshi {α:Type} {tb:Tb} {ti te:TI} {e:TypeId} {enc:α->List PV} {xs:List α} {k:IntKind} {i:Int} (ht:tbB P tb=true) (m:Nat) (hx:evP s.F x = .sl enc xs) (hy:evP s.F y = .int k i) (hti:lkT tb T=some ti) (htk:ti.k = .slc e) (hte:lkT tb e=some te) (hw:∀ a,(enc a).length=te.size) (hi:i=m) (hm:m<=xs.length):Qy P N H0 s (.slice T x none (some y) none) ty (.sl enc (xs.take m)):=λF H L hab=>by
 have h1:=(hab.ev hx).sim
 have h2:=(hab.ev hy).sim
 obtain⟨k0,hs,hb⟩:=h1.slh
 have hsz:=(Bn_ ht hte).sz
 obtain⟨⟨a,c,hv,hc⟩,hall⟩:=hs
 have hs':SlH (RowE enc te.size) te.size H (.slice a xs.length c) xs:=by
   refine⟨⟨a,c,rfl,hc⟩,λm hm=>?_⟩
   obtain⟨cs,hE,hat⟩:=hall m hm
   have e:k0=te.size:=by rw[<- hE.1,hw]
   subst e
   rw[hv] at hat
   exact⟨cs,hE,hat⟩
 have hr:=Ts_ hs' hm
 have hlen:m=(xs.take m).length:=by simp;omega
 exact⟨_,Sim.simT (Sim.of_slh hr xN) Y,λH' L' _=>Hj_ m hv h2.inv_int.1 ((Bn_ ht hti).slc htk) hsz hi (Nat.le_trans hm hc)⟩
theorem saeq {ps qs:List PV} {r:Bool} (hx:evP s.F x = .agg ps) (hy:evP s.F y = .agg qs) (hm:P.eqGuardType P.depth T=false) (h:∀ H vs us,Sims H ps vs->Sims H qs us->EqV P 10000 T (.agg vs.toArray) (.agg us.toArray) r):Qy P N H0 s (.binOp .eql T x y T') ty (.bool r):=λF H L ha=>by
 obtain⟨vs,e1,h1⟩:=(ha.ev hx).sim.inv_agg
 obtain⟨us,e2,h2⟩:=(ha.ev hy).sim.inv_agg
 exact⟨.bool r,Sim.bool,λH' L' _=>lo_aeql e1 e2 hm (h H vs us h1 h2)⟩
theorem sane {ps qs:List PV} {r:Bool} (hx:evP s.F x = .agg ps) (hy:evP s.F y = .agg qs) (hm:P.eqGuardType P.depth T=false) (h:∀ H vs us,Sims H ps vs->Sims H qs us->EqV P 10000 T (.agg vs.toArray) (.agg us.toArray) r):Qy P N H0 s (.binOp .neq T x y T') ty (.bool (!r)):=λF H L ha=>by
 obtain⟨vs,e1,h1⟩:=(ha.ev hx).sim.inv_agg
 obtain⟨us,e2,h2⟩:=(ha.ev hy).sim.inv_agg
 exact⟨.bool (!r),Sim.bool,λH' L' _=>lo_aneq e1 e2 hm (h H vs us h1 h2)⟩
theorem sw_own {α:Type} {t k e:Nat} {c:Code} (i:Nat) (enc:α->List PV) (hF:s.F t = .val (.slice none 0 0)) (hno:s.L i = .no) (kk:Hd P n N H0 Q (.code c) ks ⟨updp (F8_ i s.F) t (.osl i),lups (Df_ i s.L) i (.arr (.slice none 0 0) k e enc [])⟩):Hd P n N H0 Q (.code c) ks s:=λF H L ha=>by
 have hL0:Abs H0 s F H (lupd L i none):=⟨ha.le,ha.g,ha.f,λj=>by
   by_cases e:j=i
   . subst e;rw[hno];trivial
   . rw[E_ _ _ _ _ e];exact ha.l j⟩
 have h1:=(ha.f t).sim
 rw[hF] at h1
 have h2:=hL0.turn i (B:= .arr (.slice none 0 0) k e enc []) (x:=none) ⟨[],Gu_,No_,by simp⟩
 have e2:lupd (lupd L i none) i none=lupd L i none:=by funext j;simp only[lupd];cases Nat.beq j i<;>rfl
 rw[e2] at h2
 refine Ka_ (λw hm=>hm.clear i) (kk F H _ ⟨h2.le,h2.g,λq=>?_,h2.l⟩)
 by_cases e:q=t
 . subst e;simp only[H2_,SimT,Bu_];exact h1.inv_val
 . simp only[Mb_ _ _ _ _ e];exact h2.f q
end Go.SW
namespace Go.SW
variable {P:Program} {n:Nat} {N:Rest} {H0:Env} {all rest:List Oper} {Q:Qs} {ks:List Kt} {s:St} {T T' T2 ty d:Nat} {pos:String} {af:Array Edge} {x y z:Operand} {K:St->Prop} {op:Op} {p:PV}
theorem qconv {tb:Tb} {ti td:TI} {k k':IntKind} {a:Int} (ht:tbB P tb=true) (hx:evP s.F x = .int k a) (hti:lkT tb T=some ti) (htd:lkT tb T'=some td) (hk:td.k = .int k') (h:k'.min<=a/\a<=k'.max):Qy P N H0 s (.convert T T' x) ty (.int k' a):=λF H L ha=>
 ⟨_,Sim.int h.1 h.2,λ_ _ _=>Fy_ (ha.ev hx).sim.inv_int.1 (Bn_ ht hti).isSome ((Bn_ ht htd).int hk) h⟩
end Go.SW
namespace Go.SW
variable {P:Program} {n:Nat} {N:Rest} {H0:Env} {Q:Qs} {ks:List Kt} {s:St}
theorem cndT {c:Operand} {x y:Code} {b:Bool} (hc:evP s.F c = .bool b) (hb:b=true) (k:Hd P n N H0 Q (.code x) ks s):Hd P n N H0 Q (.code (.cond c x y)) ks s:=cnd hc (λ_=>k) (λe=>by rw[hb] at e;cases e)
theorem cndF {c:Operand} {x y:Code} {b:Bool} (hc:evP s.F c = .bool b) (hb:b=false) (k:Hd P n N H0 Q (.code y) ks s):Hd P n N H0 Q (.code (.cond c x y)) ks s:=cnd hc (λe=>by rw[hb] at e;cases e) (λ_=>k)
variable {tb:Tb} {rs:List ResultVar} {res p q r:PV} {as0 bs:List Nat}
theorem rt1 (h:Jt_ tb s rs=some ([p],as0,bs)) (he:as0=bs) (hp:PLe p res):Hd P n N H0 (rtK tb rs res) (.ex .ret) [] s:=rt h he hp
def i64c (z:Int):List PV:=[.int .i64 z]
def slc {α:Type} (enc:α->List PV) (l:List α):List PV:=[.sl enc l]
end Go.SW
namespace Go.SW
variable {P:Program} {n:Nat} {N:Rest} {H0:Env} {all rest:List Oper} {Q:Qs} {ks:List Kt} {s:St}
theorem Abs.freeze {i t b b' off T0:Nat} {cs:List PV} {F:Fr} {H H':Hp} {L:Ls} (ha:Abs H0 s F H L) (hF:s.F t = .own i b off) (hL:s.L i = .box b' T0 cs) (hbb:b'=b) (hn:A6_ cs=true) (hl:HLe H H') (hH:∀ b o,L i=some (b,o)->H' b=some o):Abs H0 ⟨updp s.F t (.el cs off),lups s.L i .no⟩ F H' (lupd L i none):=by
 subst hbb;have h1:=ha.l i;rw[hL] at h1;obtain⟨vs,hLi,hs⟩:=h1;have h2:=hH _ _ hLi;have h3:=(ha.f t).sim;rw[hF] at h3;have hat:SlAt H' (.slice (some ⟨b',0,none⟩) 1 1) vs.length 0 vs:=⟨b',0,1,1,vs.toArray,T0,(0,0),rfl,h2,rfl,λj _=>by simp⟩;have hel:Sim H' (.el cs off) (F t):=by
   have :=Sim.el (row:=cs) (o:=off) hat hs.1.symm (λj p v hp hv=>((hs.sims.mono hl).2 j p v hp hv))
   rw[h3.inv_own]
   simpa [sBlk,sOff] using this
 have hb:=(ha.mono hl).turnB (B:= .no) i Z (x:=none) Z;refine⟨hb.le,hb.g,λq=>?_,hb.l⟩;by_cases e:q=t;subst e;simp only[H2_];exact hel.simT Y;simp only[Mb_ _ _ _ _ e];exact hb.f q
theorem freeze {i t b b' off T0:Nat} {cs:List PV} (hF:s.F t = .own i b off) (hL:s.L i = .box b' T0 cs) (hbb:b'=b) (hn:A6_ cs=true) (k:Hd P n N H0 Q (.ops all rest) ks ⟨updp s.F t (.el cs off),lups s.L i .no⟩):Hd P n N H0 Q (.ops all rest) ks s:=by
 intro F H L ha;exact Nf_ i Y λH' hl hg=>k _ _ _ (ha.freeze hF hL hbb hn hl hg)
end Go.SW
namespace Go.SW
variable {P:Program} {n:Nat} {N:Rest} {H0:Env} {s:St} {tb:Tb} {rs:List ResultVar} {res p q0:PV} {b b' T:Nat} {post q:List PV} {as0 bs:List Nat}
end Go.SW
namespace Go.SW
variable {P:Program} {n:Nat} {N:Rest} {H0:Env} {all rest:List Oper} {Q:Qs} {ks:List Kt} {s:St}
end Go.SW
namespace Go.SW
theorem Nn_ {z:Int} (h:-9223372036854775808<=z/\z<=9223372036854775807):IntKind.min .i64<=z/\z<=IntKind.max .i64:=h
theorem rg_u32 {z:Int} (h:0<=z/\z<=4294967295):IntKind.min .u32<=z/\z<=IntKind.max .u32:=h
theorem rg_u64 {z:Int} (h:0<=z/\z<=18446744073709551615):IntKind.min .u64<=z/\z<=IntKind.max .u64:=h
theorem wr_u8 (z:Int):0<=IntKind.wrap .u8 z/\IntKind.wrap .u8 z<=255:=by
 exact yW
theorem Nu_ (z:Int):0<=IntKind.wrap .u32 z/\IntKind.wrap .u32 z<=4294967295:=by
 exact yW
theorem beqT {a b:Bool} (h:(a==b)=true):a=b:=by simpa using h
def letter (c:Int):Bool:=decide (97<=c) && decide (c<=122) || decide (48<=c) && decide (c<=57) || decide (c=45) || decide (c=95)
def plain (s:Bs):Bool:=s.all λc=>letter c.toNat
def Dt_ (s:Bs):Int:=if s=[] then 15 else if (16:Int)<s.length then 5 else if plain s then 0 else 4
theorem u8r (c:UInt8):0<=(c.toNat:Int)/\(c.toNat:Int)<=255:=by have :=c.toNat_lt;omega
theorem Pa_ {s:Bs} {k:Nat} (h:k<s.length):s.drop k=s.getD k 0::s.drop (k+1):=by
 rw[List.drop_eq_getElem_cons h];simp[List.getD_eq_getElem?_getD,h]
structure Out where
 s:Bs
 err:Int
def Out.cells (o:Out):List Value:=[str o.s, .int .i64 o.err]
structure In where
 s:Bs
 err:Int
def In.cells (i:In):List Value:=[str i.s, .int .i64 i.err]
def numB:Nat->Nat->Bs
 |0,_=>[]
 |k+1,n=>UInt8.ofNat (n/256 ^ k)::numB k n
def numK (bytes:Int):Nat:=(min (max bytes 0) 8).toNat
def C0_ (o:Out) (n bytes:Int):Out:=⟨o.s++numB (numK bytes) n.toNat,o.err⟩
def U3_ (o:Out) (s:Bs):Out:=⟨o.s++s,o.err⟩
def Ed_ (o:Out) (s:Bs):Out:=if (65535:Int)<s.length then (if o.err=0 then ⟨o.s,5⟩ else o) else U3_ (C0_ o s.length 2) s
theorem wrap8r (z:Int):0<=IntKind.wrap .u8 z/\IntKind.wrap .u8 z<=255:=by
 simp[IntKind.wrap,IntKind.bits,IntKind.signed];omega
theorem byte_of {n:Int} {j:Nat} (hn:0<=n) (hj:1<=j) (hj8:j<=8):UInt8.ofNat (IntKind.wrap .u8 (n.fdiv (2 ^ (min (8*((j:Int)-1)).toNat IntKind.u64.bits)))).toNat=UInt8.ofNat (n.toNat/256 ^ (j-1)):=by
 obtain⟨m,rfl⟩:=Int.eq_ofNat_of_zero_le hn;obtain⟨q,rfl⟩:∃ q,j=q+1:=⟨j-1,by omega⟩;have e1:(8*(((q+1:Nat):Int)-1)).toNat=8*q:=by omega
 have eb:IntKind.u64.bits=64:=rfl;have e2:min (8*q) IntKind.u64.bits=8*q:=by rw[eb];omega
 have e3:((2:Int) ^ (8*q))=((256 ^ q:Nat):Int):=by
   rw[Int.pow_mul];simp
 rw[e1,e2,e3,Int.toNat_natCast,Nat.add_sub_cancel];have e4:((m:Int).fdiv ((256 ^ q:Nat):Int))=((m/256 ^ q:Nat):Int):=by
   rw[Int.fdiv_eq_ediv_of_nonneg _ (Int.natCast_nonneg _)];simp
 rw[e4];generalize m/256 ^ q=z
 apply UInt8.toNat_inj.1
 simp[IntKind.wrap,IntKind.bits,IntKind.signed,UInt8.toNat_ofNat']
 try omega
theorem Sd_ {e n:Nat} {v:Value} {en:Option (Nat×Obj)} {bs:Bs} {z:Int} (h:OwnV 1 e v en n (bs.map u8v++[.int .u8 z])) (hn:n=bs.length+1) (hz:0<=z/\z<=255):OwnV 1 e v en (bs++[UInt8.ofNat z.toNat]).length ((bs++[UInt8.ofNat z.toNat]).map u8v):=
 Q5_ h (by simp[hn]) (by simp[u8v_of hz.1 hz.2])
theorem Gr_:∀ (k n:Nat),(numB k n).length=k
 |0,_=>rfl
 |k+1,n=>by simp[numB,Gr_ k n]
def dots:Bs->List Bs
 |[]=>[[]]
 |c::r=>if c=46 then []::dots r else match dots r with
   |[]=>[[c]]
   |w::t=>(c::w)::t
def wordsOf (s:Bs):List Bs:=if s=[] then [] else dots s
theorem Hz_:∀ s:Bs,Lib.splitK [46] 0 (Lib.count s [46]) s=dots s
 |[]=>by rw[Lib.count_miss (by simp[Lib.index])];rfl
 |b::l=>by
   have ih:=Hz_ l
   by_cases hb:b=46
   . subst hb
     rw[Lib.count_cons_eq,Nat.add_comm]
     have hix:Lib.index (46::l) [46]=0:=by rw[Lib.index];simp[List.isPrefixOf]
     unfold Lib.splitK dots
     rw[hix]
     simp[ih]
   . rw[Lib.count_cons_ne _ _ _ hb]
     have hp:([46]:List UInt8).isPrefixOf (b::l)=false:=by simp[List.isPrefixOf,Ne.symm hb]
     have hix:Lib.index (b::l) [46] = if Lib.index l [46] == -1 then -1 else Lib.index l [46]+1:=by rw[Lib.index,hp];simp
     unfold dots
     rw[if_neg hb,<- ih]
     cases hc:Lib.count l [46] with
     |zero=>rfl
     |succ k=>
       unfold Lib.splitK
       rw[hix]
       by_cases hm:Lib.index l [46] = -1
       . rw[Lib.count_miss hm] at hc;cases hc
       . have hge:=Lib.index_ge l [46]
         obtain⟨j,hj⟩:∃ j:Nat,Lib.index l [46]=j:=⟨(Lib.index l [46]).toNat,by omega⟩
         exact yP
theorem Hx_ (s:Bs):(Lib.splitB ⟨#[46]⟩ 0 (Lib.countB ⟨s.toArray⟩ ⟨#[46]⟩) ⟨s.toArray⟩).map Value.string=(dots s).map str:=by
 have h:=Lib.splitB_data ⟨#[46]⟩ 0 (Lib.countB ⟨s.toArray⟩ ⟨#[46]⟩) ⟨s.toArray⟩;have hc:Lib.countB ⟨s.toArray⟩ ⟨#[46]⟩=Lib.count s [46]:=by simp[Lib.countB]
 rw[hc] at h ⊢;have e:=Hz_ s;exact yU
theorem Of_ (s:Bs):Lib.countB ⟨s.toArray⟩ ⟨#[46]⟩+1=(dots s).length:=by
 have h:=congrArg List.length (Hx_ s);rw[List.length_map,List.length_map,Lib.splitB_all ⟨#[46]⟩ xQ 0 _ _ rfl] at h;exact h
theorem Fu_:∀ (s w:Bs),w∈dots s->w.length<=s.length
 |[],w,h=>by simp[dots] at h;simp[h]
 |c::r,w,h=>by
   unfold dots at h
   split at h
   . rcases List.mem_cons.1 h with rfl|h
     . simp
     . have :=Fu_ r w h;simp;omega
   . split at h
     . simp at h;subst h;simp
     . rename_i x t e
       have ih:=Fu_ r
       rw[e] at ih
       rcases List.mem_cons.1 h with rfl|h
       . have :=ih x xP;simp;omega
       . have :=ih w (by simp[h]);simp;omega
def isBad (besides:List Bs) (w:Bs):Bool:=!(besides.contains w)&&(w==[]||!plain w)
def keyE (besides:List Bs) (s:Bs):Int:=if (64:Int)<s.length then 5 else if (wordsOf s).any (isBad besides) then 4 else 0
structure Pair where
 key:Bs
 kind:Int
 num:Int
 text:Bs
deriving DecidableEq
def Pair.cells (p:Pair):List Value:=[str p.key, .int .u8 p.kind, .int .i64 p.num,str p.text]
def Pair.wf (p:Pair):Prop:=(0<=p.kind/\p.kind<=255)/\(-9223372036854775808<=p.num/\p.num<=9223372036854775807)/\p.key.length<=9223372036854775807/\p.text.length<=9223372036854775807
def Pair.zero:Pair:=⟨[],0,0,[]⟩
def findP (h:List Pair) (key:Bs):Option Pair:=h.find? λp=>p.key==key
def Q7_ (p:Pair) (ahead:List Pair):Int:=
 if Dt_ p.key≠0 then Dt_ p.key else if 2<p.kind then 8 else if p.kind=1/\(64:Int)<p.text.length then 5 else if p.kind=2/\p.num≠0/\p.num≠1 then 7 else if p.kind=1/\p.num≠0\/p.kind≠1/\p.text≠[] then 4 else if (findP ahead p.key).isSome then 9 else 0
def Uh_:List Pair->List Pair->Int
 |_,[]=>0
 |ahead,p::r=>if Q7_ p ahead≠0 then Q7_ p ahead else Uh_ (ahead++[p]) r
def Pu_ (h:List Pair):Int:=if (8:Int)<h.length then 6 else Uh_ [] h
def pairOut (o:Out) (p:Pair):Out:=
 if p.kind=0 then C0_ (C0_ (Ed_ o p.key) p.kind 1) (IntKind.wrap .u64 p.num) 8
 else if p.kind=1 then Ed_ (C0_ (Ed_ o p.key) p.kind 1) p.text
 else if p.kind=2 then C0_ (C0_ (Ed_ o p.key) p.kind 1) (IntKind.wrap .u64 p.num) 1
 else C0_ (Ed_ o p.key) p.kind 1
def headOut (h:List Pair):Out:=h.foldl pairOut (C0_ ⟨[],0⟩ h.length 1)
def Pt_ (h:List Pair):Bs:=if Pu_ h=0 then (headOut h).s else []
structure Mail where
 id:Int
 D5_:Bs
 key:Bs
 head:List Pair
 body:Bs
 due:Int
 hops:Int
deriving DecidableEq
def Mail.cells (m:Mail) (a:Option Addr) (c:Nat):List Value:=[.int .u64 m.id,str m.D5_,str m.key, .slice a m.head.length c,str m.body, .int .u64 m.due, .int .u8 m.hops]
def Mail.wf (m:Mail):Prop:=(0<=m.id/\m.id<=18446744073709551615)/\(0<=m.due/\m.due<=18446744073709551615)/\(0<=m.hops/\m.hops<=255)/\m.D5_.length<=9223372036854775807/\m.key.length<=9223372036854775807/\m.body.length<=9223372036854775807/\m.head.length<=9223372036854775807
structure Reply where
 channel:Int
 kind:Int
 n:Int
 m:Int
 yes:Bool
 name:Bs
 A8_:Mail
deriving DecidableEq
def Reply.cells (r:Reply) (a:Option Addr) (c:Nat):List Value:=[.int .u8 r.channel, .int .u8 r.kind, .int .u64 r.n, .int .u64 r.m, .bool r.yes,str r.name, .int .u64 r.A8_.id,str r.A8_.D5_,str r.A8_.key, .slice a r.A8_.head.length c,str r.A8_.body, .int .u64 r.A8_.due, .int .u8 r.A8_.hops]
def Reply.wf (r:Reply):Prop:=(0<=r.channel/\r.channel<=255)/\(0<=r.kind/\r.kind<=255)/\(0<=r.n/\r.n<=18446744073709551615)/\(0<=r.m/\r.m<=18446744073709551615)/\r.name.length<=9223372036854775807/\r.A8_.wf
def GTab (H:Hp) (g:Nat) (zs:List Int):Prop:=∃ T fr,H g=some (.cells (zs.map (Value.int .u32)).toArray T fr)
theorem GTab.mono {H H':Hp} {g:Nat} {zs:List Int} (h:GTab H g zs) (hl:HLe H H'):GTab H' g zs:=by
 exact zU
def laidT:List Int:=[0x00000000,0x1db71064,0x3b6e20c8,0x26d930ac,0x76dc4190,0x6b6b51f4,0x4db26158,0x5005713c,0xedb88320,0xf00f9344,0xd6d6a3e8,0xcb61b38c,0x9b64c2b0,0x86d3d2d4,0xa00ae278,0xbdbdf21c]
theorem tab_get {m:Nat} (h:m<16):(laidT.map (Value.int .u32)).toArray[m*1]? = some (.int .u32 (laidT.getD m 0)):=by
 have hl:m<laidT.length:=h;simp[List.getD_eq_getElem?_getD,hl]
abbrev R8_ (a b:Int):Int:=IntKind.wrap .u32 ((BitVec.ofInt (IntKind.bits .u32) a ^^^ BitVec.ofInt (IntKind.bits .u32) b).toNat)
abbrev Os_ (a b:Int):Int:=IntKind.wrap .u32 ((BitVec.ofInt (IntKind.bits .u32) a &&& BitVec.ofInt (IntKind.bits .u32) b).toNat)
theorem Mf_ (a:Int):(Os_ a 15).toNat<16:=by
 have h1:(BitVec.ofInt (IntKind.bits .u32) a &&& BitVec.ofInt (IntKind.bits .u32) 15).toNat<=15:=by
   rw[BitVec.toNat_and];exact Nat.le_trans Nat.and_le_right xQ
 unfold Os_;generalize (BitVec.ofInt (IntKind.bits .u32) a &&& BitVec.ofInt (IntKind.bits .u32) 15).toNat=z at *;exact yW
def crc1 (r:Int):Int:=R8_ (Int.fdiv r (2 ^ (min (4:Int).toNat (IntKind.bits .u32)))) (laidT.getD (Os_ r 15).toNat 0)
def Se_:Nat->Int->Int
 |0,r=>r
 |k+1,r=>Se_ k (crc1 r)
def I3_ (r b:Int):Int:=Se_ 2 (R8_ r b)
structure Frame where
 channel:Int
 kind:Int
 body:Bs
deriving DecidableEq
def Frame.cells (f:Frame):List Value:=[.int .u8 f.channel, .int .u8 f.kind,str f.body]
def Frame.wf (f:Frame):Prop:=(0<=f.channel/\f.channel<=255)/\(0<=f.kind/\f.kind<=255)/\f.body.length<=9223372036854775807
def Frame.zero:Frame:=⟨0,0,[]⟩
variable {P:Program} {n:Nat} {N:Rest} {H0:Env} {s:St} {T ty:TypeId} {y:Operand}
end Go.SW
namespace Go.SW
variable {P:Program} {n:Nat} {N:Rest} {H0:Env} {all rest:List Oper} {Q:Qs} {ks:List Kt} {s:St} {T T' T2 ty d:Nat} {pos:String} {af:Array Edge} {x y z:Operand} {K:St->Prop} {op:Op} {p:PV}
end Go.SW
namespace Go.SW
variable {P:Program} {n:Nat} {N:Rest} {H0:Env} {s:St}
end Go.SW
namespace Go.SW
variable {P:Program} {n:Nat} {N:Rest} {H0:Env} {s:St} {ty:TypeId}
end Go.SW
namespace Go.SW
variable {P:Program} {n:Nat} {N:Rest} {H0:Env} {all:List Oper} {s:St} {K:St->Prop}
end Go.SW
namespace Go.SW
variable {P:Program} {n:Nat} {N:Rest} {H0:Env} {all rest:List Oper} {Q:Qs} {ks:List Kt} {s:St}
end Go.SW
namespace Go.SW
section
variable {α:Type} {P:Program} {n:Nat} {N:Rest} {F:Fr} {H:Hp} {L:Ls} {ops:List Oper} {T T' T2 ty d:TypeId} {x y z:Operand} {pos:String} {af:Array Edge} {K:Fr->Hp->Ls->Prop}
end
variable {P:Program} {n:Nat} {N:Rest} {H0:Env} {all rest:List Oper} {Q:Qs} {ks:List Kt} {s:St} {T T' T2 ty d:Nat} {pos:String} {af:Array Edge} {x y z:Operand} {K:St->Prop} {op:Op} {p:PV}
end Go.SW
namespace Go.SW
variable {P:Program} {n:Nat} {N:Rest} {H0:Env} {all rest:List Oper} {Q:Qs} {ks:List Kt} {s:St} {T T' T2 ty d:Nat} {pos:String} {af:Array Edge} {x y z:Operand} {K:St->Prop} {op:Op} {p:PV}
def Pl (P:Program) (f:FuncId) (args:Array Value) (H:Hp) (en:Option (Nat×Obj)) (R:Value->Hp->Option (Nat×Obj)->Prop):Prop:=
 ∀ N L w i,L i=en->Mem N H L w->Calls P f args w λe w'=>∃ v H' en',e = .returned v/\R v H' en'/\HLe H H'/\Mem N H' (lupd L i en') w'
end Go.SW
namespace Go.SW.V
open Go.SW
variable {P:Program} {n:Nat} {N:Rest} {H0:Env} {all rest:List Oper} {Q:Qs} {ks:List Kt} {fF:Nat->PV} {fL:Nat->Blk} {T T' T2 ty d:Nat} {pos:String} {af:Array Edge} {x y z:Operand} {K:St->Prop} {op:Op} {p:PV}
theorem call {all rest:List Oper} {Q:Qs} {ks:List Kt} {f:FuncId} {args:List PV} {res:PV} {x:Operand} {xs:Array Operand} {ats:Array TypeId} {ty d:Nat} {pos:String} {af:Array Edge} (h:Fn P H0.g f args res) (ha:argsP fF x xs.toList=some (f,args)) (hd:Nat.blt d n=true) (k:res.wf->Hd P n N H0 Q (.ops all rest) ks ⟨updp fF d res,fL⟩):Hd P n N H0 Q (.ops all (⟨some d, .call ⟨.value x,xs,ats⟩,ty,pos,af,none⟩::rest)) ks ⟨fF,fL⟩:=SW.call (s:=⟨fF,fL⟩) h ha hd k
theorem callg {all rest:List Oper} {Q:Qs} {ks:List Kt} {f:FuncId} {args:List PV} {res:PV} {x:Operand} {xs:Array Operand} {ats:Array TypeId} {ty d j:Nat} {want g:Bool} {pos:String} {af:Array Edge} (hg:gOp ⟨fF,fL⟩ all j want=some g) (h:g=true->Fn P H0.g f args res) (ha:argsP (strG (Ew_ xs.toList) fF) x xs.toList=some (f,args)) (hc:AllP (E2_ fF g (Ew_ xs.toList) [])) (hno:Cy_ fF (Ew_ xs.toList)=true) (hd:Nat.blt d n=true) (k:(g=true->res.wf)->Hd P n N H0 Q (.ops all rest) ks ⟨updp fF d (.gv g res),fL⟩):Hd P n N H0 Q (.ops all (⟨some d, .call ⟨.value x,xs,ats⟩,ty,pos,af,some (j,want)⟩::rest)) ks ⟨fF,fL⟩:=SW.callg (s:=⟨fF,fL⟩) hg h ha hc hno hd k
theorem cnd {Q:Qs} {ks:List Kt} {c:Operand} {x y:Code} {b:Bool} (hc:evP fF c = .bool b) (ht:b=true->Hd P n N H0 Q (.code x) ks ⟨fF,fL⟩) (hf:b=false->Hd P n N H0 Q (.code y) ks ⟨fF,fL⟩):Hd P n N H0 Q (.code (.cond c x y)) ks ⟨fF,fL⟩:=SW.cnd (s:=⟨fF,fL⟩) hc ht hf
theorem cn {Q:Qs} {ks:List Kt} {c:Operand} {x y:Code} {p:Prop} [Decidable p] (hc:evP fF c=.bool (decide p)) (ht:p->Hd P n N H0 Q (.code x) ks ⟨fF,fL⟩) (hf:¬p->Hd P n N H0 Q (.code y) ks ⟨fF,fL⟩):Hd P n N H0 Q (.code (.cond c x y)) ks ⟨fF,fL⟩:=cnd hc (λh=>ht (of_decide_eq_true h)) λh=>hf (of_decide_eq_false h)
theorem loop {ι:Type _} {c:Code} {ks:List Kt} {Q:Qs} (keep kL:List Nat) (lv:ι->List (Nat×PV)) (lL:ι->List (Nat×Blk)) (Φ:ι->Prop) (μ:ι->Nat) (x0:ι) (h1:AllF fF (lv x0)) (h2:AllL fL (lL x0)) (hΦ:Φ x0) (body:∀ x,Φ x->Hd P n N H0 Q (.code c) (.lp (LJ (λx=>⟨mkF (lv x) keep fF,mkL (lL x) kL fL⟩) Φ μ (μ x))::ks) ⟨mkF (lv x) keep fF,mkL (lL x) kL fL⟩):Hd P n N H0 Q (.code (.loop c)) ks ⟨fF,fL⟩:=SW.loop (s:=⟨fF,fL⟩) keep kL lv lL Φ μ x0 h1 h2 hΦ body
theorem ef {o:Oper} {j:Option Nat} (h:E1 P n N H0 all o j ⟨fF,fL⟩ (λs'=>Hd P n N H0 Q (.ops all rest) ks s')):Hd P n N H0 Q (.ops all (o::rest)) ks ⟨fF,fL⟩:=SW.ef (s:=⟨fF,fL⟩) h
theorem boxA (i:Nat) {cs:List PV} (hx:evP fF x = .agg cs) (hn:A6_ cs=true) (hd:Nat.blt d n=true) (k:∀ b,K ⟨updp fF d (.own i b 0),lups fL i (.box b T cs)⟩):E1 P n N H0 all ⟨some d, .box T x,ty,pos,af,none⟩ (some i) ⟨fF,fL⟩ K:=SW.boxA (s:=⟨fF,fL⟩) i hx hn hd k
theorem box1 (i:Nat) {p:PV} (hx:evS (evP fF x)=some p) (ho:p.one=true) (hd:Nat.blt d n=true) (k:∀ b,K ⟨updp fF d (.own i b 0),lups fL i (.box b T [p])⟩):E1 P n N H0 all ⟨some d, .box T x,ty,pos,af,none⟩ (some i) ⟨fF,fL⟩ K:=SW.box1 (s:=⟨fF,fL⟩) i hx ho hd k
theorem alloc {tb:Tb} {ti:TI} {zs:List PV} (ht:tbB P tb=true) (i:Nat) (hti:lkT tb T=some ti) (hz:evL ti.zero=some zs) (hn:A6_ zs=true) (hd:Nat.blt d n=true) (k:∀ b,K ⟨updp fF d (.own i b 0),lups fL i (.box b T zs)⟩):E1 P n N H0 all ⟨some d, .alloc T,ty,pos,af,none⟩ (some i) ⟨fF,fL⟩ K:=SW.alloc (s:=⟨fF,fL⟩) ht i hti hz hn hd k
theorem store1 {tb:Tb} {ti:TI} {i b b' off T0:Nat} {cs cs':List PV} {p:PV} (ht:tbB P tb=true) (hx:evP fF x = .own i b off) (hb:fL i = .box b' T0 cs) (hti:lkT tb T=some ti) (hsz:ti.size=1) (hy:evS (evP fF y)=some p) (ho:p.one=true) (hl:Nat.blt off cs.length=true) (hbb:b'=b) (hc:evL (cs.set off p)=some cs') (k:K ⟨fF,lups fL i (.box b T0 cs')⟩):E1 P n N H0 all ⟨none, .store T x y,ty,pos,af,none⟩ (some i) ⟨fF,fL⟩ K:=SW.store1 (s:=⟨fF,fL⟩) ht hx hb hti hsz hy ho hl hbb hc k
theorem storeA {tb:Tb} {ti:TI} {i b b' off T0:Nat} {cs ps cs':List PV} (ht:tbB P tb=true) (hx:evP fF x = .own i b off) (hb:fL i = .box b' T0 cs) (hti:lkT tb T=some ti) (hy:evP fF y = .agg ps) (hn:A6_ ps=true) (ho:all1 ps=true) (hsz:ps.length=ti.size) (hl:Nat.ble (off+ti.size) cs.length=true) (hbb:b'=b) (hc:evL (cs.take off++(ps++cs.drop (off+ti.size)))=some cs') (k:K ⟨fF,lups fL i (.box b T0 cs')⟩):E1 P n N H0 all ⟨none, .store T x y,ty,pos,af,none⟩ (some i) ⟨fF,fL⟩ K:=SW.storeA (s:=⟨fF,fL⟩) ht hx hb hti hy hn ho hsz hl hbb hc k
theorem src_l {α:Type} {enc:α->List PV} {k:Nat} {ys:List α} (hy:evP fF y = .sl enc ys) (hk:∀ a,(enc a).length=k):SrcP P N H0 ⟨fF,fL⟩ enc k y ys:=SW.src_l (s:=⟨fF,fL⟩) hy hk
theorem src_o {α:Type} {enc:α->List PV} {i e k:Nat} {u:Value} {ys:List α} (hy:evP fF y = .osl i) (hb:fL i = .arr u k e enc ys):SrcP P N H0 ⟨fF,fL⟩ enc k y ys:=SW.src_o (s:=⟨fF,fL⟩) hy hb
theorem app {α:Type} {tb:Tb} {i e k:Nat} {u:Value} {enc:α->List PV} {xs:List α} {te:TI} (ht:tbB P tb=true) (ys:List α) (hx:evP fF x = .osl i) (hb:fL i = .arr u k e enc xs) {ti:TI} (hti:lkT tb T=some ti) (htk:ti.k = .slc e) (hT2:Na_ tb T2=true) (hte:lkT tb e=some te) (hz:te.zero.length=te.size) (hby:Nat.blt 0 te.bytes=true) (hk:te.size=k) (hy:SrcP P N H0 ⟨fF,fL⟩ enc k y ys) (hs:(xs.length+ys.length)*te.bytes<=140737488355328) (hd:Nat.blt d n=true) (kk:∀ u',K ⟨updp (F8_ i fF) d (.osl i),lups (Df_ i fL) i (.arr u' k e enc (xs++ys))⟩):E1 P n N H0 all ⟨some d, .call ⟨.builtin .append,#[x,y],#[T,T2]⟩,ty,pos,af,none⟩ (some i) ⟨fF,fL⟩ K:=SW.app (s:=⟨fF,fL⟩) ht ys hx hb hti htk hT2 hte hz hby hk hy hs hd kk
theorem bsl {α:Type} {tb:Tb} (i:Nat) {e len:Nat} {ps:Array (Nat×Operand)} (enc:α->List PV) (xs:List α) {rows:List (List PV)} {ti te:TI} (ht:tbB P tb=true) (hti:lkT tb T=some ti) (htk:ti.k = .slc e) (hte:lkT tb e=some te) (hr:bslP fF ps.toList 0=some rows) (hx:rows=xs.map enc) (hk:∀ a,(enc a).length=te.size) (hl:xs.length=len) (hs:len*te.size<=16777216) (hs2:len<=140737488355328) (hd:Nat.blt d n=true) (kk:∀ u',K ⟨updp (F8_ i fF) d (.osl i),lups (Df_ i fL) i (.arr u' te.size e enc xs)⟩):E1 P n N H0 all ⟨some d, .buildSlice T len ps,ty,pos,af,none⟩ (some i) ⟨fF,fL⟩ K:=SW.bsl (s:=⟨fF,fL⟩) i enc xs ht hti htk hte hr hx hk hl hs hs2 hd kk
theorem give {α:Type} {e k:Nat} {u:Value} {enc:α->List PV} {xs:List α} (i:Nat) (hb:fL i = .arr u k e enc xs) (kk:Hd P n N H0 Q (.ops all rest) ks ⟨Lm_ i enc xs fF,Ki_ i enc xs fL⟩):Hd P n N H0 Q (.ops all rest) ks ⟨fF,fL⟩:=SW.give (s:=⟨fF,fL⟩) i hb kk
theorem givec {α:Type} {e k:Nat} {u:Value} {enc:α->List PV} {xs:List α} {c:Code} (i:Nat) (hb:fL i = .arr u k e enc xs) (kk:Hd P n N H0 Q (.code c) ks ⟨Lm_ i enc xs fF,Ki_ i enc xs fL⟩):Hd P n N H0 Q (.code c) ks ⟨fF,fL⟩:=SW.givec (s:=⟨fF,fL⟩) i hb kk
theorem calll {α:Type} {e k:Nat} {u:Value} {enc:α->List PV} {ls:List α} {f:FuncId} {args:List PV} {res:PV} {xs:Array Operand} {ats:Array TypeId} (i:Nat) (hb:fL i = .arr u k e enc ls) (h:Fn P H0.g f args res) (hf:res.flat=true) (ha:argsP (Lm_ i enc ls fF) x xs.toList=some (f,args)) (hd:Nat.blt d n=true) (kk:res.wf->K ⟨updp fF d res,fL⟩):E1 P n N H0 all ⟨some d, .call ⟨.value x,xs,ats⟩,ty,pos,af,none⟩ none ⟨fF,fL⟩ K:=SW.calll (s:=⟨fF,fL⟩) i hb h hf ha hd kk
theorem any (xs:List Nat) (m:Nat) {id:Nat} {ops:Array Oper} (hmx:P.follows .mixedOrders=true) (hm:ops.toList.length=m) (h:Hv P n N H0 Q (some xs) ops.toList m (Array.replicate m false) ks ⟨fF,fL⟩):Hd P n N H0 Q (.code (.region id ops true)) ks ⟨fF,fL⟩:=SW.any (s:=⟨fF,fL⟩) xs m hmx hm h
theorem vdone {xs:Option (List Nat)} {fuel:Nat} {listed:Array Bool} (h:Region.ready .any all.toArray listed=[]) (k:Hd P n N H0 Q (.ex .normal) ks ⟨fF,fL⟩):Hv P n N H0 Q xs all fuel listed ks ⟨fF,fL⟩:=SW.vdone (s:=⟨fF,fL⟩) h k
theorem vcall {xs:Option (List Nat)} {fuel:Nat} {listed:Array Bool} {f:FuncId} {args:List PV} {res:PV} {as0:Array Operand} {ats:Array TypeId} (i:Nat) (hi:nth all i=some ⟨some d, .call ⟨.value x,as0,ats⟩,ty,pos,af,none⟩) (hck:(rdB all listed i&&apB n all listed i ⟨some d, .call ⟨.value x,as0,ats⟩,ty,pos,af,none⟩&&Nat.blt d n&&nosB (.call ⟨.value x,as0,ats⟩))=true) (h:Fn P H0.g f args res) (hf:res.flat=true) (ha:argsP fF x as0.toList=some (f,args)) (k:res.wf->Hv P n N H0 Q xs all fuel (listed.setIfInBounds i true) ks ⟨updp fF d res,fL⟩):Hv P n N H0 Q xs all (fuel+1) listed ks ⟨fF,fL⟩:=SW.vcall (s:=⟨fF,fL⟩) i hi hck h hf ha k
theorem vcallg {xs:Option (List Nat)} {fuel:Nat} {listed:Array Bool} {f:FuncId} {args:List PV} {res:PV} {as0:Array Operand} {ats:Array TypeId} {j:Nat} {want g:Bool} (i:Nat) (hi:nth all i=some ⟨some d, .call ⟨.value x,as0,ats⟩,ty,pos,af,some (j,want)⟩) (hck:(rdB all listed i&&apB n all listed i ⟨some d, .call ⟨.value x,as0,ats⟩,ty,pos,af,some (j,want)⟩&&Nat.blt d n&&nosB (.call ⟨.value x,as0,ats⟩))=true) (hg:gOp ⟨fF,fL⟩ all j want=some g) (h:g=true->Fn P H0.g f args res) (hf:res.flat=true) (ha:argsP (strG (Ew_ as0.toList) fF) x as0.toList=some (f,args)) (hc:AllP (E2_ fF g (Ew_ as0.toList) [])) (hno:Cy_ fF (Ew_ as0.toList)=true) (k:(g=true->res.wf)->Hv P n N H0 Q xs all fuel (listed.setIfInBounds i true) ks ⟨updp fF d (.gv g res),fL⟩):Hv P n N H0 Q xs all (fuel+1) listed ks ⟨fF,fL⟩:=SW.vcallg (s:=⟨fF,fL⟩) i hi hck hg h hf ha hc hno k
theorem ve {xs:List Nat} {fuel:Nat} {listed:Array Bool} {o:Oper} {j:Option Nat} (i:Nat) (hi:nth all i=some o) (hr:Region.ready .any all.toArray listed=[i]) (hj:(match j with|none=>true|some j=>memB xs j)=true) (h:E1 P n N H0 all o j ⟨fF,fL⟩ (λs'=>Hv P n N H0 Q (some xs) all fuel (listed.setIfInBounds i true) ks s')):Hv P n N H0 Q (some xs) all (fuel+1) listed ks ⟨fF,fL⟩:=SW.ve (s:=⟨fF,fL⟩) i hi hr hj h
theorem ecall {f:FuncId} {args:List PV} {res:PV} {as0:Array Operand} {ats:Array TypeId} (h:Fn P H0.g f args res) (ha:argsP fF x as0.toList=some (f,args)) (hd:Nat.blt d n=true) (k:res.wf->K ⟨updp fF d res,fL⟩):E1 P n N H0 all ⟨some d, .call ⟨.value x,as0,ats⟩,ty,pos,af,none⟩ none ⟨fF,fL⟩ K:=SW.ecall (s:=⟨fF,fL⟩) h ha hd k
theorem q1 (h:Qy P N H0 ⟨fF,fL⟩ op ty p) (hd:Nat.blt d n=true) (k:p.wf->Hd P n N H0 Q (.ops all rest) ks ⟨updp fF d p,fL⟩):Hd P n N H0 Q (.ops all (⟨some d,op,ty,pos,af,none⟩::rest)) ks ⟨fF,fL⟩:=SW.q1 (s:=⟨fF,fL⟩) h hd k
theorem eqy (h:Qy P N H0 ⟨fF,fL⟩ op ty p) (hd:Nat.blt d n=true) (k:p.wf->K ⟨updp fF d p,fL⟩):E1 P n N H0 all ⟨some d,op,ty,pos,af,none⟩ none ⟨fF,fL⟩ K:=SW.eqy (s:=⟨fF,fL⟩) h hd k
theorem vq {xs:Option (List Nat)} {fuel:Nat} {listed:Array Bool} (i:Nat) (h:Qy P N H0 ⟨fF,fL⟩ op ty p) (hi:nth all i=some ⟨some d,op,ty,pos,af,none⟩) (hck:(rdB all listed i&&apB n all listed i ⟨some d,op,ty,pos,af,none⟩&&Nat.blt d n&&nosB op)=true) (hl:Da_ op=false) (k:p.wf->Hv P n N H0 Q xs all fuel (listed.setIfInBounds i true) ks ⟨updp fF d p,fL⟩):Hv P n N H0 Q xs all (fuel+1) listed ks ⟨fF,fL⟩:=SW.vq (s:=⟨fF,fL⟩) i h hi hck hl k
theorem q1g {j:Nat} {want g:Bool} (ts:List Nat) (hg:gOp ⟨fF,fL⟩ all j want=some g) (h:g=true->Qy P N H0 (strS ts ⟨fF,fL⟩) op ty p) (hc:AllP (E2_ fF g ts [])) (hno:Cy_ fF ts=true) (hpo:p.noOsl=true) (hd:Nat.blt d n=true) (k:(g=true->p.wf)->Hd P n N H0 Q (.ops all rest) ks ⟨updp fF d (.gv g p),fL⟩):Hd P n N H0 Q (.ops all (⟨some d,op,ty,pos,af,some (j,want)⟩::rest)) ks ⟨fF,fL⟩:=SW.q1g (s:=⟨fF,fL⟩) ts hg h hc hno hpo hd k
theorem vqg {xs:Option (List Nat)} {fuel:Nat} {listed:Array Bool} {j:Nat} {want g:Bool} (i:Nat) (ts:List Nat) (hi:nth all i=some ⟨some d,op,ty,pos,af,some (j,want)⟩) (hck:(rdB all listed i&&apB n all listed i ⟨some d,op,ty,pos,af,some (j,want)⟩&&Nat.blt d n&&nosB op)=true) (hl:Da_ op=false) (hg:gOp ⟨fF,fL⟩ all j want=some g) (h:g=true->Qy P N H0 (strS ts ⟨fF,fL⟩) op ty p) (hc:AllP (E2_ fF g ts [])) (hno:Cy_ fF ts=true) (k:(g=true->p.wf)->Hv P n N H0 Q xs all fuel (listed.setIfInBounds i true) ks ⟨updp fF d (.gv g p),fL⟩):Hv P n N H0 Q xs all (fuel+1) listed ks ⟨fF,fL⟩:=SW.vqg (s:=⟨fF,fL⟩) i ts hi hck hl hg h hc hno k
theorem sidx {tb:Tb} {ti:TI} {a:Bs} {k:IntKind} {i:Int} (ht:tbB P tb=true) (m:Nat) (hx:evP fF x = .str a) (hy:evP fF y = .int k i) (hti:lkT tb T=some ti) (htk:ti.k = .str) (hi:i=m) (hm:m<a.length):Qy P N H0 ⟨fF,fL⟩ (.index T x y) ty (.int .u8 (a.getD m 0).toNat):=SW.sidx (s:=⟨fF,fL⟩) ht m hx hy hti htk hi hm
theorem qidx {α:Type} {tb:Tb} {ti te:TI} {e:TypeId} {enc:α->List PV} {xs:List α} {kk:IntKind} {i:Int} (ht:tbB P tb=true) (m:Nat) {a:α} (hx:evP fF x = .sl enc xs) (hy:evP fF y = .int kk i) (hm:i=m) (ha:xs[m]? = some a) (hti:lkT tb T=some ti) (hk:ti.k = .slc e) (hte:lkT tb e=some te) (hsz:te.size=(enc a).length):Qy P N H0 ⟨fF,fL⟩ (.indexAddr T x y) ty (.el (enc a) 0):=SW.qidx (s:=⟨fF,fL⟩) ht m hx hy hm ha hti hk hte hsz
theorem lshi {α:Type} {tb:Tb} {ti te:TI} {e:TypeId} {enc:α->List PV} {xs:List α} {k:IntKind} {i:Int} (ht:tbB P tb=true) (m:Nat) (hx:evP fF x = .sl enc xs) (hy:evP fF y = .int k i) (hti:lkT tb T=some ti) (htk:ti.k = .slc e) (hte:lkT tb e=some te) (hw:∀ a,(enc a).length=te.size) (hi:i=m) (hm:m<=xs.length):Qy P N H0 ⟨fF,fL⟩ (.slice T x none (some y) none) ty (.sl enc (xs.take m)):=SW.lshi (s:=⟨fF,fL⟩) ht m hx hy hti htk hte hw hi hm
theorem saeq {ps qs:List PV} {r:Bool} (hx:evP fF x = .agg ps) (hy:evP fF y = .agg qs) (hm:P.eqGuardType P.depth T=false) (h:∀ H vs us,Sims H ps vs->Sims H qs us->EqV P 10000 T (.agg vs.toArray) (.agg us.toArray) r):Qy P N H0 ⟨fF,fL⟩ (.binOp .eql T x y T') ty (.bool r):=SW.saeq (s:=⟨fF,fL⟩) hx hy hm h
theorem sane {ps qs:List PV} {r:Bool} (hx:evP fF x = .agg ps) (hy:evP fF y = .agg qs) (hm:P.eqGuardType P.depth T=false) (h:∀ H vs us,Sims H ps vs->Sims H qs us->EqV P 10000 T (.agg vs.toArray) (.agg us.toArray) r):Qy P N H0 ⟨fF,fL⟩ (.binOp .neq T x y T') ty (.bool (!r)):=SW.sane (s:=⟨fF,fL⟩) hx hy hm h
theorem sw_own {α:Type} {t k e:Nat} {c:Code} (i:Nat) (enc:α->List PV) (hF:fF t = .val (.slice none 0 0)) (hno:fL i = .no) (kk:Hd P n N H0 Q (.code c) ks ⟨updp (F8_ i fF) t (.osl i),lups (Df_ i fL) i (.arr (.slice none 0 0) k e enc [])⟩):Hd P n N H0 Q (.code c) ks ⟨fF,fL⟩:=SW.sw_own (s:=⟨fF,fL⟩) i enc hF hno kk
theorem qconv {tb:Tb} {ti td:TI} {k k':IntKind} {a:Int} (ht:tbB P tb=true) (hx:evP fF x = .int k a) (hti:lkT tb T=some ti) (htd:lkT tb T'=some td) (hk:td.k = .int k') (h:k'.min<=a/\a<=k'.max):Qy P N H0 ⟨fF,fL⟩ (.convert T T' x) ty (.int k' a):=SW.qconv (s:=⟨fF,fL⟩) ht hx hti htd hk h
theorem cndT {c:Operand} {x y:Code} {b:Bool} (hc:evP fF c = .bool b) (hb:b=true) (k:Hd P n N H0 Q (.code x) ks ⟨fF,fL⟩):Hd P n N H0 Q (.code (.cond c x y)) ks ⟨fF,fL⟩:=SW.cndT (s:=⟨fF,fL⟩) hc hb k
theorem cndF {c:Operand} {x y:Code} {b:Bool} (hc:evP fF c = .bool b) (hb:b=false) (k:Hd P n N H0 Q (.code y) ks ⟨fF,fL⟩):Hd P n N H0 Q (.code (.cond c x y)) ks ⟨fF,fL⟩:=SW.cndF (s:=⟨fF,fL⟩) hc hb k
theorem rt1 {tb:Tb} {rs:List ResultVar} {res p:PV} {as0 bs:List Nat} (h:Jt_ tb ⟨fF,fL⟩ rs=some ([p],as0,bs)) (he:as0=bs) (hp:PLe p res):Hd P n N H0 (rtK tb rs res) (.ex .ret) [] ⟨fF,fL⟩:=SW.rt1 (s:=⟨fF,fL⟩) h he hp
theorem freeze {i t b b' off T0:Nat} {cs:List PV} (hF:fF t = .own i b off) (hL:fL i = .box b' T0 cs) (hbb:b'=b) (hn:A6_ cs=true) (k:Hd P n N H0 Q (.ops all rest) ks ⟨updp fF t (.el cs off),lups fL i .no⟩):Hd P n N H0 Q (.ops all rest) ks ⟨fF,fL⟩:=SW.freeze (s:=⟨fF,fL⟩) hF hL hbb hn k
theorem next {ι:Type _} {keep kL:List Nat} {G:Nat->PV} {GL:Nat->Blk} {lv:ι->List (Nat×PV)} {lL:ι->List (Nat×Blk)} {Φ:ι->Prop} {μ:ι->Nat} {m:Nat} {ks:List Kt} {Q:Qs} (x':ι) (h1:keep.map fF=keep.map G) (h2:kL.map fL=kL.map GL) (h3:AllF fF (lv x')) (h4:AllL fL (lL x')) (hm:μ x'<m) (hΦ:Φ x'):Hd P n N H0 Q (.ex .normal) (.lp (LJ (λx=>⟨mkF (lv x) keep G,mkL (lL x) kL GL⟩) Φ μ m)::ks) ⟨fF,fL⟩:=SW.next (s:=⟨fF,fL⟩) x' h1 h2 h3 h4 hm hΦ
theorem go {tb:Tb} (ht:tbB P tb=true) (k:Nat) {c c':Cf} {ks':List Kt} {F':Nat->PV} {L':Nat->Blk} {ps:List Prop} {as0 bs:List Nat} (h:run tb n k c ks fF fL [] [] []=some ⟨c',ks',F',L',ps,as0,bs⟩) (he:as0=bs) (hp:AllP ps) (next :Hd P n N H0 Q c' ks' ⟨F',L'⟩):Hd P n N H0 Q c ks ⟨fF,fL⟩:=SW.go ht k h he hp next
theorem gov {tb:Tb} (ht:tbB P tb=true) (order:List Nat) (f:Nat) {xs:Option (List Nat)} {fuel:Nat} {listed:Array Bool} {F':Nat->PV} {L':Nat->Blk} {ps:List Prop} {as0 bs:List Nat} (hf:fuel=f+order.length) (hc:chkV n all order listed=true) (h:runV tb xs all order fF fL [] [] []=some ⟨F',L',ps,as0,bs⟩) (he:as0=bs) (hp:AllP ps) (next :Hv P n N H0 Q xs all f (lst listed order) ks ⟨F',L'⟩):Hv P n N H0 Q xs all fuel listed ks ⟨fF,fL⟩:=SW.gov ht order f hf hc h he hp next
end Go.SW.V
namespace Go.SW
structure Feed where
 rest:Bs
 err:Int
def Feed.cells (f:Feed):List Value:=[str f.rest, .int .i64 f.err]
def mt:List Bs->List Bs->Bool
 |[],k=>k.isEmpty
 |w::p,k=>if w=[35] then (List.range (k.length+1)).any (λf=>mt p (k.drop f)) else match k with
   |[]=>false
   |x::r=>(decide (w=[42]) || decide (w=x))&&mt p r
theorem mt_cons {w:Bs} {p k:List Bs} (hw:w≠[35]):mt (w::p) k=true↔∃ x r,k=x::r/\(w=[42]\/w=x)/\mt p r=true:=by
 simp only[mt,if_neg hw]
 cases k with
 |nil=>simp
 |cons x r=>
   constructor
   . intro h;simp at h;exact⟨x,r,rfl,h.1,h.2⟩
   . rintro⟨x',r',e,h1,h2⟩;cases e;simp[h1,h2]
structure MI (p k:List Bs) (i j:Nat) (b:Int) (f:Nat):Prop where
 hi:i<=p.length
 hj:j<=k.length
 hf:f<=j
 hb:-1<=b
 hbi:b<=i
 no:b<0->(mt p k=true↔mt (p.drop i) (k.drop j)=true)
 seg:0<=b->j=f+(i-b.toNat)
 go:0<=b->(mt p k=true↔∃ g,f<=g/\mt (p.drop b.toNat) (k.drop g)=true)
 fw:0<=b->∀ g,mt (p.drop b.toNat) (k.drop g)=true->mt (p.drop i) (k.drop (g+(i-b.toNat)))=true
 bw:0<=b->mt (p.drop i) (k.drop j)=true->mt (p.drop b.toNat) (k.drop f)=true
theorem MI.bad {p k:List Bs} {i j f:Nat} {b:Int} {x:Bs} (_:MI p k i j b f) (hk:k[j]? = some x) (hm:∀ w,p[i]? = some w->w≠[35]/\w≠[42]/\w≠x):mt (p.drop i) (k.drop j)=false:=by
 rw[Le_ hk]
 cases hp:p[i]? with
 |none=>
   have :p.length<=i:=List.getElem?_eq_none_iff.1 hp
   rw[List.drop_of_length_le this];rfl
 |some w=>
   obtain⟨h1,h2,h3⟩:=hm w hp
   rw[Le_ hp]
   cases q:mt (w::p.drop (i+1)) (x::k.drop (j+1)) with
   |false=>rfl
   |true=>
     obtain⟨x',r,e,hh,_⟩:=(mt_cons h1).1 q
     cases e
     rcases hh with hh|hh
     . exact absurd hh h2
     . exact absurd hh h3
theorem MI.none {p k:List Bs} {i j f:Nat} {b:Int} {x:Bs} (h:MI p k i j b f) (hk:k[j]? = some x) (hb:b<0) (hm:∀ w,p[i]? = some w->w≠[35]/\w≠[42]/\w≠x):mt p k=false:=by
 have hbad:=h.bad hk hm
 cases q:mt p k with
 |false=>rfl
 |true=>rw[(h.no hb).1 q] at hbad;cases hbad
def Mail.zero:Mail:=⟨0,[],[],[],[],0,0⟩
def Reply.zero:Reply:=⟨0,0,0,0,false,[],Mail.zero⟩
structure RIn where
 s:Bs
 pos:Int
 code:Int
def RIn.cells (i:RIn):List Value:=[str i.s, .int .i64 i.pos, .int .i64 i.code]
section
variable {α:Type} [DecidableEq α] {a b ra rb:List α} {x y:α} {k:Nat}
end
section
variable {α:Type} {p:α->Bool} {a r:List α} {x:α} {k:Nat}
end
theorem Il_ {s:Bs} {k:Nat} (hk:k<s.length):(s.drop k).all (λc=>letter c.toNat)=(letter (s.getD k 0).toNat&&(s.drop (k+1)).all (λc=>letter c.toNat)):=by
 rw[Pa_ hk,List.all_cons]
def tellsT:List Bs:=[[110],[],[],[65,110,120],[65],[65,110,109,120],[65],[65,79,112,104,121],[65,79,112,104,121],[65,79,112,104,121],[65,79,112,104,121],[65,107,104,109,98],[110],[65,110],[110],[65],[110,109,121],[],[],[],[]]
structure Rule where
 sort:Int
 key:Bs
 want:List Pair
 all:Bool
deriving DecidableEq
def Rule.cells (r:Rule) (a:Option Addr) (c:Nat):List Value:=[.int .u8 r.sort,str r.key, .slice a r.want.length c, .bool r.all]
def Rule.wf (r:Rule):Prop:=(0<=r.sort/\r.sort<=255)/\r.key.length<=9223372036854775807/\r.want.length<=9223372036854775807
def patB:List Bs:=[[42],[35]]
def ruleE (r:Rule):Int:=
 if 3<r.sort then 8
 else if r.sort=0 then (if keyE [] r.key≠0 then keyE [] r.key else Pu_ r.want)
 else if keyE patB r.key≠0 then keyE patB r.key else Pu_ r.want
structure Method where
 channel:Int
 kind:Int
 name:Bs
 other:Bs
 key:Bs
 head:List Pair
 body:Bs
 n:Int
 m:Int
 yes:Bool
deriving DecidableEq
def Method.cells (m:Method) (a:Option Addr) (c:Nat):List Value:=[.int .u8 m.channel, .int .u8 m.kind,str m.name,str m.other,str m.key, .slice a m.head.length c,str m.body, .int .u64 m.n, .int .u64 m.m, .bool m.yes]
def Method.wf (m:Method):Prop:=(0<=m.channel/\m.channel<=255)/\(0<=m.kind/\m.kind<=255)/\(0<=m.n/\m.n<=18446744073709551615)/\(0<=m.m/\m.m<=18446744073709551615)/\m.name.length<=9223372036854775807/\m.other.length<=9223372036854775807/\m.key.length<=9223372036854775807/\m.head.length<=9223372036854775807/\m.body.length<=9223372036854775807
def Lq_ (m:Mail):Int:=
 if Dt_ m.D5_≠0 then Dt_ m.D5_ else if keyE [] m.key≠0 then keyE [] m.key else if Pu_ m.head≠0 then Pu_ m.head else if (256:Int)<m.body.length then 5 else if 4<m.hops then 7 else 0
def mailOut (m:Mail):Out:=C0_ (C0_ (Ed_ (U3_ (Ed_ (Ed_ (C0_ ⟨[],0⟩ m.id 8) m.D5_) m.key) (Pt_ m.head)) m.body) m.due 8) m.hops 1
def Qh_ (m:Mail):Bs:=if Lq_ m=0 then (mailOut m).s else []
structure Bs_ where
 name:Bs
 sort:Int
 to':Bs
deriving DecidableEq
def Bs_.cells (x:Bs_):List Value:=[str x.name, .int .u8 x.sort,str x.to']
def Bs_.wf (x:Bs_):Prop:=x.name.length<=9223372036854775807/\(0<=x.sort/\x.sort<=255)/\x.to'.length<=9223372036854775807
structure Cs_ where
 name:Bs
 most:Int
 life:Int
 dead:Bs
deriving DecidableEq
def Cs_.cells (x:Cs_):List Value:=[str x.name, .int .u64 x.most, .int .u64 x.life,str x.dead]
def Cs_.wf (x:Cs_):Prop:=x.name.length<=9223372036854775807/\(0<=x.most/\x.most<=18446744073709551615)/\(0<=x.life/\x.life<=18446744073709551615)/\x.dead.length<=9223372036854775807
structure Bp_ where
 D5_:Bs
 to':Bs
 up:Bool
 key:Bs
 want:List Pair
 all:Bool
deriving DecidableEq
def Bp_.cells (x:Bp_) (a:Option Addr) (c:Nat):List Value:=[str x.D5_,str x.to', .bool x.up,str x.key, .slice a x.want.length c, .bool x.all]
def Bp_.wf (x:Bp_):Prop:=x.D5_.length<=9223372036854775807/\x.to'.length<=9223372036854775807/\x.key.length<=9223372036854775807/\x.want.length<=9223372036854775807
structure Gy_ where
 kind:Int
 tick:Int
 D5_:Bs_
 queue:Cs_
 bind:Bp_
 name:Bs
 id:Int
 how:Int
 frm:Int
 code:Int
 number:Int
 A8_:Mail
 text:Bs
deriving DecidableEq
def Gy_.cells (d:Gy_) (a:Option Addr) (c:Nat) (a':Option Addr) (c':Nat):List Value:=
 [.int .u8 d.kind, .int .u64 d.tick,str d.D5_.name, .int .u8 d.D5_.sort,str d.D5_.to',str d.queue.name, .int .u64 d.queue.most, .int .u64 d.queue.life,str d.queue.dead,
  str d.bind.D5_,str d.bind.to', .bool d.bind.up,str d.bind.key, .slice a d.bind.want.length c, .bool d.bind.all,str d.name, .int .u64 d.id, .int .u8 d.how, .int .u8 d.frm, .int .u8 d.code, .int .u64 d.number,
  .int .u64 d.A8_.id,str d.A8_.D5_,str d.A8_.key, .slice a' d.A8_.head.length c',str d.A8_.body, .int .u64 d.A8_.due, .int .u8 d.A8_.hops,str d.text]
def Gy_.wf (d:Gy_):Prop:=(0<=d.kind/\d.kind<=255)/\(0<=d.tick/\d.tick<=18446744073709551615)/\d.D5_.wf/\d.queue.wf/\d.bind.wf/\d.name.length<=9223372036854775807/\(0<=d.id/\d.id<=18446744073709551615)/\(0<=d.how/\d.how<=255)/\(0<=d.frm/\d.frm<=255)/\(0<=d.code/\d.code<=255)/\(0<=d.number/\d.number<=18446744073709551615)/\d.A8_.wf/\d.text.length<=9223372036854775807
def Bs_.zero:Bs_:=⟨[],0,[]⟩
def Cs_.zero:Cs_:=⟨[],0,0,[]⟩
def Bp_.zero:Bp_:=⟨[],[],false,[],[],false⟩
structure Bf_ where
 Br_:List Bs_
 binds:List Bp_
deriving DecidableEq
def Bf_.cells (x:Bf_) (a1:Option Addr) (c1:Nat) (a2:Option Addr) (c2:Nat):List Value:=[.slice a1 x.Br_.length c1, .slice a2 x.binds.length c2]
def Bf_.wf (x:Bf_):Prop:=x.Br_.length<=9223372036854775807/\x.binds.length<=9223372036854775807
def Bf_.zero:Bf_:=⟨[],[]⟩
def idxF {α:Type} (p:α->Bool):Nat->List α->Int
 |_,[]=>-1
 |k,x::r=>if p x then k else idxF p (k+1) r
def idxP {α:Type} (p:α->Bool) (l:List α):Int:=idxF p 0 l
theorem My_ {α:Type} {p:α->Bool} {l r:List α} {c:α} {k:Nat} (h:idxP p l=idxF p k (l.drop k)) (e:l.drop k=c::r) (hc:p c=false):idxP p l=idxF p (k+1) r:=by
 rw[h,e,idxF,hc];rfl
theorem Pw_ {α:Type} {p:α->Bool} {l r:List α} {c:α} {k:Nat} (h:idxP p l=idxF p k (l.drop k)) (e:l.drop k=c::r) (hc:p c=true):idxP p l=k:=by
 rw[h,e,idxF,hc];rfl
theorem Pv_ {α:Type} {p:α->Bool} {l:List α} {k:Nat} (h:idxP p l=idxF p k (l.drop k)) (hk:l.length<=k):idxP p l = -1:=by
 rw[h,List.drop_of_length_le hk];rfl
def Hv_ (l:List Bs_) (n:Bs):Option Bs_:=l.find? λs=>decide (s.name=n)
def shopE (x:Bs_):Int:=if Dt_ x.name≠0 then Dt_ x.name else if 4<x.sort then 8 else if x.sort=4 then Dt_ x.to' else if x.to'≠[] then 4 else 0
def Mi_ (x:Bp_) (sort:Int):Rule:=⟨sort,x.key,x.want,x.all⟩
structure Fb_ where
 l:List Gy_
deriving DecidableEq
def Fb_.cells (x:Fb_) (a1:Option Addr) (c1:Nat):List Value:=[.slice a1 x.l.length c1]
def Fb_.wf (x:Fb_):Prop:=x.l.length<=9223372036854775807
def Fb_.zero:Fb_:=⟨[]⟩
def Feed.pc (x:Feed):List PV:=[.str x.rest, .int .i64 x.err]
instance :Inhabited Feed:=⟨⟨[],0⟩⟩
def Out.pc (x:Out):List PV:=[.str x.s, .int .i64 x.err]
instance :Inhabited Out:=⟨⟨[],0⟩⟩
def In.pc (x:In):List PV:=[.str x.s, .int .i64 x.err]
instance :Inhabited In:=⟨⟨[],0⟩⟩
def RIn.pc (x:RIn):List PV:=[.str x.s, .int .i64 x.pos, .int .i64 x.code]
instance :Inhabited RIn:=⟨⟨[],0,0⟩⟩
def Pair.pc (x:Pair):List PV:=[.str x.key, .int .u8 x.kind, .int .i64 x.num, .str x.text]
instance :Inhabited Pair:=⟨⟨[],0,0,[]⟩⟩
def Frame.pc (x:Frame):List PV:=[.int .u8 x.channel, .int .u8 x.kind, .str x.body]
instance :Inhabited Frame:=⟨⟨0,0,[]⟩⟩
def Bs_.pc (x:Bs_):List PV:=[.str x.name, .int .u8 x.sort, .str x.to']
instance :Inhabited Bs_:=⟨⟨[],0,[]⟩⟩
def Cs_.pc (x:Cs_):List PV:=[.str x.name, .int .u64 x.most, .int .u64 x.life, .str x.dead]
instance :Inhabited Cs_:=⟨⟨[],0,0,[]⟩⟩
def Bp_.pc (x:Bp_):List PV:=[.str x.D5_, .str x.to', .bool x.up, .str x.key, .sl Pair.pc x.want, .bool x.all]
instance :Inhabited Bp_:=⟨⟨[],[],false,[],[],false⟩⟩
def Rule.pc (x:Rule):List PV:=[.int .u8 x.sort, .str x.key, .sl Pair.pc x.want, .bool x.all]
instance :Inhabited Rule:=⟨⟨0,[],[],false⟩⟩
def Mail.pc (x:Mail):List PV:=[.int .u64 x.id, .str x.D5_, .str x.key, .sl Pair.pc x.head, .str x.body, .int .u64 x.due, .int .u8 x.hops]
instance :Inhabited Mail:=⟨⟨0,[],[],[],[],0,0⟩⟩
def Reply.pc (x:Reply):List PV:=[.int .u8 x.channel, .int .u8 x.kind, .int .u64 x.n, .int .u64 x.m, .bool x.yes, .str x.name, .int .u64 x.A8_.id, .str x.A8_.D5_, .str x.A8_.key, .sl Pair.pc x.A8_.head, .str x.A8_.body, .int .u64 x.A8_.due, .int .u8 x.A8_.hops]
instance :Inhabited Reply:=⟨⟨0,0,0,0,false,[],⟨0,[],[],[],[],0,0⟩⟩⟩
def Method.pc (x:Method):List PV:=[.int .u8 x.channel, .int .u8 x.kind, .str x.name, .str x.other, .str x.key, .sl Pair.pc x.head, .str x.body, .int .u64 x.n, .int .u64 x.m, .bool x.yes]
instance :Inhabited Method:=⟨⟨0,0,[],[],[],[],[],0,0,false⟩⟩
def Gy_.pc (x:Gy_):List PV:=[.int .u8 x.kind, .int .u64 x.tick, .str x.D5_.name, .int .u8 x.D5_.sort, .str x.D5_.to', .str x.queue.name, .int .u64 x.queue.most, .int .u64 x.queue.life, .str x.queue.dead, .str x.bind.D5_, .str x.bind.to', .bool x.bind.up, .str x.bind.key, .sl Pair.pc x.bind.want, .bool x.bind.all, .str x.name, .int .u64 x.id, .int .u8 x.how, .int .u8 x.frm, .int .u8 x.code, .int .u64 x.number, .int .u64 x.A8_.id, .str x.A8_.D5_, .str x.A8_.key, .sl Pair.pc x.A8_.head, .str x.A8_.body, .int .u64 x.A8_.due, .int .u8 x.A8_.hops, .str x.text]
instance :Inhabited Gy_:=⟨⟨0,0,⟨[],0,[]⟩,⟨[],0,0,[]⟩,⟨[],[],false,[],[],false⟩,[],0,0,0,0,0,⟨0,[],[],[],[],0,0⟩,[]⟩⟩
def Bf_.pc (x:Bf_):List PV:=[.sl Bs_.pc x.Br_, .sl Bp_.pc x.binds]
instance :Inhabited Bf_:=⟨⟨[],[]⟩⟩
def Fb_.pc (x:Fb_):List PV:=[.sl Gy_.pc x.l]
instance :Inhabited Fb_:=⟨⟨[]⟩⟩
theorem Mx_ {α:Type} (p:α->Bool):∀ (l:List α) (k:Nat),idxF p k l = -1\/((k:Int)<=idxF p k l/\idxF p k l<k+l.length)
 |[],k=> .inl (by simp[idxF])
 |a::r,k=>by
   simp only[idxF]
   split
   . right;exact yX
   . rcases Mx_ p r (k+1) with h|h
     . exact .inl h
     . right;exact yX
theorem idxP_b {α:Type} (p:α->Bool) (l:List α):-1<=idxP p l/\idxP p l<l.length:=by
 rcases Mx_ p l 0 with h|h<;>simp only[idxP]<;>omega
theorem Hc_ {α:Type} (p:α->Bool):∀ (l:List α) (k:Nat),(idxF p k l<0->l.find? p=none)/\(0<=idxF p k l->∀ c,l[(idxF p k l).toNat-k]? = some c->p c=true/\l.find? p=some c)
 |[],k=>⟨λ_=>rfl,λh=>by simp[idxF] at h⟩
 |a::r,k=>by
   obtain⟨h1,h2⟩:=Hc_ p r (k+1)
   have hr:=Mx_ p r (k+1)
   simp only[idxF]
   by_cases ha:p a=true
   . simp only[ha,if_true]
     refine⟨λh=>by omega,λ_ c hc=>?_⟩
     have :((k:Int)).toNat-k=0:=by omega
     rw[this] at hc
     simp at hc
     subst hc
     exact⟨ha,by simp[ha]⟩
   . have hf:p a=false:=by simpa using ha
     simp only[hf,if_false,Bool.false_eq_true,List.find?_cons]
     refine⟨h1,λh0 c hc=>?_⟩
     refine h2 h0 c ?_
     have e:(idxF p (k+1) r).toNat-k=((idxF p (k+1) r).toNat-(k+1))+1:=by omega
     rw[e] at hc
     simpa using hc
theorem St_ {α:Type} {p:α->Bool} {l:List α} (h:idxP p l<0):l.find? p=none:=(Hc_ p l 0).1 h
theorem Ss_ {α:Type} {p:α->Bool} {l:List α} {c:α} (h0:¬idxP p l<0) (h:l[(idxP p l).toNat]? = some c):p c=true/\l.find? p=some c:=(Hc_ p l 0).2 (by simp only[idxP] at h0;omega) c (by simpa [idxP] using h)
end Go.SW
namespace Go.SW.V
open Go.SW
def lt {α β:Type} (a:α) (f:α->β):β:=f a
theorem S4_ {α β:Type} {a r:α} {f:α->β} (h:r=a):lt a f=f r:=by subst h;rfl
inductive Lo (σ ρ:Type) where
 |fin (s:σ)
 |ret (r:ρ)
def lp0 {ρ β:Type} (o:Lo Unit ρ) (f:β) (g:ρ->β):β:=match o with
 | .fin _=>f
 | .ret r=>g r
theorem Lp_ {ρ β:Type} {l:β} {o:Lo Unit ρ} {f:β} {g:ρ->β} (h:l=lp0 o f g) (k:o = .fin ()):l=f:=by subst k;exact h
theorem Ea_ {ρ β:Type} {l:β} {o:Lo Unit ρ} {f:β} {g:ρ->β} {r:ρ} (h:l=lp0 o f g) (k:o = .ret r):l=g r:=by subst k;exact h
theorem Hl_ {ρ β:Type} {l:β} {X:Lo Unit ρ} {f:β} {g:ρ->β} (h:l=lp0 X f g):∃ o,o=X/\l=lp0 o f g:=⟨_,rfl,h⟩
def lp2 {σ1 σ2 ρ β:Type} (o:Lo (σ1×σ2) ρ) (f:σ1->σ2->β) (g:ρ->β):β:=match o with
 | .fin s=>f s.1 s.2
 | .ret r=>g r
def gt {α:Type} [Inhabited α] (xs:List α) (k:Nat):α:=xs.getD k default
theorem getG {α:Type} [Inhabited α] {xs:List α} {k:Nat} (h:k<xs.length):xs[k]? = some (gt xs k):=by
 rw[gt,List.getD_eq_getElem?_getD,List.getElem?_eq_getElem h];rfl
theorem E5_ {α:Type} [Inhabited α] {xs:List α} {k:Nat} (h:k<xs.length):xs.drop k=gt xs k::xs.drop (k+1):=Le_ (getG h)
theorem gt_mem {α:Type} [Inhabited α] {xs:List α} {k:Nat} (h:k<xs.length):gt xs k∈xs:=List.mem_of_getElem? (getG h)
theorem E6_ {α:Type} {xs:List α} {k:Nat} (h:¬k<xs.length):xs.drop k=[]:=List.drop_of_length_le xN
theorem Bq_ {α τ:Type} {l:τ} {xs ys:List α} {f:List α->τ} {v:τ} (e:l=f xs) (h:xs=ys) (k:f ys=v):l=v:=by subst h;exact e.trans k
theorem B8_ {α:Type} {p:PV} {a v:α} (f:α->PV) (e:a=v) (h:PLe p (f v)):PLe p (f a):=by subst e;exact h
variable {P:Program} {n:Nat} {N:Rest} {H0:Env} {all rest:List Oper} {Q:Qs} {ks:List Kt} {fF:Nat->PV} {fL:Nat->Blk} {T T' T2 ty d:Nat} {pos:String} {af:Array Edge} {x y z:Operand} {K:St->Prop} {op:Op} {p:PV}
theorem joinc {ι:Type} {X:Code} (keep kL:List Nat) (lv:ι->List (Nat×PV)) (lL:ι->List (Nat×Blk)) (Φ:ι->Prop) (h:Hd P n N H0 Q (.code X) (.lp (LJ (λx=>⟨mkF (lv x) keep fF,mkL (lL x) kL fL⟩) Φ (λ_=>0) 1)::ks) ⟨fF,fL⟩) (k:∀ x,Φ x->Hd P n N H0 Q (.ex .normal) ks ⟨mkF (lv x) keep fF,mkL (lL x) kL fL⟩):Hd P n N H0 Q (.code X) ks ⟨fF,fL⟩:=by
 intro F H L ha;refine Ft_ (λe F' H' L' hq=>?_) (h F H L ha);obtain⟨s',ha',hq'⟩:=hq
 cases e with
 |normal=>obtain⟨x,h1,_,h3⟩:=hq';exact⟨_,h3 _ _ _ _ ha',k x h1⟩
 |_=>exact⟨s',ha',hq'⟩
theorem callv {α:Type} (g:α) (res:α->PV) {f:FuncId} {args:List PV} {xs:Array Operand} {ats:Array TypeId} (h:Fn P H0.g f args (res g)) (ha:argsP fF x xs.toList=some (f,args)) (hd:Nat.blt d n=true) (k:∀ r,r=g->(res r).wf->Hd P n N H0 Q (.ops all rest) ks ⟨updp fF d (res r),fL⟩):Hd P n N H0 Q (.ops all (⟨some d, .call ⟨.value x,xs,ats⟩,ty,pos,af,none⟩::rest)) ks ⟨fF,fL⟩:=call h ha hd (k g Y)
end Go.SW.V
namespace Go.SW
end Go.SW
namespace Go.SW.V
open Go.SW
end Go.SW.V
namespace Go.SW
open Go.ChangeShapes Go.WideShapes Go.ChangeAt Go.RowKit
def hp (w:World):Hp:=λb=>w.heap[b]?
def Rk_ (w:World):Rest:=⟨λ_=>none,w.os,w.tape,w.output⟩
theorem mem0 (w:World):Mem (Rk_ w) (hp w) l0 w:=
 {os:=rfl,tape:=rfl,output:=rfl,n:=λ_ _ h=>wD,h:=λ_ _ h=>h,l:=λ_ _ _ h=>wD,nh:=λ_ _ h=>wD,nl:=λ_ _ _ h=>wD,ll:=λ_ _ _ _ _ h=>wD}
theorem Oa_ {w w':World} {L:Ls} (h:Mem (Rk_ w) (hp w) L w'):Below w.heap.size w w':=by
 have hb:∀ k,k<w.heap.size->w'.heap[k]? = w.heap[k]? :=λk hk=>by
   have e:w.heap[k]? = some w.heap[k]:=Array.getElem?_eq_getElem hk
   rw[e];exact h.h k _ e
 refine⟨h.os,h.tape,h.output,?_,hb⟩;by_cases z:w.heap.size=0;omega;have :=hb (w.heap.size-1) xN;exact yJ
section
variable {Ht:Type} {enc:TypeId×Value->Ht} {P:Program} {w:World} {base fuel:Nat} {spare:Nat->Bool} {held:Bool} {cs:List Value} {x:DataW Ht×List MemPlace} {t:TypeId}
theorem rd_int {k:IntKind} (ht:P.underlying t=some (.int k)) (h:DataW.trod enc P w base spare held fuel t cs=some x):∃ z:Int,cs=[.int k z]/\k.min<=z/\z<=k.max:=by
 obtain⟨z,h1,_,h2⟩:=DataW.trod_int ht h;refine⟨z,h1,?_⟩;simp only[Lit.wf,Bool.and_eq_true,decide_eq_true_eq] at h2;exact h2
theorem rd_str (ht:P.underlying t=some .string) (h:DataW.trod enc P w base spare held fuel t cs=some x):∃ s:Bs,cs=[str s]/\s.length<=9223372036854775807:=by
 obtain⟨s,h1,_,h2⟩:=DataW.trod_string ht h;refine⟨s.data.toList,by rw[h1,Nr_],?_⟩;have :s.data.toList.length=s.size:=Array.length_toList;rw[this];exact h2
theorem P7_ {α:Type} {Q:Nat->α->Prop}:∀ n,(∀ i,i<n->∃ r,Q i r)->∃ rs:List α,rs.length=n/\∀ i (h:i<rs.length),Q i rs[i]
 |0,_=>⟨[],rfl,λi h=>by cases h⟩
 |n+1,hq=>by
   obtain⟨rs,hl,hr⟩:=P7_ n (λi hi=>hq i xN)
   obtain⟨r,hr0⟩:=hq n xN
   refine⟨rs++[r],by simp[hl],λi hi=>?_⟩
   by_cases e:i<rs.length
   . rw[List.getElem_append_left e];exact hr i e
   . have :i=rs.length:=by simp at hi;omega
     subst this
     rw[List.getElem_append_right (Nat.le_refl _)]
     simp only[Nat.sub_self,List.getElem_cons_zero]
     rw[hl];exact hr0
theorem rd_fld {fs:Array Field} {xs:List (DataW Ht×List MemPlace)} {n i o k:Nat} {f:Field} {ft:TypeId} (hf:∀ (i:Nat) (f:Field),fs[i]? = some f->DataW.trod enc P w base spare held n f.type ((cs.drop f.offset).take (P.cellsOf f.type))=xs[i]?) (hl:xs.length=fs.size)
   (hi:fs[i]? = some f) (ho:f.offset=o) (ht:f.type=ft) (hk:P.cellsOf ft=k):∃ y,DataW.trod enc P w base spare held n ft ((cs.drop o).take k)=some y:=by
 have h:=hf i f hi;have hlt:i<fs.size:=(Array.getElem?_eq_some_iff.1 hi).1;rw[ho,ht,hk,List.getElem?_eq_getElem xN] at h;exact⟨_,h⟩
end
theorem rd_agg {Ht:Type} {enc:TypeId×Value->Ht} {P:Program} {w:World} {r:Reach} {b0 base:Nat} {spare:Nat->Bool} {held:Bool} {t:TypeId} {fs:Array Field} {v:Value} {d:DataW Ht} {p:List MemPlace} (hs:P.underlying t=some (.struct fs)) (hv:Value.okWide P w r b0 t v)
   (h:DataW.Trod enc P w base spare held t v d p):∃ (l:List Value) (fuel:Nat),v = .agg l.toArray/\DataW.trod enc P w base spare held fuel t l=some (d,p):=by
 obtain⟨cs,rfl,_⟩:=okWide_struct hs hv;obtain⟨fuel,hf⟩:=h;exact⟨cs.toList,fuel,rfl,hf⟩
theorem Q8_ {P:Program} {ts:Array TypeId} (h:(ts.toList.all λt=>P.readableRec t && decide (t<P.types.size))=true):∀ t∈ts.toList,P.readableRec t=true/\t<P.types.size:=λt ht=>by
 have :=List.all_eq_true.1 h t ht
 exact xF
theorem Oe_ {Ht:Type} {enc:TypeId×Value->Ht} {P:Program} {w:World} {r:Reach} {b0 base:Nat} {spare:Nat->Bool} {held:Bool} {t:TypeId} {k:IntKind} {v:Value} {d:DataW Ht} {p:List MemPlace} (hs:P.underlying t=some (.int k)) (hv:Value.okWide P w r b0 t v)
   (h:DataW.Trod enc P w base spare held t v d p):∃ z:Int,v = .int k z/\k.min<=z/\z<=k.max:=by
 obtain⟨z,rfl,_,_,hw⟩:=open_int hs hv h;refine⟨z,rfl,?_⟩;simp only[Lit.wf,Bool.and_eq_true,decide_eq_true_eq] at hw;exact hw
def flatD:Nat->DataW Unit->List Value
 |_, .lit (.int k n)=>[.int k n]
 |_, .lit (.string s)=>[.string ⟨s.toArray⟩]
 |_, .lit (.bool b)=>[.bool b]
 |n+1, .agg l=>l.flatMap (flatD n)
 |_,_=>[]
def layD (d:DataW Unit):Obj->Obj
 | .cells _ t frozen=> .cells (flatD 5 d).toArray t frozen
 |o=>o
theorem J1_ {Ht:Type} {enc:TypeId×Value->Ht} {P:Program} (hl:laidOutB P=true) {W W':World} (hb:Below W.heap.size W W') {sp:Nat->Bool}:∀ {ts:List TypeId} {vs:List Value} {ds:List (DataW Ht)} {ps:List MemPlace},(∀ t∈ts,P.readableRec t=true/\t<P.types.size) ->
   DataW.TrodAll enc P W 0 (λ_=>true) true ts vs ds ps->(∀ x∈ps,x.block<W.heap.size)->(∀ x∈ps,sp x.block=true)->DataW.TrodAll enc P W' 0 sp true ts vs ds ps:=by
 intro ts
 induction ts with
 |nil=>intro vs ds ps _ h _ _;cases vs<;>cases ds<;>first|exact h|exact h.elim
 |cons t ts ih=>
   intro vs ds ps hr h hlt hsp
   obtain⟨v,vs',d,ds',p,q,rfl,rfl,rfl,h1,h2⟩:=trodAll_cons h
   exact trodAll_cons_mk (WideElems.Trod_stays hl (hr t xP).1 (hr t xP).2 h1 (λx hx=>hb.same (hlt x xW)) (λx hx=>hsp x xW)) (ih (λu hu=>hr u (by simp[hu])) h2 (λx hx=>hlt x xW) (λx hx=>hsp x xW))
section
variable {Ht:Type} {enc:TypeId×Value->Ht} {P:Program}
theorem Sy_ {f:Func} {s:ChangeSpec} {apart fresh again:Bool} {W W':World} {args:Array Value} {ds:List (DataW Ht)} {before:List MemPlace} {tb:TypeId} (hvars:s.vars=[])
   (hW:DataW.Whole enc P f.params.toList s.vars apart W args.toList ds [] before) (hb:Below W.heap.size W W') (hl:laidOutB P=true) (hr:∀ t∈f.params.toList,P.readableRec t=true/\t<P.types.size)
   (hres:f.resultTypes = #[tb]) (hu:P.underlying tb=some .bool) (hfn:s.fn Ht (ds++[])={results:=[.lit (.bool true)],args:=ds}):s.post enc P f apart fresh false again W args (.bool true) W':=by
 have hlt:∀ p∈before,p.block<W.heap.size:=λp hp=>hW.lt p hp;have hold:∀ p∈before,(λb=>decide (b<W.heap.size)) p.block=true:=λp hp=>by simpa using hlt p hp
 have hW0:=hW;obtain⟨p,q,hA,hV,rfl,hz,hn⟩:=hW0;have hq:q=[]:=by
   rw[hvars] at hV
   exact (trodVars_none hV).2
 subst hq;rw[List.append_nil] at hlt hold hz hn hW;have hA0:DataW.TrodAll enc P W 0 (λ_=>true) true f.params.toList args.toList ds p:=hA;have hargs:∀ sp:Nat->Bool,(∀ x∈p,sp x.block=true)->DataW.TrodAll enc P W' 0 sp true f.params.toList args.toList ds p:=λsp hs=>J1_ hl hb hr hA0 hlt hs;have hvs:∀ sp:Nat->Bool,DataW.TrodVars enc P W' sp s.vars ([]:List (DataW Ht)) []:=λsp=>by rw[hvars];rfl
 have hR:∀ (b:Nat) (sp:Nat->Bool) (hd:Bool),DataW.TrodAll enc P W' b sp hd f.resultTypes.toList ((Value.bool true).resultList f.resultTypes.size) [.lit (.bool true)] []:=λb sp hd=>by
   rw[hres]
   exact trodAll_mk1 (shut_bool hu true)
 have hok:∀ (j:Nat) (t:TypeId) (r:Value),f.resultTypes[j]? = some t->((Value.bool true).resultList f.resultTypes.size)[j]? = some r->Value.okWide P W' .any 0 t r:=ok_one hres Y (okWide_bool_mk hu true);refine⟨ds,[],p,[],p,[],hW,?_,?_,?_,World.keptBut_mono (λx hx=>⟨hx,Or.inr (by simpa using hx)⟩) (hb.frame (· ∈ p)),λ_=>?_⟩;rw[hfn];exact hR _ _ _;rw[hfn];exact hargs _ hold;rw[hfn];exact hvs _;refine⟨hok,_,_,([]++p)++[],⟨[]++p,[],trodAll_append (hargs _ (λ_ _=>rfl)) (hR _ _ _),hvs _,rfl,?_,?_⟩,?_⟩;intro b off hp;have hin:MemPlace.cell b off∈p:=by simpa using hp
 rw[hb.frozen (hlt _ hin)];exact hz b off hin;intro ha;have :=hn ha;exact xF;intro x hx _;simpa using hx
theorem Jb_ {w:World} {g:Nat} {t:TypeId} {zero:Array Value} (h:w.ShapedOpen P) (hg:g<P.globals.size)
   (h0:((begin P (λ_ _=>0) default).world.heap[g]?).bind Obj.row?=some (zero,t)) (hz:zero.size=1)
   (hb:P.buildable t=true) (hc:P.cellTypes P.depth t=some [t]) (hu:P.underlying t=some (.int .i64)):GInt (hp w) g:=by
 obtain⟨cs,hh,hs,hr⟩:=h.1 g zero t hg h0;obtain⟨ts,hts,_,hall⟩:=hr hb;rw[hc] at hts
 cases hts
 have h1:0<cs.size:=by omega
 obtain⟨u,hu',hok⟩:=hall 0 cs[0] (by simp[h1]);have :u=t:=by simpa using hu'.symm
 subst this;unfold Cell.ok at hok;rw[hu] at hok;have hv:∃ m,cs[0] = .int .i64 m:=by
   cases hv:cs[0]<;>rw[hv] at hok<;>first|exact⟨_,by rw[hok.1]⟩|simp at hok
 obtain⟨m,hm⟩:=hv;refine⟨m,u,(0,0),?_⟩;show w.heap[g]? = _;rw[hh];have e:cs = #[.int .i64 m]:=by
   apply Array.ext
   . simp;omega
   . intro i hi1 hi2
     have :i=0:=by simp at hi2;omega
     subst this
     simpa using hm
 rw[e]
theorem Pq_ {w:World} {g n:Nat} {name:String} {k:IntKind} {zs:List Int} {rest:List (String×DataW Unit)} {t e:TypeId} (hg:P.globalNamed name=some g) (hty:(P.globals[g]?).map (·.type)=some t) (ht:P.underlying t=some (.array n e)) (he:P.underlying e=some (.int k)) (hce:P.cellsOf e=1) (hct:P.cellsOf t=n)
   (h:laidMet P ((name,Lib.tabData k zs)::rest) w):∃ T fr,hp w g=some (.cells (zs.map (Value.int k)).toArray T fr):=by
 have hT:=Lib.tabIs_of_head hg hty ht he hce hct h;unfold Lib.TabIs World.var? at hT;rw[hg] at hT;simp only[Option.bind_some] at hT
 split at hT
 . rename_i cs T fr hh
   cases hT
   exact⟨T,fr,hh⟩
 . cases hT
end
variable {P:Program}
theorem O6_ {Ht:Type} {enc:TypeId×Value->Ht} {w:World} {base fuel:Nat} {spare:Nat->Bool} {held:Bool} {a:Option Addr} {l c:Nat} {x:DataW Ht×List MemPlace} {t e:TypeId} (ht:P.underlying t=some (.slice e))
   (h:DataW.trod enc P w base spare held fuel t [.slice a l c]=some x):x.1 = .nil/\l=0\/∃ el sp,x.1 = .slice el sp/\el.length=l:=by
 rcases Go.Deep.open_slice ht h with ⟨h1,h2⟩|⟨a',len,cap,m,nf,D,Pl,h1,_,hl,hm,hmm,hx,_⟩
 . cases h1;subst h2;exact .inl ⟨rfl,rfl⟩
 . cases h1;subst hx;exact .inr ⟨_,_,rfl,by simp⟩
theorem K2_ {w:World} {r:Reach} {b0:Nat} {t e:TypeId} {v:Value} {a:Option Addr} {l c:Nat} (hs:P.underlying t=some (.slice e)) (hv:Value.okWide P w r b0 t v) (he:v.cells.toList=[.slice a l c]):v = .slice a l c:=by
 unfold Value.okWide at hv;rw[hs] at hv;simp only at hv;unfold Cell.okWide at hv;rw[hs] at hv
 cases v with
 |agg cs=>simp[Cell.ok,hs] at hv
 |_=>exact (List.cons.inj he).1
end Go.SW
namespace Go.SW
open Go.ChangeShapes Go.WideShapes Go.ChangeAt Go.RowKit
variable {P:Program}
def Rdv {α:Type} (P:Program) (t:TypeId) (en:α->List PV) (k:Nat):Prop:=
 ∀ (Ht:Type) (enc:TypeId×Value->Ht) (w:World) (base:Nat) (spare:Nat->Bool) (held:Bool) (fuel:Nat) (cs:List Value) (x:DataW Ht×List MemPlace),
   DataW.trod enc P w base spare held fuel t cs=some x->(∀ n∈x.1.weights P t,n<=reachBytes)->∃ r:α,RowE en k (hp w) r cs
theorem Tk_ {α:Type} {en:α->List PV} {H:Hp} {r:α} {p:PV} {v:Value} (he:en r=[p]) (h:Sim H p v) (ho:v.oneCell'=true):RowE en 1 H r [v]:=
 ⟨by rw[he];rfl,by rw[he];exact Sims.nil.cons h,λu hu=>by rw[List.mem_singleton.1 hu];exact ho⟩
theorem Bk_ {k:IntKind} {t:TypeId} (ht:P.underlying t=some (.int k)):Rdv P t (λz:Int=>[.int k z]) 1:=λ_ _ _ _ _ _ _ _ _ h _=>by
 obtain⟨z,rfl,h1,h2⟩:=rd_int ht h
 exact⟨z,Tk_ Y (.int h1 h2) Y⟩
theorem Ri_ {t:TypeId} (ht:P.underlying t=some .string):Rdv P t (λs:Bs=>[.str s]) 1:=λ_ _ _ _ _ _ _ _ _ h _=>by
 obtain⟨s,rfl,h1⟩:=rd_str ht h
 exact⟨s,Tk_ Y (.str h1) Y⟩
theorem E1_ {H:Type} {e:TypeId}:∀ {ds:List (DataW H)} {d:DataW H} {n:Nat},d∈ds->n∈d.weights P e->n∈DataW.weightsAll P e ds
 |[],_,_,h,_=>by cases h
 |d0::r,d,n,h,hn=>by
   simp only[DataW.weightsAll,List.mem_append]
   rcases List.mem_cons.1 h with rfl|q
   . exact .inl hn
   . exact .inr (E1_ q hn)
theorem Fl_ {α:Type} {en:α->List PV} {k:Nat} {t e:TypeId} (ht:P.underlying t=some (.slice e)) (hk:P.cellsOf e=k) (h0:0<k) (hb:0<P.bytesOf e) (he:Rdv P e en k):Rdv P t (λxs:List α=>[.sl en xs]) 1:=λHt enc w base spare held fuel cs x h hw=>by
 have hlen:∀ {a:Option Addr} {l c:Nat},cs=[.slice a l c]->l<=140737488355328:=λ{a l c} hcs=>by
   subst hcs
   rcases O6_ ht h with ⟨_,rfl⟩|⟨el,sp,hx,rfl⟩
   . exact Nat.zero_le _
   . have :=hw ((el.length+sp.length)*P.bytesOf e) (by rw[hx];simp[DataW.weights,ht])
     have h1:el.length<=(el.length+sp.length)*P.bytesOf e:=Nat.le_trans (Nat.le_add_right _ _) (Nat.le_mul_of_pos_right _ hb)
     have h2:reachBytes=140737488351232:=by decide
     omega
 rcases Go.Deep.open_slice ht h with ⟨h1,_⟩|⟨a,len,cap,m,nf,D,Pl,h1,_,hl,hm,hmm,hx,hi⟩
 . subst h1
   exact⟨[],Tk_ Y (Sim.of_slh (k:=0) Rs_ xP) rfl⟩
 . have hs0:0<len->a=⟨a.block,a.off,none⟩:=by
     intro hl0
     obtain⟨cs',hc,hT⟩:=hi 0 (by rw[hmm];split<;>omega)
     rw[hk,Nat.zero_mul] at hc
     obtain⟨_,hcl,hat⟩:=World.cells?_some hc
     have ha0:=hat 0 h0
     rw[List.getElem?_eq_getElem xN] at ha0
     obtain⟨ab,ao,asp⟩:=a
     cases asp with
     |none=>rfl
     |some z=>
       exfalso
       unfold World.cell? at ha0
       simp only[Addr.add] at ha0
       split at ha0<;>simp at ha0
   have hwD:∀ i,i<len->∀ n∈(D i).weights P e,n<=reachBytes:=λi hil n hn=>by
     refine hw n ?_
     rw[hx]
     simp only[DataW.weights,ht,List.mem_cons,List.mem_append]
     exact .inr (.inl (E1_ (List.mem_map.2 ⟨i,List.mem_range.2 hil,rfl⟩) hn))
   have key:∀ i,i<len->∃ r:α,∃ cs',RowE en k (hp w) r cs'/\SlAt (hp w) (.slice (some a) len cap) k i cs':=by
     intro i hil
     have ha:=hs0 xN
     obtain⟨cs',hc,hT⟩:=hi i (by rw[hmm];split<;>omega)
     obtain⟨r,hr⟩:=he _ _ _ _ _ _ _ _ _ hT (hwD i hil)
     rw[hk] at hc
     obtain⟨_,hcl,hat⟩:=World.cells?_some hc
     refine⟨r,cs',hr,?_⟩
     generalize a.block=ab at ha
     generalize a.off=ao at ha
     subst ha
     simp only[K_] at hat
     have ha0:=hat 0 h0
     rw[List.getElem?_eq_getElem xN] at ha0
     unfold World.cell? at ha0
     simp only at ha0
     split at ha0
     . rename_i c T fr hb
       refine⟨ab,ao,len,cap,c,T,fr,rfl,hb,hcl,λj hj=>?_⟩
       have :=hat j hj
       unfold World.cell? at this
       simp only at this
       rw[hb] at this
       exact xF
     . cases ha0
   obtain⟨rs,hlen',hr⟩:=P7_ (Q:=λi (r:α)=>∃ cs',RowE en k (hp w) r cs'/\SlAt (hp w) (.slice (some a) len cap) k i cs') len key
   have hs:SlH (RowE en k) k (hp w) (.slice (some a) rs.length cap) rs:=⟨⟨some a,cap,rfl,by omega⟩,λi hi=>by rw[hlen'];exact hr i hi⟩
   subst h1
   have hle:=hlen (rfl :[Value.slice (some a) len cap]=_)
   refine⟨rs,Tk_ Y (v:= .slice (some a) len cap) (by rw[<- hlen'];exact Sim.of_slh hs xN) Y⟩
theorem Tl_ {ps qs:List PV} {H:Hp} {cs ds:List Value} {m n:Nat} (h:ps.length=m/\Sims H ps cs/\∀ u∈cs,u.oneCell'=true) (k:qs.length=n/\Sims H qs ds/\∀ u∈ds,u.oneCell'=true):(ps++qs).length=m+n/\Sims H (ps++qs) (cs++ds)/\∀ u∈cs++ds,u.oneCell'=true:=
 ⟨by simp[h.1,k.1],h.2.1.append k.2.1,λu hu=>by rcases List.mem_append.1 hu with q|q;exact h.2.2 u q;exact k.2.2 u q⟩
theorem Av_ {Ht:Type} {enc:TypeId×Value->Ht} {w:World} {base:Nat} {spare:Nat->Bool} {held:Bool} {cs:List Value} {t:TypeId} {fs:Array Field} {xs:List (DataW Ht×List MemPlace)} {n i o k:Nat} {f:Field} {ft:TypeId} {α:Type} {en:α->List PV} (ht:P.underlying t=some (.struct fs))
   (hf:∀ (i:Nat) (f:Field),fs[i]? = some f->DataW.trod enc P w base spare held n f.type ((cs.drop f.offset).take (P.cellsOf f.type))=xs[i]?) (hl:xs.length=fs.size) (hw:∀ q∈(DataW.agg (xs.map (·.1)):DataW Ht).weights P t,q<=reachBytes)
   (hi:fs[i]? = some f) (ho:f.offset=o) (hft:f.type=ft) (hk:P.cellsOf ft=k) (hr:Rdv P ft en k):∃ r,RowE en k (hp w) r ((cs.drop o).take k):=by
 obtain⟨y,hy⟩:=rd_fld hf hl hi ho hft hk;refine hr _ _ _ _ _ _ _ _ _ hy λq hq=>hw q ?_;have h:=hf i f hi;rw[ho,hft,hk,hy] at h;simp only[DataW.weights,ht];refine DataW.weights_mem_each (j:=i) (t:=ft) (d:=y.1) ?_ ?_ q hq;rw[List.getElem?_map,Array.getElem?_toList,hi];simp[hft];rw[List.getElem?_map,<- h];rfl
theorem Bm_ {en:List PV} {H:Hp} {cs:List Value} {o k:Nat} {q:Nat} (h:en.length=k/\Sims H en ((cs.drop o).take k)/\∀ u∈(cs.drop o).take k,u.oneCell'=true) {es:List PV} (hr:es.length=q/\Sims H es (cs.drop (o+k))/\∀ u∈cs.drop (o+k),u.oneCell'=true):(en++es).length=k+q/\Sims H (en++es) (cs.drop o)/\∀ u∈cs.drop o,u.oneCell'=true:=by
 have :=Tl_ h hr;rw[<- List.drop_drop,List.take_append_drop] at this;exact this
theorem Fn_ {en:List PV} {H:Hp} {cs:List Value} {o k:Nat} (hl:cs.length=o+k) (h:en.length=k/\Sims H en ((cs.drop o).take k)/\∀ u∈(cs.drop o).take k,u.oneCell'=true):en.length=k/\Sims H en (cs.drop o)/\∀ u∈cs.drop o,u.oneCell'=true:=by
 rw[List.take_of_length_le xS] at h;exact h
section
variable {Ht:Type} {enc:TypeId×Value->Ht} {w:World} {r:Reach} {b0 base:Nat} {spare:Nat->Bool} {held:Bool} {t:TypeId} {v:Value} {d:DataW Ht} {p:List MemPlace}
theorem Ov_ {k:IntKind} (hs:P.underlying t=some (.int k)) (hv:Value.okWide P w r b0 t v) (h:DataW.Trod enc P w base spare held t v d p):∃ z:Int,Sim (hp w) (.int k z) v:=by
 obtain⟨z,rfl,h1,h2⟩:=Oe_ hs hv h;exact⟨z, .int h1 h2⟩
theorem arg_rec {α:Type} {en:α->List PV} {k:Nat} {fs:Array Field} (hs:P.underlying t=some (.struct fs)) (hv:Value.okWide P w r b0 t v) (h:DataW.Trod enc P w base spare held t v d p) (hw:∀ q∈d.weights P t,q<=reachBytes) (hr:Rdv P t en k):∃ z:α,Sim (hp w) (.agg (en z)) v:=by
 obtain⟨l,fuel,rfl,h1⟩:=rd_agg hs hv h;obtain⟨z,h2⟩:=hr _ _ _ _ _ _ _ _ _ h1 hw;exact⟨z,Sim.toAgg h2.2.1⟩
theorem arg_sl {α:Type} {en:α->List PV} {e:TypeId} (hs:P.underlying t=some (.slice e)) (hv:Value.okWide P w r b0 t v) (h:DataW.Trod enc P w base spare held t v d p) (hw:∀ q∈d.weights P t,q<=reachBytes) (hr:Rdv P t (λxs:List α=>[.sl en xs]) 1):∃ z:List α,Sim (hp w) (.sl en z) v:=by
 obtain⟨fuel,h1⟩:=h;obtain⟨z,h2⟩:=hr _ _ _ _ _ _ _ _ _ h1 hw;obtain⟨u,us,e1,h3,h4⟩:=h2.2.1.inv_cons
 cases h4.inv_nil
 have :∃ a l c,u = .slice a l c:=by cases h3;exact⟨_,_,_,rfl⟩
 obtain⟨a,l,c,rfl⟩:=this;obtain rfl :=K2_ hs hv e1;exact⟨z,h3⟩
theorem Vh_ {ts:List TypeId} {ds:List (DataW Ht)} {j:Nat} (hw:(DataW.weightsEach P ts ds).all (· <= reachBytes)=true) (ht:ts[j]? = some t) (hd:ds[j]? = some d):∀ q∈d.weights P t,q<=reachBytes:=λq hq=>by
 have :=List.all_eq_true.1 hw q (DataW.weights_mem_each ht hd q hq)
 exact xF
end
theorem law_run {G:Gb} {f:FuncId} {args:List PV} {b:Bool} {vs:List Value} {W:World} (h:Fn P G f args (.bool b)) (hg:G.p (hp W)) (hs:Sims (hp W) args vs) (hb:b=true):Calls P f vs.toArray W λe W'=>e = .returned (.bool true)/\Mem (Rk_ W) (hp W) l0 W':=
 (h.run (Rk_ W) (hp W) l0 W vs hg hs (mem0 W)).mono λ_ _ ⟨v,H',h1,h2,h3,h4⟩=>⟨by rw[h1,h2.inv_bool,hb],h4.le h3⟩
end Go.SW
namespace Go.SW.V
open Go.SW
variable {P:Program} {n m:Nat} {N:Rest} {H0:Env} {all rest:List Oper} {Q:Qs} {ks:List Kt} {fF gF:Nat->PV} {fL gL:Nat->Blk} {T ty d:Nat} {pos:String} {af:Array Edge} {x y z:Operand}
end Go.SW.V
namespace Go.SW.V
open Go.SW
variable {P:Program} {n:Nat} {N:Rest} {H0:Env} {all rest:List Oper} {Q:Qs} {ks:List Kt} {fF:Nat->PV} {fL:Nat->Blk} {T ty d:Nat} {pos:String} {af:Array Edge} {x y z:Operand} {K:St->Prop}
end Go.SW.V
namespace Go.SW.V
open Go.SW
variable {P:Program} {n:Nat} {N:Rest} {H0:Env} {all rest:List Oper} {Q:Qs} {ks:List Kt} {fF:Nat->PV} {fL:Nat->Blk} {T ty d:Nat} {pos:String} {af:Array Edge} {x y z:Operand} {K:St->Prop}
theorem lo_aidx {F:Fr} {H:Hp} {L:Ls} {kk:IntKind} {b off len k m:Nat} {i:Int} {e:TypeId} (hx:ev F x = .pointer (some ⟨b,off,none⟩)) (hy:ev F y = .int kk i) (hT:P.underlying T=some (.array len e)) (hk:Sz P e k) (hi:i=(m:Int)) (hm:m<len):SW.Lo P N (.indexAddr T x y) ty F H L (.pointer (some ⟨b,off+m*k,none⟩)):=λd pos af gg w _=>by
 subst hi
 simp[execOp,hy,hx,Instr.indexAt,asIntOf,run_underlying hT,Instr.sureAddr,hk w,hm,Addr.add]
theorem qaia {kk:IntKind} {i b off len k:Nat} {z:Int} {e:TypeId} (m:Nat) (hx:evP fF x = .own i b off) (hy:evP fF y = .int kk z) (hT:P.underlying T=some (.array len e)) (hk:Sz P e k) (hi:z=(m:Int)) (hm:m<len):Qy P N H0 ⟨fF,fL⟩ (.indexAddr T x y) ty (.own i b (off+m*k)):=λF H L ha=>by
 have h1:=(A2_ ha.f x).sim
 have h2:=(A2_ ha.f y).sim
 simp only at h1 h2
 rw[hx] at h1
 rw[hy] at h2
 exact⟨_,Sim.own,λ_ _ _=>lo_aidx h1.inv_own h2.inv_int.1 hT hk hi hm⟩
theorem oload1 {tb:Tb} {ti:TI} {i b b' off T0:Nat} {cs:List PV} (p:PV) (ht:tbB P tb=true) (hx:evP fF x = .own i b off) (hb:fL i = .box b' T0 cs) (hbb:b'=b) (hti:lkT tb T=some ti) (hag:ti.k.isAgg=false) (hc:cs[off]? = some p) (hd:Nat.blt d n=true) (k:p.wf->K ⟨updp fF d p,fL⟩):E1 P n N H0 all ⟨some d, .load T x,ty,pos,af,none⟩ none ⟨fF,fL⟩ K:=by
 intro F H L ha;subst hbb;have h1:=(A2_ ha.f x).sim;simp only at h1;rw[hx] at h1;have h3:=ha.l i;simp only[hb] at h3;obtain⟨vs,hL,hs⟩:=h3;obtain⟨v,hv,hsv⟩:=hs.get hc;have hg:=(Bn_ ht hti).ag;rw[hag] at hg;exact E9_ hd (Bj_ h1.inv_own hg hL hv) ⟨.refl H,λ_ _=>rfl,_,ha.put d hsv,k hsv.sim.wf⟩
theorem ostore1 {tb:Tb} {ti:TI} {i b b' off T0:Nat} {cs:List PV} {p:PV} (cs':List PV) (ht:tbB P tb=true) (hx:evP fF x = .own i b off) (hb:fL i = .box b' T0 cs) (hti:lkT tb T=some ti) (hsz:ti.size=1) (hy:evS (evP fF y)=some p) (ho:p.one=true) (hl:off<cs.length) (hbb:b'=b) (hc:cs.set off p=cs')
   (k:K ⟨fF,lups fL i (.box b T0 cs')⟩):E1 P n N H0 all ⟨none, .store T x y,ty,pos,af,none⟩ (some i) ⟨fF,fL⟩ K:=
 SW.store1 (s:=⟨fF,fL⟩) ht hx hb hti hsz hy ho (by simpa [Nat.blt_eq] using hl) hbb (by rw[hc];simp only[evL,G9_]) k
theorem Qq_ {tb:Tb} {ti:TI} {i b b' off T0 len:Nat} {cs:List PV} (row:Nat->PV) (m base w o:Nat) (ht:tbB P tb=true) (hx:evP fF x = .own i b off) (hb:fL i = .box b' T0 cs) (hbb:b'=b) (hti:lkT tb T=some ti) (hag:ti.k.isAgg=false) (hoff:off=base+m*w+o) (hm:m<len) (hc:∀ q,q<len->cs[base+q*w+o]? = some (row q)) (hd:Nat.blt d n=true) (k:(row m).wf->K ⟨updp fF d (row m),fL⟩):E1 P n N H0 all ⟨some d, .load T x,ty,pos,af,none⟩ none ⟨fF,fL⟩ K:=
 oload1 (row m) ht hx hb hbb hti hag (by rw[hoff];exact hc m hm) hd k
theorem Ne_ {tb:Tb} {ti:TI} {i b b' off T0 len:Nat} {cs cs2:List PV} {p:PV} (cs':Nat->List PV) (m base w o:Nat) (ht:tbB P tb=true) (hx:evP fF x = .own i b off) (hb:fL i = .box b' T0 cs) (hti:lkT tb T=some ti) (hsz:ti.size=1) (hy:evS (evP fF y)=some p) (ho:p.one=true) (hoff:off=base+m*w+o) (hm:m<len) (hl:∀ q,q<len->Nat.blt (base+q*w+o) cs.length=true) (hbb:b'=b) (hc:∀ q,q<len->cs.set (base+q*w+o) p=cs' q) (he:evL (cs' m)=some cs2)
   (k:K ⟨fF,lups fL i (.box b T0 cs2)⟩):E1 P n N H0 all ⟨none, .store T x y,ty,pos,af,none⟩ (some i) ⟨fF,fL⟩ K:=
 ostore1 cs2 ht hx hb hti hsz hy ho (by rw[hoff];simpa [Nat.blt_eq] using hl m hm) hbb (by rw[hoff,hc m hm,<- Ms_ he]) k
theorem bw16 {p:Nat->Prop} (h0:p 0) (h1:p 1) (h2:p 2) (h3:p 3) (h4:p 4) (h5:p 5) (h6:p 6) (h7:p 7) (h8:p 8) (h9:p 9) (h10:p 10) (h11:p 11) (h12:p 12) (h13:p 13) (h14:p 14) (h15:p 15):∀ m,m<16->p m
 |0,_=>h0|1,_=>h1|2,_=>h2|3,_=>h3|4,_=>h4|5,_=>h5|6,_=>h6|7,_=>h7|8,_=>h8|9,_=>h9|10,_=>h10|11,_=>h11|12,_=>h12|13,_=>h13|14,_=>h14|15,_=>h15
 |m+16,h=>absurd h xN
structure A8 (α:Type) where
 (e0 e1 e2 e3 e4 e5 e6 e7:α)
deriving DecidableEq,Inhabited
structure A16 (α:Type) where
 (e0 e1 e2 e3 e4 e5 e6 e7 e8 e9 e10 e11 e12 e13 e14 e15:α)
deriving DecidableEq,Inhabited
def A8.get {α:Type} (a:A8 α):Nat->α
 |0=>a.e0|1=>a.e1|2=>a.e2|3=>a.e3|4=>a.e4|5=>a.e5|6=>a.e6|_=>a.e7
def A16.get {α:Type} (a:A16 α):Nat->α
 |0=>a.e0|1=>a.e1|2=>a.e2|3=>a.e3|4=>a.e4|5=>a.e5|6=>a.e6|7=>a.e7|8=>a.e8|9=>a.e9|10=>a.e10|11=>a.e11|12=>a.e12|13=>a.e13|14=>a.e14|_=>a.e15
def A8.set {α:Type} (a:A8 α) (v:α):Nat->A8 α
 |0=>{a with e0:=v}|1=>{a with e1:=v}|2=>{a with e2:=v}|3=>{a with e3:=v}|4=>{a with e4:=v}|5=>{a with e5:=v}|6=>{a with e6:=v}|_=>{a with e7:=v}
def A16.set {α:Type} (a:A16 α) (v:α):Nat->A16 α
 |0=>{a with e0:=v}|1=>{a with e1:=v}|2=>{a with e2:=v}|3=>{a with e3:=v}|4=>{a with e4:=v}|5=>{a with e5:=v}|6=>{a with e6:=v}|7=>{a with e7:=v}|8=>{a with e8:=v}|9=>{a with e9:=v}|10=>{a with e10:=v}|11=>{a with e11:=v}|12=>{a with e12:=v}|13=>{a with e13:=v}|14=>{a with e14:=v}|_=>{a with e15:=v}
theorem A16.get_set {α:Type} (a:A16 α) (v:α) (m q:Nat) (hm:m<16) (hq:q<16):(a.set v m).get q = if q=m then v else a.get q:=by
 revert q
 refine bw16 (p:=λm=>∀ q,q<16->(a.set v m).get q = if q=m then v else a.get q) ?_ ?_ ?_ ?_ ?_ ?_ ?_ ?_ ?_ ?_ ?_ ?_ ?_ ?_ ?_ ?_ m hm<;>exact bw16 Y Y Y Y Y Y Y Y Y Y Y Y Y Y Y Y
end Go.SW.V
namespace Go.SW
structure Aw_ where
 A8_:Mail
 P6_:Bool
 again:Bool
deriving DecidableEq,Inhabited
def Aw_.pc (x:Aw_):List PV:=[.int .u64 x.A8_.id, .str x.A8_.D5_, .str x.A8_.key, .sl Pair.pc x.A8_.head, .str x.A8_.body, .int .u64 x.A8_.due, .int .u8 x.A8_.hops, .bool x.P6_, .bool x.again]
structure An_ where
 level:Int
 Fq_:Int
deriving DecidableEq,Inhabited
def An_.pc (x:An_):List PV:=[.int .u8 x.level, .int .u32 x.Fq_]
structure Ad_ where
 name:Bs
 label:An_
 bytes:Int
 base:Int
deriving DecidableEq,Inhabited
def Ad_.pc (x:Ad_):List PV:=[.str x.name, .int .u8 x.label.level, .int .u32 x.label.Fq_, .int .i64 x.bytes, .int .u64 x.base]
structure U_ where
 frm:Int
 to':Int
 budget:Int
deriving DecidableEq,Inhabited
def U_.pc (x:U_):List PV:=[.int .i64 x.frm, .int .i64 x.to', .int .i64 x.budget]
structure A_ where
 work:Int
 give:Int
 places:List Ad_
 slots:List Int
 grants:List U_
deriving DecidableEq,Inhabited
def A_.pc (x:A_):List PV:=[.int .i64 x.work, .int .i64 x.give, .sl Ad_.pc x.places, .sl i64c x.slots, .sl U_.pc x.grants]
structure J3_ where
 tick:Int
 kind:Int
 text:Bs
deriving DecidableEq,Inhabited
def J3_.pc (x:J3_):List PV:=[.int .u64 x.tick, .int .u8 x.kind, .str x.text]
structure Dv_ where
 total:Int
 kept:List J3_
deriving DecidableEq,Inhabited
def Dv_.pc (x:Dv_):List PV:=[.int .u64 x.total, .sl J3_.pc x.kept]
structure Bc_ where
 items:List Aw_
deriving DecidableEq,Inhabited
def Bc_.pc (x:Bc_):List PV:=[.sl Aw_.pc x.items]
structure Me_ where
 q:Cs_
 l:Bc_
deriving DecidableEq,Inhabited
def Me_.pc (x:Me_):List PV:=[.str x.q.name, .int .u64 x.q.most, .int .u64 x.q.life, .str x.q.dead, .sl Aw_.pc x.l.items]
structure Om_ where
 q:Cs_
 l:List Aw_
deriving DecidableEq,Inhabited
def Om_.pc (x:Om_):List PV:=[.str x.q.name, .int .u64 x.q.most, .int .u64 x.q.life, .str x.q.dead, .sl Aw_.pc x.l]
structure J4_ where
 total:Int
 kept:List Mail
deriving DecidableEq,Inhabited
def J4_.pc (x:J4_):List PV:=[.int .u64 x.total, .sl Mail.pc x.kept]
abbrev A16_RiseR:=V.A16 J4_
def A16_RiseR.pc (x:A16_RiseR):List PV:=[.int .u64 x.e0.total, .sl Mail.pc x.e0.kept, .int .u64 x.e1.total, .sl Mail.pc x.e1.kept, .int .u64 x.e2.total, .sl Mail.pc x.e2.kept, .int .u64 x.e3.total, .sl Mail.pc x.e3.kept, .int .u64 x.e4.total, .sl Mail.pc x.e4.kept, .int .u64 x.e5.total, .sl Mail.pc x.e5.kept, .int .u64 x.e6.total, .sl Mail.pc x.e6.kept, .int .u64 x.e7.total, .sl Mail.pc x.e7.kept, .int .u64 x.e8.total, .sl Mail.pc x.e8.kept, .int .u64 x.e9.total, .sl Mail.pc x.e9.kept, .int .u64 x.e10.total, .sl Mail.pc x.e10.kept, .int .u64 x.e11.total, .sl Mail.pc x.e11.kept, .int .u64 x.e12.total, .sl Mail.pc x.e12.kept, .int .u64 x.e13.total, .sl Mail.pc x.e13.kept, .int .u64 x.e14.total, .sl Mail.pc x.e14.kept, .int .u64 x.e15.total, .sl Mail.pc x.e15.kept]
abbrev A16_u64:=V.A16 Int
def A16_u64.pc (x:A16_u64):List PV:=[.int .u64 x.e0, .int .u64 x.e1, .int .u64 x.e2, .int .u64 x.e3, .int .u64 x.e4, .int .u64 x.e5, .int .u64 x.e6, .int .u64 x.e7, .int .u64 x.e8, .int .u64 x.e9, .int .u64 x.e10, .int .u64 x.e11, .int .u64 x.e12, .int .u64 x.e13, .int .u64 x.e14, .int .u64 x.e15]
structure On_ where
 round:Int
 count:Int
deriving DecidableEq,Inhabited
def On_.pc (x:On_):List PV:=[.int .u64 x.round, .int .i64 x.count]
abbrev A8_SpentR:=V.A8 On_
def A8_SpentR.pc (x:A8_SpentR):List PV:=[.int .u64 x.e0.round, .int .i64 x.e0.count, .int .u64 x.e1.round, .int .i64 x.e1.count, .int .u64 x.e2.round, .int .i64 x.e2.count, .int .u64 x.e3.round, .int .i64 x.e3.count, .int .u64 x.e4.round, .int .i64 x.e4.count, .int .u64 x.e5.round, .int .i64 x.e5.count, .int .u64 x.e6.round, .int .i64 x.e6.count, .int .u64 x.e7.round, .int .i64 x.e7.count]
structure Y_ where
 next :Int
 bytes:Int
 rows:List Me_
 rises:A16_RiseR
deriving DecidableEq,Inhabited
def Y_.pc (x:Y_):List PV:=[.int .u64 x.next, .int .i64 x.bytes, .sl Me_.pc x.rows, .int .u64 x.rises.e0.total, .sl Mail.pc x.rises.e0.kept, .int .u64 x.rises.e1.total, .sl Mail.pc x.rises.e1.kept, .int .u64 x.rises.e2.total, .sl Mail.pc x.rises.e2.kept, .int .u64 x.rises.e3.total, .sl Mail.pc x.rises.e3.kept, .int .u64 x.rises.e4.total, .sl Mail.pc x.rises.e4.kept, .int .u64 x.rises.e5.total, .sl Mail.pc x.rises.e5.kept, .int .u64 x.rises.e6.total, .sl Mail.pc x.rises.e6.kept, .int .u64 x.rises.e7.total, .sl Mail.pc x.rises.e7.kept, .int .u64 x.rises.e8.total, .sl Mail.pc x.rises.e8.kept, .int .u64 x.rises.e9.total, .sl Mail.pc x.rises.e9.kept, .int .u64 x.rises.e10.total, .sl Mail.pc x.rises.e10.kept, .int .u64 x.rises.e11.total, .sl Mail.pc x.rises.e11.kept, .int .u64 x.rises.e12.total, .sl Mail.pc x.rises.e12.kept, .int .u64 x.rises.e13.total, .sl Mail.pc x.rises.e13.kept, .int .u64 x.rises.e14.total, .sl Mail.pc x.rises.e14.kept, .int .u64 x.rises.e15.total, .sl Mail.pc x.rises.e15.kept]
structure Ix_ where
 next :Int
 most:Int
 rows:List Om_
 rises:A16_RiseR
deriving DecidableEq,Inhabited
def Ix_.pc (x:Ix_):List PV:=[.int .u64 x.next, .int .i64 x.most, .sl Om_.pc x.rows, .int .u64 x.rises.e0.total, .sl Mail.pc x.rises.e0.kept, .int .u64 x.rises.e1.total, .sl Mail.pc x.rises.e1.kept, .int .u64 x.rises.e2.total, .sl Mail.pc x.rises.e2.kept, .int .u64 x.rises.e3.total, .sl Mail.pc x.rises.e3.kept, .int .u64 x.rises.e4.total, .sl Mail.pc x.rises.e4.kept, .int .u64 x.rises.e5.total, .sl Mail.pc x.rises.e5.kept, .int .u64 x.rises.e6.total, .sl Mail.pc x.rises.e6.kept, .int .u64 x.rises.e7.total, .sl Mail.pc x.rises.e7.kept, .int .u64 x.rises.e8.total, .sl Mail.pc x.rises.e8.kept, .int .u64 x.rises.e9.total, .sl Mail.pc x.rises.e9.kept, .int .u64 x.rises.e10.total, .sl Mail.pc x.rises.e10.kept, .int .u64 x.rises.e11.total, .sl Mail.pc x.rises.e11.kept, .int .u64 x.rises.e12.total, .sl Mail.pc x.rises.e12.kept, .int .u64 x.rises.e13.total, .sl Mail.pc x.rises.e13.kept, .int .u64 x.rises.e14.total, .sl Mail.pc x.rises.e14.kept, .int .u64 x.rises.e15.total, .sl Mail.pc x.rises.e15.kept]
structure Md_ where
 book:Bf_
 B_:Y_
 notes:Dv_
 seen:A16_u64
 spent:A8_SpentR
deriving DecidableEq,Inhabited
def Md_.pc (x:Md_):List PV:=[.sl Bs_.pc x.book.Br_, .sl Bp_.pc x.book.binds, .int .u64 x.B_.next, .int .i64 x.B_.bytes, .sl Me_.pc x.B_.rows, .int .u64 x.B_.rises.e0.total, .sl Mail.pc x.B_.rises.e0.kept, .int .u64 x.B_.rises.e1.total, .sl Mail.pc x.B_.rises.e1.kept, .int .u64 x.B_.rises.e2.total, .sl Mail.pc x.B_.rises.e2.kept, .int .u64 x.B_.rises.e3.total, .sl Mail.pc x.B_.rises.e3.kept, .int .u64 x.B_.rises.e4.total, .sl Mail.pc x.B_.rises.e4.kept, .int .u64 x.B_.rises.e5.total, .sl Mail.pc x.B_.rises.e5.kept, .int .u64 x.B_.rises.e6.total, .sl Mail.pc x.B_.rises.e6.kept, .int .u64 x.B_.rises.e7.total, .sl Mail.pc x.B_.rises.e7.kept, .int .u64 x.B_.rises.e8.total, .sl Mail.pc x.B_.rises.e8.kept, .int .u64 x.B_.rises.e9.total, .sl Mail.pc x.B_.rises.e9.kept, .int .u64 x.B_.rises.e10.total, .sl Mail.pc x.B_.rises.e10.kept, .int .u64 x.B_.rises.e11.total, .sl Mail.pc x.B_.rises.e11.kept, .int .u64 x.B_.rises.e12.total, .sl Mail.pc x.B_.rises.e12.kept, .int .u64 x.B_.rises.e13.total, .sl Mail.pc x.B_.rises.e13.kept, .int .u64 x.B_.rises.e14.total, .sl Mail.pc x.B_.rises.e14.kept, .int .u64 x.B_.rises.e15.total, .sl Mail.pc x.B_.rises.e15.kept, .int .u64 x.notes.total, .sl J3_.pc x.notes.kept, .int .u64 x.seen.e0, .int .u64 x.seen.e1, .int .u64 x.seen.e2, .int .u64 x.seen.e3, .int .u64 x.seen.e4, .int .u64 x.seen.e5, .int .u64 x.seen.e6, .int .u64 x.seen.e7, .int .u64 x.seen.e8, .int .u64 x.seen.e9, .int .u64 x.seen.e10, .int .u64 x.seen.e11, .int .u64 x.seen.e12, .int .u64 x.seen.e13, .int .u64 x.seen.e14, .int .u64 x.seen.e15, .int .u64 x.spent.e0.round, .int .i64 x.spent.e0.count, .int .u64 x.spent.e1.round, .int .i64 x.spent.e1.count, .int .u64 x.spent.e2.round, .int .i64 x.spent.e2.count, .int .u64 x.spent.e3.round, .int .i64 x.spent.e3.count, .int .u64 x.spent.e4.round, .int .i64 x.spent.e4.count, .int .u64 x.spent.e5.round, .int .i64 x.spent.e5.count, .int .u64 x.spent.e6.round, .int .i64 x.spent.e6.count, .int .u64 x.spent.e7.round, .int .i64 x.spent.e7.count]
structure Gz_ where
 x:Md_
 Z_:A_
 place:Int
deriving DecidableEq,Inhabited
def Gz_.pc (x:Gz_):List PV:=[.sl Bs_.pc x.x.book.Br_, .sl Bp_.pc x.x.book.binds, .int .u64 x.x.B_.next, .int .i64 x.x.B_.bytes, .sl Me_.pc x.x.B_.rows, .int .u64 x.x.B_.rises.e0.total, .sl Mail.pc x.x.B_.rises.e0.kept, .int .u64 x.x.B_.rises.e1.total, .sl Mail.pc x.x.B_.rises.e1.kept, .int .u64 x.x.B_.rises.e2.total, .sl Mail.pc x.x.B_.rises.e2.kept, .int .u64 x.x.B_.rises.e3.total, .sl Mail.pc x.x.B_.rises.e3.kept, .int .u64 x.x.B_.rises.e4.total, .sl Mail.pc x.x.B_.rises.e4.kept, .int .u64 x.x.B_.rises.e5.total, .sl Mail.pc x.x.B_.rises.e5.kept, .int .u64 x.x.B_.rises.e6.total, .sl Mail.pc x.x.B_.rises.e6.kept, .int .u64 x.x.B_.rises.e7.total, .sl Mail.pc x.x.B_.rises.e7.kept, .int .u64 x.x.B_.rises.e8.total, .sl Mail.pc x.x.B_.rises.e8.kept, .int .u64 x.x.B_.rises.e9.total, .sl Mail.pc x.x.B_.rises.e9.kept, .int .u64 x.x.B_.rises.e10.total, .sl Mail.pc x.x.B_.rises.e10.kept, .int .u64 x.x.B_.rises.e11.total, .sl Mail.pc x.x.B_.rises.e11.kept, .int .u64 x.x.B_.rises.e12.total, .sl Mail.pc x.x.B_.rises.e12.kept, .int .u64 x.x.B_.rises.e13.total, .sl Mail.pc x.x.B_.rises.e13.kept, .int .u64 x.x.B_.rises.e14.total, .sl Mail.pc x.x.B_.rises.e14.kept, .int .u64 x.x.B_.rises.e15.total, .sl Mail.pc x.x.B_.rises.e15.kept, .int .u64 x.x.notes.total, .sl J3_.pc x.x.notes.kept, .int .u64 x.x.seen.e0, .int .u64 x.x.seen.e1, .int .u64 x.x.seen.e2, .int .u64 x.x.seen.e3, .int .u64 x.x.seen.e4, .int .u64 x.x.seen.e5, .int .u64 x.x.seen.e6, .int .u64 x.x.seen.e7, .int .u64 x.x.seen.e8, .int .u64 x.x.seen.e9, .int .u64 x.x.seen.e10, .int .u64 x.x.seen.e11, .int .u64 x.x.seen.e12, .int .u64 x.x.seen.e13, .int .u64 x.x.seen.e14, .int .u64 x.x.seen.e15, .int .u64 x.x.spent.e0.round, .int .i64 x.x.spent.e0.count, .int .u64 x.x.spent.e1.round, .int .i64 x.x.spent.e1.count, .int .u64 x.x.spent.e2.round, .int .i64 x.x.spent.e2.count, .int .u64 x.x.spent.e3.round, .int .i64 x.x.spent.e3.count, .int .u64 x.x.spent.e4.round, .int .i64 x.x.spent.e4.count, .int .u64 x.x.spent.e5.round, .int .i64 x.x.spent.e5.count, .int .u64 x.x.spent.e6.round, .int .i64 x.x.spent.e6.count, .int .u64 x.x.spent.e7.round, .int .i64 x.x.spent.e7.count, .int .i64 x.Z_.work, .int .i64 x.Z_.give, .sl Ad_.pc x.Z_.places, .sl i64c x.Z_.slots, .sl U_.pc x.Z_.grants, .int .i64 x.place]
structure Iy_ where
 p:A_
 at_:Int
 book:Bf_
 B_:Ix_
 notes:Dv_
 seen:A16_u64
 spent:A8_SpentR
deriving DecidableEq,Inhabited
def Iy_.pc (x:Iy_):List PV:=[.int .i64 x.p.work, .int .i64 x.p.give, .sl Ad_.pc x.p.places, .sl i64c x.p.slots, .sl U_.pc x.p.grants, .int .i64 x.at_, .sl Bs_.pc x.book.Br_, .sl Bp_.pc x.book.binds, .int .u64 x.B_.next, .int .i64 x.B_.most, .sl Om_.pc x.B_.rows, .int .u64 x.B_.rises.e0.total, .sl Mail.pc x.B_.rises.e0.kept, .int .u64 x.B_.rises.e1.total, .sl Mail.pc x.B_.rises.e1.kept, .int .u64 x.B_.rises.e2.total, .sl Mail.pc x.B_.rises.e2.kept, .int .u64 x.B_.rises.e3.total, .sl Mail.pc x.B_.rises.e3.kept, .int .u64 x.B_.rises.e4.total, .sl Mail.pc x.B_.rises.e4.kept, .int .u64 x.B_.rises.e5.total, .sl Mail.pc x.B_.rises.e5.kept, .int .u64 x.B_.rises.e6.total, .sl Mail.pc x.B_.rises.e6.kept, .int .u64 x.B_.rises.e7.total, .sl Mail.pc x.B_.rises.e7.kept, .int .u64 x.B_.rises.e8.total, .sl Mail.pc x.B_.rises.e8.kept, .int .u64 x.B_.rises.e9.total, .sl Mail.pc x.B_.rises.e9.kept, .int .u64 x.B_.rises.e10.total, .sl Mail.pc x.B_.rises.e10.kept, .int .u64 x.B_.rises.e11.total, .sl Mail.pc x.B_.rises.e11.kept, .int .u64 x.B_.rises.e12.total, .sl Mail.pc x.B_.rises.e12.kept, .int .u64 x.B_.rises.e13.total, .sl Mail.pc x.B_.rises.e13.kept, .int .u64 x.B_.rises.e14.total, .sl Mail.pc x.B_.rises.e14.kept, .int .u64 x.B_.rises.e15.total, .sl Mail.pc x.B_.rises.e15.kept, .int .u64 x.notes.total, .sl J3_.pc x.notes.kept, .int .u64 x.seen.e0, .int .u64 x.seen.e1, .int .u64 x.seen.e2, .int .u64 x.seen.e3, .int .u64 x.seen.e4, .int .u64 x.seen.e5, .int .u64 x.seen.e6, .int .u64 x.seen.e7, .int .u64 x.seen.e8, .int .u64 x.seen.e9, .int .u64 x.seen.e10, .int .u64 x.seen.e11, .int .u64 x.seen.e12, .int .u64 x.seen.e13, .int .u64 x.seen.e14, .int .u64 x.seen.e15, .int .u64 x.spent.e0.round, .int .i64 x.spent.e0.count, .int .u64 x.spent.e1.round, .int .i64 x.spent.e1.count, .int .u64 x.spent.e2.round, .int .i64 x.spent.e2.count, .int .u64 x.spent.e3.round, .int .i64 x.spent.e3.count, .int .u64 x.spent.e4.round, .int .i64 x.spent.e4.count, .int .u64 x.spent.e5.round, .int .i64 x.spent.e5.count, .int .u64 x.spent.e6.round, .int .i64 x.spent.e6.count, .int .u64 x.spent.e7.round, .int .i64 x.spent.e7.count]
structure OutR where
 queue:Bs
 A8_:Mail
deriving DecidableEq,Inhabited
def OutR.pc (x:OutR):List PV:=[.str x.queue, .int .u64 x.A8_.id, .str x.A8_.D5_, .str x.A8_.key, .sl Pair.pc x.A8_.head, .str x.A8_.body, .int .u64 x.A8_.due, .int .u8 x.A8_.hops]
structure C_ where
 kind:Int
 place:Int
 client:Int
 chunk:Bs
 a:Int
 b:Int
deriving DecidableEq,Inhabited
def C_.pc (x:C_):List PV:=[.int .u8 x.kind, .int .i64 x.place, .int .u64 x.client, .str x.chunk, .int .i64 x.a, .int .i64 x.b]
abbrev A16_bool:=V.A16 Bool
def A16_bool.pc (x:A16_bool):List PV:=[.bool x.e0, .bool x.e1, .bool x.e2, .bool x.e3, .bool x.e4, .bool x.e5, .bool x.e6, .bool x.e7, .bool x.e8, .bool x.e9, .bool x.e10, .bool x.e11, .bool x.e12, .bool x.e13, .bool x.e14, .bool x.e15]
end Go.SW
namespace Go.SW.V
open Go.SW
variable {P:Program} {n:Nat} {N:Rest} {H0:Env} {all rest:List Oper} {Q:Qs} {ks:List Kt} {fF:Nat->PV} {fL:Nat->Blk} {T ty d:Nat} {pos:String} {af:Array Edge} {x y z:Operand} {K:St->Prop}
theorem lo_sidx {F:Fr} {H:Hp} {L:Ls} {kk:IntKind} {k m b o len cap:Nat} {i:Int} {e:TypeId} (hx:ev F x = .slice (some ⟨b,o,none⟩) len cap) (hy:ev F y = .int kk i) (hT:P.underlying T=some (.slice e)) (hk:Sz P e k) (hi:i=m) (hm:m<len):SW.Lo P N (.indexAddr T x y) ty F H L (.pointer (some ⟨b,o+m*k,none⟩)):=λd pos af g w _=>by
 subst hi
 simp[execOp,hx,hy,Instr.indexAt,asIntOf,run_underlying hT,hk w,hm,K_]
theorem T6_ {α:Type} {s:St} {F:Fr} {H:Hp} {L:Ls} {i k e:Nat} {u:Value} {enc:α->List PV} {xs:List α} (ha:Abs H0 s F H L) (hb:s.L i = .arr u k e enc xs) (h0:0<xs.length) :
   ∃ b cap c f,u = .slice (some ⟨b,f.length,none⟩) xs.length cap/\L i=some (b,bx e (f++c))/\cap*k<=c.length/\xs.length<=cap/\Rl (RowE enc k) H xs (c.take (xs.length*k))/\xs.length<=140737488355328/\(k=1->f=[]):=by
 have h3:=ha.l i;rw[hb] at h3;obtain⟨cs,⟨hl,⟨_,h0',_⟩|⟨b,cap,c,f,rfl,hL,hcl,hle,htk,hff⟩⟩,hr,hm⟩:=h3;omega;exact⟨b,cap,c,f,rfl,hL,hcl,hle,by rw[htk];exact hr,hm,hff⟩
theorem eidx {α:Type} {tb:Tb} {ti te:TI} {kk:IntKind} {i e k:Nat} {z:Int} {u:Value} {enc:α->List PV} {xs:List α} (m:Nat) (ht:tbB P tb=true) (hx:evP fF x = .osl i) (hb:fL i = .arr u k e enc xs) (hy:evP fF y = .int kk z) (hti:lkT tb T=some ti) (htk:ti.k = .slc e) (hte:lkT tb e=some te) (hk:te.size=k) (hi:z=(m:Int)) (hm:m<xs.length) :
   Qy P N H0 ⟨fF,fL⟩ (.indexAddr T x y) ty (.val (.pointer (some ⟨sBlk u,sOff u+m*k,none⟩))):=λF H L ha=>by
 have h1:=A2_ ha.f x
 unfold Ok1 at h1
 simp only at h1
 rw[hx] at h1
 simp only[SimT,hb] at h1
 have h2:=(A2_ ha.f y).sim
 simp only at h2
 rw[hy] at h2
 obtain⟨b,cap,c,f,rfl,hL,_⟩:=T6_ ha (i:=i) hb xN
 have hsz:=(Bn_ ht hte).sz
 rw[hk] at hsz
 exact⟨_,Sim.val,λ_ _ _=>lo_sidx h1 h2.inv_int.1 ((Bn_ ht hti).slc htk) hsz hi hm⟩
theorem row_at {α:Type} {H:Hp} {enc:α->List PV} {k m:Nat} {xs:List α} {a:α} {c:List Value} (hr:Rl (RowE enc k) H xs (c.take (xs.length*k))) (ha:xs[m]? = some a):∃ ds,RowE enc k H a ds/\∀ j,j<k->c[m*k+j]? = ds[j]? :=by
 obtain⟨hm,rfl⟩:=List.getElem?_eq_some_iff.1 ha;obtain⟨ds,p,q⟩:=rl_at Ei_ hr m hm;refine⟨ds,p,λj hj=>?_⟩;have :(m+1)*k<=xs.length*k:=Nat.mul_le_mul_right k xN;rw[Nat.add_mul] at this;rw[<- q j hj,List.getElem?_take,if_pos xN]
theorem elod1 {α:Type} {tb:Tb} {ti:TI} {i e k off:Nat} {u:Value} {enc:α->List PV} {xs:List α} {a:α} (p:PV) (m o:Nat) (ht:tbB P tb=true) (hx:evP fF x = .val (.pointer (some ⟨sBlk u,off,none⟩))) (hb:fL i = .arr u k e enc xs) (hti:lkT tb T=some ti) (hag:ti.k.isAgg=false) (ha':xs[m]? = some a) (hoff:off=sOff u+m*k+o) (hp:(enc a)[o]? = some p) (hn:p.noOsl=true) (hd:Nat.blt d n=true) (kk:p.wf->K ⟨updp fF d p,fL⟩):E1 P n N H0 all ⟨some d, .load T x,ty,pos,af,none⟩ none ⟨fF,fL⟩ K:=by
 intro F H L ha;have h1:=(A2_ ha.f x).sim;simp only at h1;rw[hx] at h1;have hm:m<xs.length:=(List.getElem?_eq_some_iff.1 ha').1;obtain⟨b,cap,c,f,rfl,hL,hcl,hle,hr,hbb,hff⟩:=T6_ ha (i:=i) hb xN;obtain⟨ds,⟨q1,q2,q3⟩,q4⟩:=row_at hr ha';have ho:o<k:=by rw[<- q1];exact (List.getElem?_eq_some_iff.1 hp).1
 obtain⟨v,hv⟩:∃ v,ds[o]? = some v:=⟨_,List.getElem?_eq_getElem (by rw[q2.1,q1];exact ho)⟩;have hs:=q2.2 o p v hp hv;have hg:=(Bn_ ht hti).ag;rw[hag] at hg;exact E9_ hd (Bj_ h1.inv_val hg hL (by rw[hoff];show (f++c)[f.length+m*k+o]? = _;rw[Nat.add_assoc,List.getElem?_append_right xN,Nat.add_sub_cancel_left,q4 o ho];exact hv)) ⟨.refl H,λ_ _=>rfl,_,ha.put d (hs.simT hn),kk hs.wf⟩
end Go.SW.V
namespace Go.SW
variable {P:Program} {n:Nat} {N:Rest} {H0:Env} {Q:Qs} {ks:List Kt} {s:St}
theorem Oz_ {α:Type} {i o b T0 k e:Nat} {cs:List PV} {c:Code} (j:Nat) (enc:α->List PV) (hb:Df_ j s.L i = .box b T0 cs) (hne:i≠j) (ho:cs[o]? = some (.val (.slice none 0 0))) (hno:s.L j = .no)
   (kk:Hd P n N H0 Q (.code c) ks ⟨F8_ j s.F,lups (lups (Df_ j s.L) j (.arr (.slice none 0 0) k e enc [])) i (.box b T0 (cs.set o (.osl j)))⟩):Hd P n N H0 Q (.code c) ks s:=λF H L ha=>by
 have hL0:Abs H0 s F H (lupd L j none):=⟨ha.le,ha.g,ha.f,λq=>by
   by_cases e:q=j
   . subst e;rw[hno];trivial
   . rw[E_ _ _ _ _ e];exact ha.l q⟩
 have h2:=hL0.turn j (B:= .arr (.slice none 0 0) k e enc []) (x:=none) ⟨[],Gu_,No_,by simp⟩
 have e2:lupd (lupd L j none) j none=lupd L j none:=by funext q;simp only[lupd];cases Nat.beq q j<;>rfl
 rw[e2] at h2
 have h3:=h2.l i
 simp only[Ds_ _ _ _ _ hne,hb] at h3
 obtain⟨vs,hL,hs1,hs2⟩:=h3
 have h4:=h2.turnB i (B:= .box b T0 (cs.set o (.osl j))) Z (x:=lupd L j none i) ⟨vs,hL,by simpa using hs1,λa p v hp hv=>by
   rw[List.getElem?_set] at hp
   by_cases z:o=a
   . subst z
     rw[if_pos rfl] at hp
     split at hp
     . cases hp
       have h5:=(hs2 o _ v ho hv).sim.inv_val
       simp only[SimT,Ds_ _ _ _ _ hne.symm,Bu_]
       exact h5
     . cases hp
   . rw[if_neg z] at hp
     have h5:=hs2 a p v hp hv
     exact Gv_ (b:=b) (T:=T0) (cs:=cs) (by simp only[Ds_ _ _ _ _ hne,hb]) h5⟩
 have e3:lupd (lupd L j none) i (lupd L j none i)=lupd L j none:=by funext q;by_cases e:q=i;(subst e;exact F_ _ _ _);exact E_ _ _ _ _ e
 rw[e3] at h4
 exact Ka_ (λw hm=>hm.clear j) (kk F H _ h4)
theorem L6_ {α:Type} {all:List Oper} {T ty i j b b' off T0 k e:Nat} {pos:String} {af:Array Edge} {x y:Operand} {K:St->Prop} {tb:Tb} {ti:TI} {cs cs':List PV} {u:Value} {enc:α->List PV} {xs:List α} (ht:tbB P tb=true) (hx:evP s.F x = .own i b off) (hb:s.L i = .box b' T0 cs) (hti:lkT tb T=some ti) (hsz:ti.size=1) (hy:evP s.F y = .osl j) (hj:s.L j = .arr u k e enc xs) (hl:Nat.blt off cs.length=true) (hbb:b'=b) (hc:cs.set off (.osl j)=cs')
   (kk:K ⟨s.F,lups s.L i (.box b T0 cs')⟩):E1 P n N H0 all ⟨none, .store T x y,ty,pos,af,none⟩ (some i) s K:=by
 intro F H L ha;subst hbb hc;have h1:=(A2_ ha.f x).sim;rw[hx] at h1;have h2:=A2_ ha.f y;unfold Ok1 at h2;rw[hy] at h2;have h2':=h2;simp only[SimT,hj] at h2';have h3:=ha.l i;rw[hb] at h3;obtain⟨vs,hL,hs⟩:=h3;have h5:=ha.l j;rw[hj] at h5;obtain⟨cs0,ho,_,_⟩:=h5;have hone:(ev F y).oneCell'=true:=by
   rw[h2']
   obtain⟨_,⟨rfl,_,_⟩|⟨_,_,_,_,rfl,_⟩⟩:=ho<;>rfl
 have hsz':=(Bn_ ht hti).sz;rw[hsz] at hsz';refine De_ h1.inv_own Y hone hsz' hL wR ?_;refine⟨.refl H,only,_,ha.turnB (B:= .box _ T0 (cs.set off (.osl j))) i Z ⟨_,rfl,?_⟩,kk⟩;have h4:=hs.set off h2;exact⟨h4.1,λq p v hq hv=>Gv_ hb (h4.2 q p v hq hv)⟩
end Go.SW
namespace Go.SW
variable {P:Program} {n:Nat} {N:Rest} {H0:Env} {all:List Oper} {Q:Qs} {ks:List Kt} {s:St}
end Go.SW
namespace Go.SW.V
open Go.SW
variable {P:Program} {n:Nat} {N:Rest} {H0:Env} {all:List Oper} {Q:Qs} {ks:List Kt} {fF:Nat->PV} {fL:Nat->Blk}
end Go.SW.V
namespace Go.SW
variable {P:Program} {n:Nat} {N:Rest} {H0:Env} {all:List Oper} {Q:Qs} {ks:List Kt} {s:St}
end Go.SW
namespace Go.SW.V
open Go.SW
variable {P:Program} {n:Nat} {N:Rest} {H0:Env} {all:List Oper} {Q:Qs} {ks:List Kt} {fF:Nat->PV} {fL:Nat->Blk}
end Go.SW.V
namespace Go.SW.V
open Go.SW
variable {P:Program} {n:Nat} {N:Rest} {H0:Env} {all:List Oper} {Q:Qs} {ks:List Kt} {fF:Nat->PV} {fL:Nat->Blk} {T ty:Nat} {x y:Operand}
end Go.SW.V
namespace Go.SW
variable {P:Program} {n:Nat} {N:Rest} {H0:Env} {all rest:List Oper} {Q:Qs} {ks:List Kt} {s:St} {T ty d:Nat} {pos:String} {af:Array Edge} {x y:Operand} {K:St->Prop} {op:Op} {p:PV}
def Ly (P:Program) (N:Rest) (H0:Env) (s:St) (op:Op) (ty:TypeId) (p:PV):Prop:=∀ F H L,Abs H0 s F H L->∃ val,SimT s.L H p val/\Lo P N op ty F H L val
theorem lyS1 {tb:Tb} {ti:TI} {i b b' off T0 len:Nat} {cs:List PV} (row:Nat->PV) (m base w o:Nat) (ht:tbB P tb=true) (hx:evP s.F x = .own i b off) (hb:s.L i = .box b' T0 cs) (hbb:b'=b) (hti:lkT tb T=some ti) (hag:ti.k.isAgg=false) (hoff:off=base+m*w+o) (hm:m<len) (hno:∀ q,(row q).noOsl=true) (hc:∀ q,q<len->cs[base+q*w+o]? = some (row q)):Ly P N H0 s (.load T x) ty (row m):=λF H L ha=>by
 subst hbb
 have h1:=(A2_ ha.f x).sim
 rw[hx] at h1
 have h3:=ha.l i
 rw[hb] at h3
 obtain⟨vs,hL,hs⟩:=h3
 have hc':=hc m hm
 rw[<- hoff] at hc'
 obtain⟨v,hv,hsv⟩:=hs.get hc'
 have hg:=(Bn_ ht hti).ag
 rw[hag] at hg
 exact⟨v,hsv.sim.simT (hno m),Bj_ h1.inv_own hg hL hv⟩
theorem q1gL {j:Nat} {want g:Bool} (ts:List Nat) (hg:gOp s all j want=some g) (h:g=true->Ly P N H0 (strS ts s) op ty p) (hc:AllP (E2_ s.F g ts [])) (hno:Cy_ s.F ts=true) (hd:Nat.blt d n=true) (k:(g=true->p.wf)->Hd P n N H0 Q (.ops all rest) ks ⟨updp s.F d (.gv g p),s.L⟩):Hd P n N H0 Q (.ops all (⟨some d,op,ty,pos,af,some (j,want)⟩::rest)) ks s:=λF H L ha=>by
 obtain⟨c,b,hy,hge⟩:=Kh_ ha hg
 refine ow_gd hy hd (λe=>?_) (λe=>?_)
 . have hgt:=hge.trans e
   obtain⟨val,h1,h2⟩:=h hgt F H L (La_ ha hc hno hgt)
   refine E9_ hd h2 (k (λ_=>h1.sim.wf) _ _ _ (ha.put d ?_))
   rw[hgt];exact Sim.gvt h1.sim
 . exact zT
end Go.SW
namespace Go.SW.V
open Go.SW
variable {P:Program} {n:Nat} {N:Rest} {H0:Env} {ks:List Kt} {fF:Nat->PV} {fL:Nat->Blk} {tb:Tb} {rs:List ResultVar} {res p q r t u:PV} {as0 bs:List Nat}
end Go.SW.V
namespace Go.SW.V
open Go.SW
def Af_ (l:List C_):List C_->Bool
 |[]=>(decide ((l.length:Int)<=80))
 | x::t=>(bif decide (1200<((x.chunk).length:Int)) then
 false
 else Af_ l t)
def Ci_ (l:List C_):Bool:=
 Af_ l l
def rch (D:Int->Int->Bool):Nat->Int->Int->Bool
 |0,a,b=>decide (a=b)||D a b
 |k+1,a,b=>rch D k a b||(rch D k a k&&rch D k k b)
theorem Js_ (D:Int->Int->Bool) (a:Int):∀ k,rch D k a a=true
 |0=>by simp[rch]
 |k+1=>by simp[rch,Js_ D a k]
theorem Nk_ (D:Int->Int->Bool) (a b:Int) (h:D a b=true):∀ k,rch D k a b=true
 |0=>by simp[rch,h]
 |k+1=>by simp[rch,Nk_ D a b h k]
theorem K1_ (D:Int->Int->Bool):∀ (k:Nat) (j:Nat),j<k->∀ a b,rch D k a j=true->rch D k j b=true->rch D k a b=true
 |0,j,h=>by omega
 |k+1,j,h=>by
   intro a b h1 h2
   have ih:=K1_ D k
   by_cases e:j=k
   . subst e
     simp only[rch,Bool.or_eq_true,Bool.and_eq_true] at h1 h2 ⊢
     have h1':rch D j a j=true:=by
       rcases h1 with h|h
       . exact h
       . exact h.1
     have h2':rch D j j b=true:=by
       rcases h2 with h|h
       . exact h
       . exact h.2
     exact .inr ⟨h1',h2'⟩
   . have hj:j<k:=by omega
     simp only[rch,Bool.or_eq_true,Bool.and_eq_true] at h1 h2 ⊢
     rcases h1 with h1|⟨h1,h1'⟩<;>rcases h2 with h2|⟨h2,h2'⟩
     . exact .inl (ih j hj a b h1 h2)
     . exact .inr ⟨ih j hj a k h1 h2,h2'⟩
     . exact .inr ⟨h1,ih j hj k b h1' h2⟩
     . exact .inr ⟨h1,h2'⟩
theorem Rh_ (D:Int->Int->Bool) (P:Int->Prop) (n:Nat) (hc:∀ a b:Int,P a->0<=b->b<n->D a b=true->P b):∀ (k:Nat),k<=n->∀ a b:Int,0<=b->b<n->P a->rch D k a b=true->P b
 |0,_,a,b,h0,h1,ha,h=>by
   simp only[rch,Bool.or_eq_true,decide_eq_true_eq] at h
   rcases h with h|h
   . exact h ▸ ha
   . exact hc a b ha h0 h1 h
 |k+1,hk,a,b,h0,h1,ha,h=>by
   simp only[rch,Bool.or_eq_true,Bool.and_eq_true] at h
   have ih:=Rh_ D P n hc k xN
   rcases h with h|⟨h,h'⟩
   . exact ih a b h0 h1 ha h
   . exact ih k b h0 h1 (ih a k xN xN ha h) h'
def Cg_ (D:Int->Int->Bool) (n:Nat) (a b:Int):Bool:=(decide (0<=a) && decide (a<n))&&((decide (0<=b) && decide (b<n))&&rch D n a b)
theorem Ig_ {D:Int->Int->Bool} {n:Nat} {a b c:Int} (h:rch D n a b=true) (hb:0<=b) (hb':b<n) (hd:D b c=true):rch D n a c=true:=by
 have :=K1_ D n b.toNat xN a c (by rw[Int.toNat_of_nonneg hb];exact h) (by rw[Int.toNat_of_nonneg hb];exact Nk_ D b c hd n);exact this
theorem Jl_:∀ (n:Nat) (l:List Int),l.Nodup->(∀ x∈l,0<=x/\x<n)->l.length<=n
 |0,l,_,h=>by
   cases l with
   |nil=>simp
   |cons x t=>have :=h x xP;omega
 |n+1,l,hn,h=>by
   have hl:(l.filter (λx=>decide (x≠(n:Int)))).length<=n:=Jl_ n _ (hn.filter _) (λx hx=>by
     have :=List.mem_filter.1 hx
     have h1:=h x this.1
     have h2:x≠(n:Int):=by simpa using this.2
     omega)
   have h2:l.length<=(l.filter (λx=>decide (x≠(n:Int)))).length+1:=by
     clear hl h
     induction l with
     |nil=>simp
     |cons x t ih=>
       have hn':=List.nodup_cons.1 hn
       by_cases e:x=(n:Int)
       . have :t.filter (λx=>decide (x≠(n:Int)))=t:=by
           rw[List.filter_eq_self]
           intro y hy
           have :y≠(n:Int):=λhyn=>hn'.1 (by rw[e,<- hyn];exact hy)
           exact xF
         rw[List.filter_cons];simp only[e];rw[if_neg xP];rw[this];simp
       . have :=ih hn'.2
         rw[List.filter_cons,if_pos (by simpa using e)]
         exact yX
   omega
theorem Ql_ (n:Nat) (l:List Int) (hn:l.Nodup) (h:∀ x∈l,0<=x/\x<n) (hl:l.length=n) (k:Int) (h0:0<=k) (h1:k<n):k∈l:=by
 apply Classical.byContradiction
 intro hk
 have :=Jl_ n (k::l) (List.nodup_cons.2 ⟨hk,hn⟩) (λx hx=>by
   rcases List.mem_cons.1 hx with e|e
   . subst e;exact⟨h0,h1⟩
   . exact h x e)
 simp only[List.length_cons] at this;omega
def cntB (x:A16 Bool):Nat->Nat
 |0=>0
 |n+1=>cntB x n+(bif x.get n then 0 else 1)
theorem O1_ {x y:A16 Bool}:∀ n,(∀ j,j<n->x.get j=true->y.get j=true)->cntB y n<=cntB x n
 |0,_=>Nat.le_refl _
 |n+1,h=>by
   have ih:=O1_ (x:=x) (y:=y) n (λj hj=>h j xN)
   have :=h n xN
   simp only[cntB]
   cases hx:x.get n<;>cases hy:y.get n
   . simp only[cond_false];omega
   . simp only[cond_false,cond_true];omega
   . rw[this hx] at hy;cases hy
   . simp only[cond_true];omega
theorem O2_ {x y:A16 Bool}:∀ n,(∀ j,j<n->x.get j=true->y.get j=true)->(∃ j,j<n/\x.get j=false/\y.get j=true)->cntB y n<cntB x n
 |0,_,⟨j,hj,_⟩=>by omega
 |n+1,h,⟨j,hj,h1,h2⟩=>by
   have hn:=h n xN
   simp only[cntB]
   by_cases e:j=n
   . subst e
     have :=O1_ (x:=x) (y:=y) j (λq hq=>h q xN)
     rw[h1,h2];simp only[cond_true,cond_false];omega
   . have ih:=O2_ (x:=x) (y:=y) n (λq hq=>h q xN) ⟨j,by omega,h1,h2⟩
     cases hx:x.get n<;>cases hy:y.get n
     . simp only[cond_false];omega
     . simp only[cond_false,cond_true];omega
     . rw[hn hx] at hy;cases hy
     . simp only[cond_true];omega
structure RO (D:Int->Int->Bool) (n:Nat) (a:Int) (x:A16 Bool) (m:Bool):Prop where
 fr:a.toNat<n
 hd:x.get a.toNat=true
 ok:∀ j:Nat,j<n->x.get j=true->rch D n a j=true
 cl:m=false->∀ j k:Nat,j<n->k<n->x.get j=true->D j k=true->x.get k=true
structure RI (D:Int->Int->Bool) (n:Nat) (a:Int) (x0 x:A16 Bool) (m:Bool) (i k:Nat):Prop where
 fr:a.toNat<n
 hd:x.get a.toNat=true
 ok:∀ j:Nat,j<n->x.get j=true->rch D n a j=true
 le:cntB x n<=cntB x0 n
 lt:m=true->cntB x n<cntB x0 n
 cl:m=false->∀ j k:Nat,j<i->k<n->x.get j=true->D j k=true->x.get k=true
 cu:m=false->∀ q:Nat,q<k->x.get i=true->D i q=true->x.get q=true
variable {D:Int->Int->Bool} {n:Nat} {a:Int} {x0 x:A16 Bool} {m:Bool} {i k:Nat}
theorem RO.start (z:A16 Bool) (hz:∀ j,j<16->z.get j=false) (h0:0<=a) (h1:a<n) (hn:n<=16):RO D n a (z.set true a.toNat) true:=by
 refine⟨by omega,?_,?_,λh=>by cases h⟩
 rw[A16.get_set _ _ _ _ xN xN];simp;intro j hj h;rw[A16.get_set _ _ _ _ xN xN] at h;by_cases e:j=a.toNat;have :a=(j:Int):=by omega
 rw[this];exact Js_ D _ n
 . rw[if_neg e,hz j xN] at h;cases h
theorem RO.into (h:RO D n a x m):RI D n a x x false 0 0:=⟨h.fr,h.hd,h.ok,Nat.le_refl _,λq=>(nomatch q),λ_ j k hj=>absurd hj (Nat.not_lt_zero _),λ_ q hq=>absurd hq (Nat.not_lt_zero _)⟩
theorem RI.skip (h:RI D n a x0 x m i k) (q:((x.get i&&!(x.get k))&&D i k)=false):RI D n a x0 x m i (k+1):=
 ⟨h.fr,h.hd,h.ok,h.le,h.lt,h.cl,λhm j hj hi hd=>by
   by_cases e:j=k
   . subst e
     cases hg:x.get j with
     |true=>rfl
     |false=>rw[hi,hg,hd] at q;cases q
   . exact h.cu hm j xN hi hd⟩
theorem RI.put (h:RI D n a x0 x m i k) (hn:n<=16) (hi:i<n) (hk:k<n) (q:((x.get i&&!(x.get k))&&D i k)=true):RI D n a x0 (x.set true k) true i (k+1):=by
 simp only[Bool.and_eq_true,Bool.not_eq_true'] at q;have hg:∀ j,j<n->x.get j=true->(x.set true k).get j=true:=λj hj h=>by
   rw[A16.get_set _ _ _ _ xN xN]
   split
   . rfl
   . exact h
 have hlt:cntB (x.set true k) n<cntB x n:=O2_ n hg ⟨k,hk,q.1.2,by rw[A16.get_set _ _ _ _ xN xN];simp⟩;refine⟨h.fr,?_,?_,by have :=h.le;omega,λ_=>by have :=h.le;omega,λe=>(nomatch e),λe=>(nomatch e)⟩;by_cases e:a.toNat=k;rw[e,A16.get_set _ _ _ _ xN xN];simp;have hf:=h.fr;rw[A16.get_set _ _ _ _ xN xN,if_neg e];exact h.hd;intro j hj hg;rw[A16.get_set _ _ _ _ xN xN] at hg;by_cases e:j=k;subst e;exact Ig_ (h.ok i hi q.1.1) xN xN q.2;rw[if_neg e] at hg;exact h.ok j hj hg
theorem RI.row (h:RI D n a x0 x m i k) (hk:n<=k):RI D n a x0 x m (i+1) 0:=
 ⟨h.fr,h.hd,h.ok,h.le,h.lt,λhm j q hj hq hg hd=>by
   by_cases e:j=i
   . subst e;exact h.cu hm q xN hg hd
   . exact h.cl hm j q xN hq hg hd,λ_ q hq=>by omega⟩
theorem RI.over (h:RI D n a x0 x m i k) (hi:n<=i):RO D n a x m:=⟨h.fr,h.hd,h.ok,λhm j q hj hq hg hd=>h.cl hm j q xN hq hg hd⟩
theorem RI.mu {f:Nat} (h:RI D n a x0 x m i k) (hf:cntB x0 n+(bif true then 1 else 0)<f+1):cntB x n+(bif m then 1 else 0)<f:=by
 have h1:=h.le;have h2:=h.lt
 cases m with
 |true=>have :=h2 Y;simp only[cond_true] at hf ⊢;omega
 |false=>simp only[cond_true,cond_false] at hf ⊢;omega
theorem RO.fin {b:Int} (h:RO D n a x m) (hm:m=false) (h0:(((decide (a<0) || decide ((n:Int)<=a)) || decide (b<0)) || decide ((n:Int)<=b))=false):PV.bool (x.get b.toNat)=PV.bool (Cg_ D n a b):=by
 subst hm;simp only[Bool.or_eq_false_iff,decide_eq_false_iff_not] at h0;have e:x.get b.toNat=Cg_ D n a b:=by
   rw[Bool.eq_iff_iff]
   simp only[Cg_,Bool.and_eq_true,decide_eq_true_eq]
   have eb:((b.toNat:Nat):Int)=b:=by omega
   constructor
   . intro hm
     have :=h.ok b.toNat xN hm
     rw[eb] at this
     exact⟨by omega,by omega,this⟩
   . rintro⟨_,⟨hb0,hb1⟩,hr⟩
     exact Rh_ D (λz=>0<=z/\z<n/\x.get z.toNat=true) n (λu v hu hv0 hv1 hd=>by
       refine⟨hv0,hv1,h.cl Y u.toNat v.toNat xN xN hu.2.2 ?_⟩
       rw[show ((u.toNat:Nat):Int)=u by omega,show ((v.toNat:Nat):Int)=v by omega];exact hd) n (Nat.le_refl n) a b hb0 hb1 ⟨by omega,by omega,h.hd⟩ hr |>.2.2
 rw[e]
end Go.SW.V
namespace Go.SW.V
open Go.SW
variable {P:Program} {n:Nat} {N:Rest} {H0:Env} {all rest:List Oper} {Q:Qs} {ks:List Kt} {fF:Nat->PV} {fL:Nat->Blk} {T ty d:Nat} {pos:String} {af:Array Edge} {x y z:Operand} {K:St->Prop}
structure EfR where
 F:Nat->PV
 L:Nat->Blk
 eq:Option (Nat×Nat)
def mkE (tb:Tb) (n:Nat) (i b:Nat) (F:Nat->PV) (L:Nat->Blk) (o:Oper):Option EfR:=
 match o.guard with
 |some _=>none
 |none=>match o.dst with
   |none=>none
   |some d=>match Nat.blt d n with
     |false=>none
     |true=>match o.op with
       | .alloc T=>match lkT tb T with
         |some ti=>match evL ti.zero with
           |some zs=>match A6_ zs with
             |true=>some ⟨updp F d (.own i b 0),lups L i (.box b T zs),none⟩
             |false=>none
           |none=>none
         |none=>none
       | .box T x=>match evP F x with
         | .agg cs=>match A6_ cs with
           |true=>some ⟨updp F d (.own i b 0),lups L i (.box b T cs),none⟩
           |false=>none
         |v=>match evS v with
           |some p=>match p.one with
             |true=>some ⟨updp F d (.own i b 0),lups L i (.box b T [p]),none⟩
             |false=>none
           |none=>none
       |_=>none
def stE (tb:Tb) (F:Nat->PV) (L:Nat->Blk) (o:Oper):Option EfR:=
 match o.guard with
 |some _=>none
 |none=>match o.dst with
   |some _=>none
   |none=>match o.op with
     | .store T x y=>match evP F x with
       | .own i b off=>match L i with
         | .box b' T0 cs=>match lkT tb T with
           |some ti=>match evP F y with
             | .agg ps=>match A6_ ps with
               |true=>match all1 ps with
                 |true=>match Nat.beq ps.length ti.size with
                   |true=>match Nat.ble (off+ti.size) cs.length with
                     |true=>match evL (cs.take off++(ps++cs.drop (off+ti.size))) with
                       |some cs'=>some ⟨F,lups L i (.box b T0 cs'),some (b',b)⟩
                       |none=>none
                     |false=>none
                   |false=>none
                 |false=>none
               |false=>none
             |v=>match Nat.beq ti.size 1 with
               |true=>match evS v with
                 |some p=>match p.one with
                   |true=>match Nat.blt off cs.length with
                     |true=>match evL (cs.set off p) with
                       |some cs'=>some ⟨F,lups L i (.box b T0 cs'),some (b',b)⟩
                       |none=>none
                     |false=>none
                   |false=>none
                 |none=>none
               |false=>none
           |none=>none
         |_=>none
       |_=>none
     |_=>none
def kindE (o:Op):Nat:=
 match o with
 | .alloc _=>0
 | .box _ _=>0
 | .store _ _ _=>1
 |_=>2
def runE (tb:Tb) (n:Nat):Nat->List Nat->(Nat->Nat)->Cf->List Kt->(Nat->PV)->(Nat->Blk)->List Prop->List Nat->List Nat->Option RR
 |0,_,_,c,ks,F,L,ps,as0,bs=>frcP ps λps=>frcN as0 λas0=>frcN bs λbs=>some ⟨c,ks,F,L,ps,as0,bs⟩
 |k+1,is,B,c,ks,F,L,ps,as0,bs=>
   match c with
   | .ops all (o::rest)=>match kindE o.op with
     |0=>match is with
       |[]=>none
       |i::is=>match mkE tb n i (B 0) F L o with
         |some ⟨F,L,_⟩=>runE tb n k is (λi=>B (i+1)) (.ops all rest) ks F L ps as0 bs
         |none=>none
     |1=>match stE tb F L o with
       |some ⟨F,L,e⟩=>match e with
         |some (a,b)=>runE tb n k is B (.ops all rest) ks F L ps (a::as0) (b::bs)
         |none=>none
       |none=>none
     |_=>match run tb n 1 (.ops all (o::rest)) ks F L ps as0 bs with
       |some ⟨c,ks,F,L,ps,as0,bs⟩=>runE tb n k is B c ks F L ps as0 bs
       |none=>none
   |c=>match run tb n 1 c ks F L ps as0 bs with
     |some ⟨c,ks,F,L,ps,as0,bs⟩=>runE tb n k is B c ks F L ps as0 bs
     |none=>none
theorem mkE_ok {tb:Tb} (ht:tbB P tb=true) {i:Nat} {F:Nat->PV} {L:Nat->Blk} {o:Oper} (h:∀ b,∃ r,mkE tb n i b F L o=some r/\Hd P n N H0 Q (.ops all rest) ks ⟨r.F,r.L⟩):Hd P n N H0 Q (.ops all (o::rest)) ks ⟨F,L⟩:=by
 obtain⟨dst,op,ty,pos,af,g⟩:=o;have h0:=h 0
 cases g with
 |some q=>obtain⟨r,h1,_⟩:=h0;simp[mkE] at h1
 |none=>
   cases dst with
   |none=>obtain⟨r,h1,_⟩:=h0;simp[mkE] at h1
   |some d=>
     cases hd:Nat.blt d n with
     |false=>obtain⟨r,h1,_⟩:=h0;simp[mkE,hd] at h1
     |true=>
       cases op with
       |alloc T=>
         simp only[mkE,hd] at h
         cases hti:lkT tb T with
         |none=>rw[hti] at h;obtain⟨r,h1,_⟩:=h 0;simp at h1
         |some ti=>
           rw[hti] at h
           simp only at h
           cases hz:evL ti.zero with
           |none=>rw[hz] at h;obtain⟨r,h1,_⟩:=h 0;simp at h1
           |some zs=>
             rw[hz] at h
             simp only at h
             cases hn:A6_ zs with
             |false=>rw[hn] at h;obtain⟨r,h1,_⟩:=h 0;simp at h1
             |true=>
               rw[hn] at h
               refine ef (alloc ht i hti hz hn hd λb=>?_)
               obtain⟨r,h1,h2⟩:=h b
               simp only[Option.some.injEq] at h1
               subst h1;exact h2
       |box T x=>
         simp only[mkE,hd] at h
         split at h
         . rename_i cs hx
           cases hn:A6_ cs with
           |false=>rw[hn] at h;obtain⟨r,h1,_⟩:=h 0;simp at h1
           |true=>
             rw[hn] at h
             refine ef (boxA i hx hn hd λb=>?_)
             obtain⟨r,h1,h2⟩:=h b
             simp only[Option.some.injEq] at h1
             subst h1;exact h2
         . cases hs:evS (evP F x) with
           |none=>rw[hs] at h;obtain⟨r,h1,_⟩:=h 0;simp at h1
           |some p=>
             rw[hs] at h
             simp only at h
             cases ho:p.one with
             |false=>rw[ho] at h;obtain⟨r,h1,_⟩:=h 0;simp at h1
             |true=>
               rw[ho] at h
               refine ef (box1 i hs ho hd λb=>?_)
               obtain⟨r,h1,h2⟩:=h b
               simp only[Option.some.injEq] at h1
               subst h1;exact h2
       |_=>obtain⟨r,h1,_⟩:=h0;simp[mkE,hd] at h1
theorem stE_ok {tb:Tb} (ht:tbB P tb=true) {F:Nat->PV} {L:Nat->Blk} {o:Oper} {r:EfR} (h:stE tb F L o=some r) (he:∀ q,r.eq=some q->q.1=q.2) (k:Hd P n N H0 Q (.ops all rest) ks ⟨r.F,r.L⟩):Hd P n N H0 Q (.ops all (o::rest)) ks ⟨F,L⟩:=by
 obtain⟨dst,op,ty,pos,af,g⟩:=o
 cases g with
 |some q=>simp[stE] at h
 |none=>
   cases dst with
   |some d=>simp[stE] at h
   |none=>
     cases op with
     |store T x y=>
       simp only[stE] at h
       split at h
       . rename_i i b off hx
         split at h
         . rename_i b' T0 cs hb
           split at h
           . rename_i ti hti
             split at h
             . rename_i ps hy
               split at h
               . rename_i hn
                 split at h
                 . rename_i ho
                   split at h
                   . rename_i hsz
                     split at h
                     . rename_i hl
                       split at h
                       . rename_i cs' hc
                         simp only[Option.some.injEq] at h
                         subst h
                         exact ef (storeA ht hx hb hti hy hn ho (Nat.eq_of_beq_eq_true hsz) hl (he _ Y) hc k)
                       . cases h
                     . cases h
                   . cases h
                 . cases h
               . cases h
             . split at h
               . rename_i hsz
                 split at h
                 . rename_i p hs
                   split at h
                   . rename_i ho
                     split at h
                     . rename_i hl
                       split at h
                       . rename_i cs' hc
                         simp only[Option.some.injEq] at h
                         subst h
                         exact ef (store1 ht hx hb hti (Nat.eq_of_beq_eq_true hsz) hs ho hl (he _ Y) hc k)
                       . cases h
                     . cases h
                   . cases h
                 . cases h
               . cases h
           . cases h
         . cases h
       . cases h
     |_=>simp[stE] at h
def okR (P:Program) (n:Nat) (N:Rest) (H0:Env) (Q:Qs) (r:RR):Prop:=AllP r.ps/\r.as0=r.bs/\Hd P n N H0 Q r.c r.ks ⟨r.F,r.L⟩
theorem L1_ {tb:Tb} (ht:tbB P tb=true):∀ (k:Nat) (is:List Nat) (c:Cf) (ks:List Kt) (F:Nat->PV) (L:Nat->Blk) (ps:List Prop) (as0 bs:List Nat),(∀ B:Nat->Nat,∃ r,runE tb n k is B c ks F L ps as0 bs=some r/\okR P n N H0 Q r)->AllP ps/\as0=bs/\Hd P n N H0 Q c ks ⟨F,L⟩:=by
 intro k
 induction k with
 |zero=>
   intro is c ks F L ps as0 bs h
   obtain⟨r,h1,h2,h3,h4⟩:=h (λ_=>0)
   simp only[runE,Ha_,Ja_,Option.some.injEq] at h1
   subst h1
   exact⟨h2,h3,h4⟩
 |succ k ih=>
   intro is c ks F L ps as0 bs h
   have one:(∀ B:Nat->Nat,∃ r,(match run tb n 1 c ks F L ps as0 bs with
       |some ⟨c,ks,F,L,ps,as0,bs⟩=>runE tb n k is B c ks F L ps as0 bs
       |none=>none)=some r/\okR P n N H0 Q r)->AllP ps/\as0=bs/\Hd P n N H0 Q c ks ⟨F,L⟩:=by
     intro h
     cases hr:run tb n 1 c ks F L ps as0 bs with
     |none=>obtain⟨r,h1,_⟩:=h (λ_=>0);rw[hr] at h1;cases h1
     |some q=>
       obtain⟨c',ks',F',L',ps',as',bs'⟩:=q
       obtain⟨i1,i2,i3⟩:=ih is c' ks' F' L' ps' as' bs' (λB=>by obtain⟨r,h1,h2⟩:=h B;rw[hr] at h1;exact⟨r,h1,h2⟩)
       obtain⟨j1,j2,j3⟩:=Rp_ ht (Q:=Q) (N:=N) (H0:=H0) 1 c ks F L ps as0 bs _ hr i1 i2
       exact⟨j1,j2,j3 i3⟩
   cases c with
   |code c=>exact one h
   |ex e=>exact one h
   |ops all l=>
     cases l with
     |nil=>exact one h
     |cons o rest=>
       simp only[runE] at h
       split at h
       . cases is with
         |nil=>obtain⟨r,h1,_⟩:=h (λ_=>0);cases h1
         |cons i is=>
           have hb:∀ b,∃ r,mkE tb n i b F L o=some r/\AllP ps/\as0=bs/\Hd P n N H0 Q (.ops all rest) ks ⟨r.F,r.L⟩:=by
             intro b
             cases hm:mkE tb n i b F L o with
             |none=>obtain⟨r,h1,_⟩:=h (λ_=>b);simp only[hm] at h1;cases h1
             |some q=>
               obtain⟨F',L',e⟩:=q
               refine⟨_,rfl,ih is (.ops all rest) ks F' L' ps as0 bs λB=>?_⟩
               obtain⟨r,h1,h2⟩:=h (λj=>match j with|0=>b|j+1=>B j)
               simp only[hm] at h1
               exact⟨r,h1,h2⟩
           obtain⟨_,_,q1,q2,_⟩:=hb 0
           exact⟨q1,q2,mkE_ok ht λb=>by obtain⟨r,h1,_,_,h2⟩:=hb b;exact⟨r,h1,h2⟩⟩
       . cases hs:stE tb F L o with
         |none=>obtain⟨r,h1,_⟩:=h (λ_=>0);rw[hs] at h1;cases h1
         |some q=>
           obtain⟨F',L',e⟩:=q
           cases e with
           |none=>obtain⟨r,h1,_⟩:=h (λ_=>0);rw[hs] at h1;cases h1
           |some ab=>
             obtain⟨a,b⟩:=ab
             obtain⟨i1,i2,i3⟩:=ih is (.ops all rest) ks F' L' ps (a::as0) (b::bs) (λB=>by obtain⟨r,h1,h2⟩:=h B;rw[hs] at h1;exact⟨r,h1,h2⟩)
             simp only[List.cons.injEq] at i2
             exact⟨i1,i2.2,stE_ok ht hs (λq hq=>by cases hq;exact i2.1) i3⟩
       . exact one h
theorem gmp {tb:Tb} (ht:tbB P tb=true) (k:Nat) (is:List Nat) {c c':Cf} {ks':List Kt} {F':(Nat->Nat)->Nat->PV} {L':(Nat->Nat)->Nat->Blk} {ps:(Nat->Nat)->List Prop} {as0 bs:(Nat->Nat)->List Nat} (h:∀ B,runE tb n k is B c ks fF fL [] [] []=some ⟨c',ks',F' B,L' B,ps B,as0 B,bs B⟩) (he:∀ B,as0 B=bs B) (hp:∀ B,AllP (ps B)) (next :∀ B:Nat->Nat,Hd P n N H0 Q c' ks' ⟨F' B,L' B⟩):Hd P n N H0 Q c ks ⟨fF,fL⟩:=
 (L1_ ht k is c ks fF fL [] [] [] λB=>⟨_,h B,hp B,he B,next B⟩).2.2
theorem gx {tb:Tb} (ht:tbB P tb=true) (k:Nat) {c c':Cf} {ks':List Kt} {F':Nat->PV} {L':Nat->Blk} {as0 bs:List Nat} (next :Hd P n N H0 Q c' ks' ⟨F',L'⟩) (h:run tb n k c ks fF fL [] [] []=some ⟨c',ks',F',L',[],as0,bs⟩:=by exact Y) (he:as0=bs:=by exact Y):Hd P n N H0 Q c ks ⟨fF,fL⟩:=go ht k h he Z next
theorem gm {tb:Tb} (ht:tbB P tb=true) (k:Nat) (is:List Nat) {c c':Cf} {ks':List Kt} {F':(Nat->Nat)->Nat->PV} {L':(Nat->Nat)->Nat->Blk} {as0 bs:(Nat->Nat)->List Nat} (next :∀ B:Nat->Nat,Hd P n N H0 Q c' ks' ⟨F' B,L' B⟩) (h:∀ B,runE tb n k is B c ks fF fL [] [] []=some ⟨c',ks',F' B,L' B,[],as0 B,bs B⟩:=by exact λ_=>rfl) (he:∀ B,as0 B=bs B:=by exact λ_=>rfl):Hd P n N H0 Q c ks ⟨fF,fL⟩:=gmp ht k is h he (λ_=>trivial) next
abbrev jIn (xs:List Nat) (j:Option Nat):Bool:=match j with|none=>true|some j=>memB xs j
theorem eC {f:FuncId} {args:List PV} {res:PV} {as0:Array Operand} {ats:Array TypeId} (h:Fn P H0.g f args res) (ha:argsP fF x as0.toList=some (f,args)) (k:res.wf->K ⟨updp fF d res,fL⟩) (hd:Nat.blt d n=true:=by exact Y):E1 P n N H0 all ⟨some d, .call ⟨.value x,as0,ats⟩,ty,pos,af,none⟩ none ⟨fF,fL⟩ K:=ecall h ha hd k
theorem vE {xs:List Nat} {fuel:Nat} {listed:Array Bool} {o:Oper} {j:Option Nat} (i:Nat) (hi:nth all i=some o) (h:E1 P n N H0 all o j ⟨fF,fL⟩ (λs'=>Hv P n N H0 Q (some xs) all fuel (listed.setIfInBounds i true) ks s')) (hr:Region.ready .any all.toArray listed=[i]:=by kernel_rfl) (hj:jIn xs j=true:=by exact Y):Hv P n N H0 Q (some xs) all (fuel+1) listed ks ⟨fF,fL⟩:=ve i hi hr hj h
theorem vD {xs:Option (List Nat)} {fuel:Nat} {listed:Array Bool} (k:Hd P n N H0 Q (.ex .normal) ks ⟨fF,fL⟩) (h:Region.ready .any all.toArray listed=[]:=by kernel_rfl):Hv P n N H0 Q xs all fuel listed ks ⟨fF,fL⟩:=vdone h k
theorem aN (xs:List Nat) (m:Nat) {id:Nat} {ops:Array Oper} (hmx:P.follows .mixedOrders=true) (h:Hv P n N H0 Q (some xs) ops.toList m (Array.replicate m false) ks ⟨fF,fL⟩) (hm:ops.toList.length=m:=by exact Y):Hd P n N H0 Q (.code (.region id ops true)) ks ⟨fF,fL⟩:=any xs m hmx hm h
theorem gX {tb:Tb} (ht:tbB P tb=true) (order:List Nat) (f:Nat) {xs:Option (List Nat)} {fuel:Nat} {listed:Array Bool} {F':Nat->PV} {L':Nat->Blk} {as0 bs:List Nat} (next :Hv P n N H0 Q xs all f (lst listed order) ks ⟨F',L'⟩) (hf:fuel=f+order.length:=by exact Y) (hc:chkV n all order listed=true:=by kernel_rfl) (h:runV tb xs all order fF fL [] [] []=some ⟨F',L',[],as0,bs⟩:=by exact Y) (he:as0=bs:=by exact Y):Hv P n N H0 Q xs all fuel listed ks ⟨fF,fL⟩:=gov ht order f hf hc h he Z next
theorem vC {xs:Option (List Nat)} {fuel:Nat} {listed:Array Bool} {f:FuncId} {args:List PV} {res:PV} {as0:Array Operand} {ats:Array TypeId} (i:Nat) (hi:nth all i=some ⟨some d, .call ⟨.value x,as0,ats⟩,ty,pos,af,none⟩) (h:Fn P H0.g f args res) (ha:argsP fF x as0.toList=some (f,args)) (k:res.wf->Hv P n N H0 Q xs all fuel (listed.setIfInBounds i true) ks ⟨updp fF d res,fL⟩) (hck:(rdB all listed i&&apB n all listed i ⟨some d, .call ⟨.value x,as0,ats⟩,ty,pos,af,none⟩&&Nat.blt d n&&nosB (.call ⟨.value x,as0,ats⟩))=true:=by kernel_rfl) (hf:res.flat=true:=by exact Y):Hv P n N H0 Q xs all (fuel+1) listed ks ⟨fF,fL⟩:=vcall i hi hck h hf ha k
theorem nX {ι:Type _} {keep kL:List Nat} {G:Nat->PV} {GL:Nat->Blk} {lv:ι->List (Nat×PV)} {lL:ι->List (Nat×Blk)} {Φ:ι->Prop} {μ:ι->Nat} {m:Nat} {ks:List Kt} {Q:Qs} (x':ι) (hΦ:Φ x') (h3:AllF fF (lv x')) (h4:AllL fL (lL x')) (h1:keep.map fF=keep.map G:=by exact Y) (h2:kL.map fL=kL.map GL:=by exact Y) (hm:μ x'<m:=by decide):Hd P n N H0 Q (.ex .normal) (.lp (LJ (λx=>⟨mkF (lv x) keep G,mkL (lL x) kL GL⟩) Φ μ m)::ks) ⟨fF,fL⟩:=next x' h1 h2 h3 h4 hm hΦ
theorem cE {α:Type} {v a b:α} {c:Operand} {p q:Code} {t:Bool} (e:v = bif t then a else b) (ht:t=true->v=a->Hd P n N H0 Q (.code p) ks ⟨fF,fL⟩) (hf:t=false->v=b->Hd P n N H0 Q (.code q) ks ⟨fF,fL⟩) (hc:evP fF c = .bool t:=by exact Y):Hd P n N H0 Q (.code (.cond c p q)) ks ⟨fF,fL⟩:=cnd hc (λh=>ht h (e.trans (by rw[h];rfl))) (λh=>hf h (e.trans (by rw[h];rfl)))
theorem cD {α:Type} {v a b:α} {c:Operand} {p q:Code} {t:Prop} [Decidable t] (e:v = bif decide t then a else b) (ht:t->v=a->Hd P n N H0 Q (.code p) ks ⟨fF,fL⟩) (hf:¬t->v=b->Hd P n N H0 Q (.code q) ks ⟨fF,fL⟩) (hc:evP fF c = .bool (decide t):=by exact Y):Hd P n N H0 Q (.code (.cond c p q)) ks ⟨fF,fL⟩:=cE e (λh=>ht (of_decide_eq_true h)) (λh=>hf (of_decide_eq_false h)) hc
theorem cN {α:Type} {v a b:α} {c:Operand} {p q:Code} {t:Prop} [Decidable t] (e:v = bif !decide t then a else b) (ht:¬t->v=a->Hd P n N H0 Q (.code p) ks ⟨fF,fL⟩) (hf:t->v=b->Hd P n N H0 Q (.code q) ks ⟨fF,fL⟩) (hc:evP fF c = .bool (!decide t):=by exact Y):Hd P n N H0 Q (.code (.cond c p q)) ks ⟨fF,fL⟩:=cE e (λh=>ht wI) (λh=>hf wI) hc
theorem fC {tb:Tb} {G:Gb} {m:Nat} {f:FuncId} {fn:Func} {c:Code} {args:List PV} {res:PV} (hf:P.funcs[f]? = some fn) (ht:tbB P tb=true) (hn:fn.ntmps=m) (h:PV.wfs args->∀ N H,G.p H->Hd P m N ⟨H,G⟩ (rtK tb fn.results.toList res) (.code c) [] ⟨Py_ args,λ_=> .no⟩) (hb:fn.body=some c:=by exact Y) (hs:Nat.ble args.length m=true:=by exact Y) (h1:(fn.name == "runtime.NumGoroutine")=false:=by kernel_rfl) (h2:fn.body.isNone=false:=by kernel_rfl) (hno:res.noOsl=true:=by exact Y) (hna:A6_ args=true:=by exact Y):Fn P G f args res:=fn_cw ht hf hb hn hs (Cf_ hf h1 h2) hno hna h
variable {tb:Tb} {rs:List ResultVar} {as0 bs:List Nat} {res q0 q1 q2 q3:PV}
theorem qr1 (h:Jt_ tb ⟨fF,fL⟩ rs=some ([q0],as0,bs):=by exact Y) (he:as0=bs:=by exact Y) (hp:PLe q0 res:=by exact ple Y):Hd P n N H0 (rtK tb rs res) (.ex .ret) [] ⟨fF,fL⟩:=rt1 h he hp
theorem cV {α β:Type} {v:β} {g:α} {kf:α->β} {f:FuncId} {args:List PV} {xs:Array Operand} {ats:Array TypeId} (e:v=lt g kf) (enc:α->PV) (h:Fn P H0.g f args (enc g)) (ha:argsP fF x xs.toList=some (f,args)) (k:∀ r,r=g->v=kf r->(enc r).wf->Hd P n N H0 Q (.ops all rest) ks ⟨updp fF d (enc r),fL⟩) (hd:Nat.blt d n=true:=by exact Y):Hd P n N H0 Q (.ops all (⟨some d, .call ⟨.value x,xs,ats⟩,ty,pos,af,none⟩::rest)) ks ⟨fF,fL⟩:=
 callv g enc h ha hd λr hr w=>k r hr (e.trans (S4_ hr)) w
theorem gy {tb:Tb} (ht:tbB P tb=true) (k:Nat) {c c':Cf} {ks':List Kt} {F':Nat->PV} {L':Nat->Blk} {ps:List Prop} {as0 bs:List Nat} (next :Hd P n N H0 Q c' ks' ⟨F',L'⟩) (h:run tb n k c ks fF fL [] [] []=some ⟨c',ks',F',L',ps,as0,bs⟩:=by exact Y) (he:as0=bs:=by exact Y) (hp:AllP ps:=by repeat' (first|exact Z|refine And.intro ?_ ?_|exact λhc=>hc|exact Y|exact λhc=>rfl|omega|(intro hc;omega)|(intro hc;rw[hc];rfl))):Hd P n N H0 Q c ks ⟨fF,fL⟩:=go ht k h he hp next
theorem gmy {tb:Tb} (ht:tbB P tb=true) (k:Nat) (is:List Nat) {c c':Cf} {ks':List Kt} {F':(Nat->Nat)->Nat->PV} {L':(Nat->Nat)->Nat->Blk} {ps:(Nat->Nat)->List Prop} {as0 bs:(Nat->Nat)->List Nat} (next :∀ B:Nat->Nat,Hd P n N H0 Q c' ks' ⟨F' B,L' B⟩) (h:∀ B,runE tb n k is B c ks fF fL [] [] []=some ⟨c',ks',F' B,L' B,ps B,as0 B,bs B⟩:=by exact λ_=>rfl) (he:∀ B,as0 B=bs B:=by exact λ_=>rfl) (hp:∀ B,AllP (ps B):=by intro B;repeat' (first|exact Z|refine And.intro ?_ ?_|exact λhc=>hc|exact Y|exact λhc=>rfl|omega|(intro hc;omega)|(intro hc;rw[hc];rfl))):Hd P n N H0 Q c ks ⟨fF,fL⟩:=gmp ht k is h he hp next
theorem gXy {tb:Tb} (ht:tbB P tb=true) (order:List Nat) (f:Nat) {xs:Option (List Nat)} {fuel:Nat} {listed:Array Bool} {F':Nat->PV} {L':Nat->Blk} {ps:List Prop} {as0 bs:List Nat} (next :Hv P n N H0 Q xs all f (lst listed order) ks ⟨F',L'⟩) (hf:fuel=f+order.length:=by exact Y) (hc:chkV n all order listed=true:=by kernel_rfl) (h:runV tb xs all order fF fL [] [] []=some ⟨F',L',ps,as0,bs⟩:=by exact Y) (he:as0=bs:=by exact Y) (hp:AllP ps:=by repeat' (first|exact Z|refine And.intro ?_ ?_|exact λhc=>hc|exact Y|exact λhc=>rfl|omega|(intro hc;omega)|(intro hc;rw[hc];rfl))):Hv P n N H0 Q xs all fuel listed ks ⟨fF,fL⟩:=gov ht order f hf hc h he hp next
end Go.SW.V
namespace Go.SW.V
open Go.SW
variable {P:Program} {n:Nat} {N:Rest} {H0:Env} {Q:Qs} {ks:List Kt} {fF:Nat->PV} {fL:Nat->Blk}
end Go.SW.V
namespace Go.SW
variable {P:Program} {n:Nat} {N:Rest} {H0:Env} {all rest:List Oper} {Q:Qs} {ks:List Kt} {s:St} {T ty d:Nat} {pos:String} {af:Array Edge} {x:Operand} {K:St->Prop}
end Go.SW
namespace Go.SW.V
open Go.SW
variable {P:Program} {n:Nat} {N:Rest} {H0:Env} {all rest:List Oper} {Q:Qs} {ks:List Kt} {fF:Nat->PV} {fL:Nat->Blk} {T ty d:Nat} {pos:String} {af:Array Edge} {x:Operand} {K:St->Prop}
end Go.SW.V
namespace Go.SW
variable {P:Program} {n:Nat} {N:Rest} {H0:Env} {all rest:List Oper} {Q:Qs} {ks:List Kt} {T ty d:Nat} {pos:String} {af:Array Edge} {x:Operand} {K:St->Prop}
def two (L M:Ls) (i j:Nat):Ls:=λq=>if q=i then M 0 else if q=j then M 1 else L q
end Go.SW
namespace Go.SW.V
open Go.SW
variable {P:Program} {n:Nat} {N:Rest} {H0:Env} {all rest:List Oper} {Q:Qs} {ks:List Kt} {fF:Nat->PV} {fL:Nat->Blk} {T ty d:Nat} {pos:String} {af:Array Edge} {x:Operand} {K:St->Prop}
end Go.SW.V
namespace Go.SW.V
open Go.SW
end Go.SW.V
namespace Go.SW
def GPow (H:Hp) (g:Nat):Prop:=∃ T fr,H g=some (.cells (Go.Lib.pow10Tab.map (Value.int .u64)).toArray T fr)
theorem GPow.mono {H H':Hp} {g:Nat} (h:GPow H g) (hl:HLe H H'):GPow H' g:=by
 exact zU
end Go.SW
namespace Go.SW
open Go.RowKit
def cuts (p:UInt8):Bs->List Bs
 |[]=>[[]]
 |c::r=>if c=p then []::cuts p r else match cuts p r with
   |[]=>[[c]]
   |w::t=>(c::w)::t
theorem Hy_ (p:UInt8):∀ s:Bs,Lib.splitK [p] 0 (Lib.count s [p]) s=cuts p s
 |[]=>by rw[Lib.count_miss (by simp[Lib.index])];rfl
 |b::l=>by
   have ih:=Hy_ p l
   by_cases hb:b=p
   . subst hb
     rw[Lib.count_cons_eq,Nat.add_comm]
     have hix:Lib.index (b::l) [b]=0:=by rw[Lib.index];simp[List.isPrefixOf]
     unfold Lib.splitK cuts
     rw[hix]
     simp[ih]
   . rw[Lib.count_cons_ne _ _ _ hb]
     have hp:([p]:List UInt8).isPrefixOf (b::l)=false:=by simp[List.isPrefixOf,Ne.symm hb]
     have hix:Lib.index (b::l) [p] = if Lib.index l [p] == -1 then -1 else Lib.index l [p]+1:=by rw[Lib.index,hp];simp
     unfold cuts
     rw[if_neg hb,<- ih]
     cases hc:Lib.count l [p] with
     |zero=>rfl
     |succ k=>
       unfold Lib.splitK
       rw[hix]
       by_cases hm:Lib.index l [p] = -1
       . rw[Lib.count_miss hm] at hc;cases hc
       . have hge:=Lib.index_ge l [p]
         obtain⟨j,hj⟩:∃ j:Nat,Lib.index l [p]=j:=⟨(Lib.index l [p]).toNat,by omega⟩
         exact yP
theorem Hw_ (p:UInt8) (s:Bs):(Lib.splitB ⟨#[p]⟩ 0 (Lib.countB ⟨s.toArray⟩ ⟨#[p]⟩) ⟨s.toArray⟩).map Value.string=(cuts p s).map str:=by
 have h:=Lib.splitB_data ⟨#[p]⟩ 0 (Lib.countB ⟨s.toArray⟩ ⟨#[p]⟩) ⟨s.toArray⟩;have hc:Lib.countB ⟨s.toArray⟩ ⟨#[p]⟩=Lib.count s [p]:=by simp[Lib.countB]
 rw[hc] at h ⊢;have e:=Hy_ p s;exact yU
theorem L4_ (p:UInt8) (s:Bs):Lib.countB ⟨s.toArray⟩ ⟨#[p]⟩+1=(cuts p s).length:=by
 have h:=congrArg List.length (Hw_ p s);rw[List.length_map,List.length_map,Lib.splitB_all ⟨#[p]⟩ (by simp[ByteArray.size]) 0 _ _ rfl] at h;exact h
theorem Fs_ (p:UInt8):∀ (s w:Bs),w∈cuts p s->w.length<=s.length
 |[],w,h=>by simp[cuts] at h;simp[h]
 |c::r,w,h=>by
   unfold cuts at h
   split at h
   . rcases List.mem_cons.1 h with rfl|h
     . simp
     . have :=Fs_ p r w h;simp;omega
   . split at h
     . simp at h;subst h;simp
     . rename_i x t e
       have ih:=Fs_ p r
       rw[e] at ih
       rcases List.mem_cons.1 h with rfl|h
       . have :=ih x xP;simp;omega
       . have :=ih w (by simp[h]);simp;omega
theorem Mem.addH {N:Rest} {H:Hp} {L:Ls} {w w':World} (h:Mem N H L w) (hb:Below w.heap.size w w') {g:Nat} {o:Obj} (hg:w.heap.size<=g) (ho:w'.heap[g]? = some o):Mem N (hadd H g o) L w'/\HLe H (hadd H g o):=by
 have hs:∀ (b:Nat) o',w.heap[b]? = some o'->b<w.heap.size:=λb o' x=>by
   by_cases q:b<w.heap.size
   . exact q
   . exact yK
 have hk:∀ (b:Nat) o',w.heap[b]? = some o'->w'.heap[b]? = some o':=λb o' x=>by rw[hb.block b (hs b o' x)];exact x
 have hH:H g=none:=by
   cases q:H g with
   |none=>rfl
   |some o1=>have :=hs _ _ (h.h _ _ q);omega
 refine⟨⟨hb.os.trans h.os,hb.tape.trans h.tape,hb.output.trans h.output,λb o' x=>hk _ _ (h.n b o' x),λb o' x=>?_,λi b o' x=>hk _ _ (h.l i b o' x),λb o' x=>?_,λi b o' x=>⟨(h.nl i b o' x).1,?_⟩,h.ll⟩,Jd_ hH⟩;by_cases e:b=g;subst e;simp[hadd] at x;subst x;exact ho;simp[hadd,e] at x;exact hk _ _ (h.h b o' x);have :=hs b o' (h.n b o' x);have e:b≠g:=by omega
 simp[hadd,e];exact h.nh b o' x;have :=hs b o' (h.l i b o' x);have e:b≠g:=by omega
 simp[hadd,e];exact (h.nl i b o' x).2
theorem ph_rowB {P:Program} {f:FuncId} {args:Array Value} {H:Hp} {T:TypeId} {xs:List Bs} {ys:List Value} (hy:ys=xs.map str) (hx:∀ s∈xs,s.length<=9223372036854775807)
   (h:∀ N L w,Mem N H L w->Calls P f args w λe w'=>∃ A,e = .returned (.slice (some ⟨A,0,none⟩) ys.length ys.length)/\w.heap.size<=A/\w'.ownsRow w.heap.size T 1 (.slice (some ⟨A,0,none⟩) ys.length ys.length) ys.length ys/\Below w.heap.size w w') :
   Ph P f args H (λv H'=>∃ (a:Option Addr) (c:Nat),v = .slice a xs.length c/\SlH strE 1 H' (.slice a xs.length c) xs):=by
 subst hy;intro N L w hm;refine (h N L w hm).mono λe w' ⟨A,he,hA,hr,hb⟩=>?_;simp only[List.length_map] at he hr
 rcases hr.2 with ⟨h0,_⟩|⟨g,cap,cur,hv,hg,ho,hn,_,hc,ht⟩
 . cases h0
 . cases hv
   obtain⟨hm',hl⟩:=hm.addH hb hA ho
   have hcur:cur=(xs.map str).toArray:=by
     apply Array.ext'
     rw[<- ht]
     have :cur.toList.length=xs.length*1:=by simpa using hc
     rw[List.take_of_length_le xN]
   refine⟨_,_,he,⟨_,_,rfl,⟨_,_,rfl,Nat.le_refl _⟩,λm hmm=>⟨[str xs[m]],⟨rfl,hx _ (List.getElem_mem hmm)⟩,A,0,xs.length,xs.length,cur,T,(0,0),rfl,?_,rfl,λj hj=>?_⟩⟩,hl,hm'⟩
   simp[hadd]
   obtain rfl :j=0:=by simpa using hj
   subst hcur
   simp[hmm]
def flds (s:Bs):List Bs:=(Lib.goFieldsP (λx=>decide ((x:Int)=32)) ⟨s.toArray⟩).map λb=>b.data.toList
theorem Sp_ (s:Bs):(Lib.goFieldsP (λx=>decide ((x:Int)=32)) ⟨s.toArray⟩).map Value.string=(flds s).map str:=by
 unfold flds;rw[List.map_map]
 congr 1
theorem N0_ (s w:Bs) (h:w∈flds s):w.length<=s.length:=by
 simp only[flds,Lib.goFieldsP,List.map_map,List.mem_map,Function.comp] at h;obtain⟨x,_,rfl⟩:=h;simp only[Array.length_toList];show ((⟨s.toArray⟩:ByteArray).extract x.1 x.2).size<=s.length;rw[ByteArray.size_extract];have :(⟨s.toArray⟩:ByteArray).size=s.length:=by simp[ByteArray.size]
 omega
def dec (s:Bs):Nat:=match Lib.parseUintB 64 s with| .ok n=>n|_=>0
def Fc_ (s:Bs):Bool:=s.all λc=>decide (48<=c.toNat) && decide (c.toNat<=57)
theorem pu_ok:∀ (s:Bs) (a k:Nat),a<10 ^ k->k+s.length<=19->Fc_ s=true->∃ n,Lib.parseUintM 18446744073709551615 a s = .ok n/\n<10 ^ 19
 |[],a,k,ha,hk,_=>⟨a,rfl,Nat.lt_of_lt_of_le ha (Nat.pow_le_pow_right xQ (by simpa using hk))⟩
 |c::r,a,k,ha,hk,hd=>by
   simp only[Fc_,List.all_cons,Bool.and_eq_true,decide_eq_true_eq,List.length_cons] at hd hk
   have h18:10 ^ k<=10 ^ 18:=Nat.pow_le_pow_right xQ xN
   have h19:a*10+(c.toNat-48)<10 ^ (k+1):=by rw[Nat.pow_succ];omega
   have e18:(10:Nat) ^ 18=1000000000000000000:=by decide
   unfold Lib.parseUintM
   rw[if_pos hd.1,if_neg xN,if_neg xN]
   exact pu_ok r _ (k+1) h19 xN hd.2
theorem dec_ok {s:Bs} (hl:s.length<=19) (h0:0<s.length) (hd:Fc_ s=true):Lib.parseUintB 64 s = .ok (dec s)/\(dec s:Int)<=18446744073709551615:=by
 obtain⟨n,h,hn⟩:=pu_ok s 0 0 xQ wE hd;have h:Lib.parseUintB 64 s = .ok n:=by
   unfold Lib.parseUintB
   rw[if_neg (by intro q;subst q;cases h0)]
   exact h
 have e19:(10:Nat) ^ 19=10000000000000000000:=by decide
 have e:dec s=n:=by unfold dec;rw[h]
 rw[e];exact⟨h,by omega⟩
theorem Mem.below {N:Rest} {H:Hp} {L:Ls} {w w':World} (hm:Mem N H L w) (hb:Below w.heap.size w w'):Mem N H L w':=
 hm.of_same hb.os hb.tape hb.output λc o ho=>by
   exact yO
variable {P:Program}
end Go.SW
namespace Go.SW
end Go.SW
namespace Go.SW
open Go.MapKept
variable {P:Program} {n:Nat} {N:Rest} {ops:List Oper} {F:Fr} {H:Hp} {L:Ls} {K:Fr->Hp->Ls->Prop} {T ty d:Nat} {pos:String} {af:Array Edge} {x y z:Operand} {κ ν:Type}
theorem Qy_ (i:Nat) (hd:Nat.blt d n=true) (k:∀ b,K (upd F d (.map (some b))) H (lupd L i (some (b, .map #[] 0)))):Op1 P n N ops ⟨some d, .makeMap T none,ty,pos,af,none⟩ K F H L:=by
 intro a w ha hm;rw[if_pos xR];unfold Oper.wp;have :(execOp a.eval ⟨some d, .makeMap T none,ty,pos,af,none⟩).run P w = .ok (.value (.map (some w.heap.size))) {w with heap:=w.heap.push (.map #[] 0)}:=by
   rw[ha.eval]
   simp[execOp,Instr.makeMap,Result.andThen]
 exact yR
end Go.SW
namespace Go.SW.V
open Go.SW
variable {P:Program} {n:Nat} {N:Rest} {H0:Env} {all rest:List Oper} {Q:Qs} {ks:List Kt} {fF:Nat->PV} {fL:Nat->Blk} {T ty d:Nat} {pos:String} {af:Array Edge} {x y z:Operand} {K:St->Prop} {κ ν:Type}
end Go.SW.V
namespace Go.SW
variable {P:Program} {n:Nat} {N:Rest} {H0:Env} {all rest:List Oper} {Q:Qs} {ks:List Kt} {s:St} {T T' T2 ty d:Nat} {pos:String} {af:Array Edge} {x y z:Operand} {K:St->Prop} {op:Op} {p:PV}
end Go.SW
namespace Go.SW.V
open Go.SW
variable {P:Program} {n:Nat} {N:Rest} {H0:Env} {all rest:List Oper} {Q:Qs} {ks:List Kt} {fF:Nat->PV} {fL:Nat->Blk} {T T' T2 ty d:Nat} {pos:String} {af:Array Edge} {x y z:Operand} {K:St->Prop} {op:Op} {p:PV}
end Go.SW.V
namespace Go.SW
variable {P:Program} {n:Nat} {N:Rest} {H0:Env}
end Go.SW
namespace Go.SW.V
open Go.SW
variable {P:Program} {n:Nat} {N:Rest} {H0:Env} {fF:Nat->PV} {fL:Nat->Blk}
end Go.SW.V
namespace Go.SW
variable {P:Program}
end Go.SW
namespace Go.SW
variable {P:Program} {n:Nat} {N:Rest} {H0:Env}
end Go.SW
namespace Go.SW.V
open Go.SW
variable {P:Program} {n:Nat} {N:Rest} {H0:Env} {fF:Nat->PV} {fL:Nat->Blk}
end Go.SW.V
