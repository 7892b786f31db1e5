/-
  A part of the proof of PurgeOrder: Runs of quiet steps: one computation, proved once. Over any program that the table fits; it asks what it
-/
import Derived.Test.YtlemlalknchmcaaGreatDoorPurgeOrderP1
import Derived.Lib.SplitLaws
import Derived.Lib.IndexAny
import Derived.ProofKit
import Derived.OpenShut
import Derived.Deep.Slices
import Derived.Carry
import Derived.Lib.LaidTab
import Derived.SizedLaws
import Derived.ChangeKeysEq
import Derived.Below
import Derived.Laws.AppendOwn
import Derived.Lib.FieldsP
import Derived.Lib.ParseIntB
import Derived.Lib.SmallJoins
import Derived.MapKept
set_option linter.unusedVariables false
set_option linter.unusedSimpArgs false
set_option maxRecDepth 100000
set_option maxHeartbeats 4000000
namespace Go.SW
variable {P:Program} {n:Nat} {N:Rest} {H0:Env}
def frc0 {α:Type _} (v:PV) (c:PV->α):α:=
 match v with
 | .int k z=>c (.int k z)
 | .bool b=>c (.bool b)
 | .str s=>c (.str s)
 | .agg cs=>c (.agg cs)
 | .sl e x=>c (.sl e x)
 | .own i b o=>c (.own i b o)
 | .osl i=>c (.osl i)
 | .el r o=>c (.el r o)
 | .fn f a b=>c (.fn f a b)
 | .tup vs=>c (.tup vs)
 | .gv g v=>c (.gv g v)
 | .val v=>c (.val v)
 | .usl v=>c (.usl v)
 | .junk=>c .junk
theorem Ks_ {α:Type _} (v:PV) (c:PV->α):frc0 v c=c v:=by cases v<;>rfl
def frcL {α:Type _}:List PV->(List PV->α)->α
 |[],c=>c []
 |p::r,c=>frc0 p λp=>frcL r λr=>c (p::r)
theorem Is_ {α:Type _}:∀ (l:List PV) (c:List PV->α),frcL l c=c l
 |[],c=>rfl
 |p::r,c=>by simp only[frcL,Ks_,Is_ r]
def frc {α:Type _} (v:PV) (c:PV->α):α:=
 match v with
 | .agg cs=>frcL cs λcs=>c (.agg cs)
 | .gv g v=>match v with
   | .agg cs=>frcL cs λcs=>c (.gv g (.agg cs))
   |v=>frc0 v λv=>c (.gv g v)
 |v=>frc0 v c
theorem H5_ {α:Type _} (v:PV) (c:PV->α):frc v c=c v:=by
 unfold frc;split<;>first|(simp only[Is_];done)|(split<;>simp only[Is_,Ks_];done)|simp only[Ks_]
def frcP {α:Type _}:List Prop->(List Prop->α)->α
 |[],c=>c []
 |p::r,c=>frcP r λr=>c (p::r)
theorem Gu_ {α:Type _}:∀ (l:List Prop) (c:List Prop->α),frcP l c=c l
 |[],c=>rfl
 |p::r,c=>by simp only[frcP,Gu_ r]
def frcN {α:Type _}:List Nat->(List Nat->α)->α
 |[],c=>c []
 |p::r,c=>frcN r λr=>c (p::r)
theorem It_ {α:Type _}:∀ (l:List Nat) (c:List Nat->α),frcN l c=c l
 |[],c=>rfl
 |p::r,c=>by simp only[frcN,It_ r]
inductive Cf where
 |code (c:Code)
 |ops (all rest:List Oper)
 |ex (e:Exit)
def Cf.holds (P:Program) (n:Nat) (N:Rest) (H0:Env) (Q:Qs):Cf->St->Prop
 | .code c,s=>Sw P n N H0 c Q s
 | .ops all rest,s=>So P n N H0 all rest Q s
 | .ex e,s=>Q e s
def Hd (P:Program) (n:Nat) (N:Rest) (H0:Env) (Q:Qs) (c:Cf) (ks:List Kt) (s:St):Prop:=Cf.holds P n N H0 (Kt.den P n N H0 ks Q) c s
structure RR where
 c:Cf
 ks:List Kt
 F:Nat->PV
 L:Nat->Blk
 ps:List Prop
 as0:List Nat
 bs:List Nat
def apP:List Prop->List Prop->List Prop
 |[],k=>k
 |p::r,k=>p::apP r k
theorem Ea_:∀ {ps qs:List Prop},AllP (apP ps qs)->AllP ps/\AllP qs
 |[],_,h=>⟨trivial,h⟩
 |_::_,_,h=>⟨⟨h.1,(Ea_ h.2).1⟩,(Ea_ h.2).2⟩
theorem N1_:∀ (l:List Prop),apP l []=l
 |[]=>rfl
 |p::r=>by simp only[apP,N1_ r]
def addP {α:Type _} (ps qs:List Prop) (c:List Prop->α):α:=
 match qs with
 |[]=>c ps
 |q::r=>frcP (apP ps (q::r)) c
theorem Ii_ {α:Type _} (ps qs:List Prop) (c:List Prop->α):addP ps qs c=c (apP ps qs):=by
 unfold addP;split;rw[N1_];rw[Gu_]
def vOp (tb:Tb) (s:St) (all:List Oper) (o:Oper):Option PR:=
 match o.guard with
 |none=>pop tb s.L s.F o.op
 |some (j,want)=>match nth all j with
   |some oj=>match oj.dst with
     |some dj=>match gC (s.F dj) want with
       |some g=>match C1_ s.F (tsOf o.op) with
         |true=>pG1 tb s.L s.F o.op g
         |false=>none
       |none=>none
     |none=>none
   |none=>none
def run (tb:Tb) (n:Nat):Nat->Cf->List Kt->(Nat->PV)->(Nat->Blk)->List Prop->List Nat->List Nat->Option RR
 |0,c,ks,F,L,ps,as0,bs=>frcP ps λps=>frcN as0 λas0=>frcN bs λbs=>some ⟨c,ks,F,L,ps,as0,bs⟩
 |k+1,c,ks,F,L,ps,as0,bs=>
   match c with
   | .code c=>match c with
     | .seq a b=>run tb n k (.code a) (.seq b::ks) F L ps as0 bs
     | .skip=>run tb n k (.ex .normal) ks F L ps as0 bs
     | .label _=>run tb n k (.ex .normal) ks F L ps as0 bs
     | .block id b=>run tb n k (.code b) (.blk id::ks) F L ps as0 bs
     | .scope b=>run tb n k (.code b) (.sc::ks) F L ps as0 bs
     | .exit i=>run tb n k (.ex (.exit i)) ks F L ps as0 bs
     | .ret=>run tb n k (.ex .ret) ks F L ps as0 bs
     | .region _ ops draw=>match draw with
       |false=>run tb n k (.ops ops.toList ops.toList) ks F L ps as0 bs
       |true=>none
     | .cond c a b=>match evP F c with
       | .bool p=>match p with
         |true=>run tb n k (.code a) ks F L ps as0 bs
         |false=>run tb n k (.code b) ks F L ps as0 bs
       |_=>none
     |_=>none
   | .ops all rest=>match rest with
     |[]=>run tb n k (.ex .normal) ks F L ps as0 bs
     |o::rest=>match o.dst with
       |some d=>match Nat.blt d n with
         |true=>match vOp tb ⟨F,L⟩ all o with
           |some ⟨v0,ps0,lk0⟩=>match lk0 with
             |none=>addP ps ps0 λps=>frc v0 λv=>run tb n k (.ops all rest) ks (updp F d v) L ps as0 bs
             |some (_,a,b)=>addP ps ps0 λps=>frc v0 λv=>run tb n k (.ops all rest) ks (updp F d v) L ps (a::as0) (b::bs)
           |none=>none
         |false=>none
       |none=>none
   | .ex e=>match ks with
     |[]=>none
     | .seq y::ks=>match e with
       | .normal=>run tb n k (.code y) ks F L ps as0 bs
       |e=>run tb n k (.ex e) ks F L ps as0 bs
     | .blk id::ks=>match e with
       | .exit i=>match Nat.beq i id with
         |true=>run tb n k (.ex .normal) ks F L ps as0 bs
         |false=>run tb n k (.ex (.exit i)) ks F L ps as0 bs
       |e=>run tb n k (.ex e) ks F L ps as0 bs
     | .sc::ks=>match e with
       | .goto _=>none
       |e=>run tb n k (.ex e) ks F L ps as0 bs
     | .lp _::ks=>match e with
       | .normal=>none
       |e=>run tb n k (.ex e) ks F L ps as0 bs
theorem Jw_ {c b want:Bool}:(c&&(b==want))=(c&&gOf b want):=by cases b<;>cases want<;>rfl
theorem gqn {F:Fr} {H:Hp} {L:Ls} {ops rest:List Oper} {op:Op} {ty d j:Nat} {pos:String} {af:Array Edge} {Q:Qt} {want c b:Bool} {v:Value} (hy:yF ops F j=some (gv c (.bool b))) (hd:Nat.blt d n=true) (h:(c&&gOf b want)=true->Lo P N op ty F H L v)
   (k:Ow P n N ops rest Q (upd F d (gv (c&&gOf b want) v)) H L):Ow P n N ops (⟨some d,op,ty,pos,af,some (j,want)⟩::rest) Q F H L:=
 gq (c:=c) (b:=b) (v:=v) hy hd (λe=>h (Jw_ ▸ e)) (Jw_ (c:=c) (b:=b) (want:=want) ▸ k)
theorem S0_ {ops:List Oper} {F:Fr} {j d:Nat} {o:Oper} (h:nth ops j=some o) (hd:o.dst=some d):yF ops F j=some (F d):=by
 rw[Cn_] at h;simp[yF,h,hd]
theorem gC_ok {p:PV} {v:Value} {H:Hp} {want g:Bool} (hg:gC p want=some g) (h:Sim H p v):∃ c b,v=gv c (.bool b)/\g=(c&&gOf b want):=by
 unfold gC at hg
 split at hg
 . cases hg;exact⟨true,_,h.inv_bool,by simp⟩
 . rename_i c q
   split at hg
   . rename_i b
     cases hg
     rcases h.inv_gv with ⟨rfl,h1⟩|⟨rfl,h1⟩
     exact⟨true,b,h1.inv_bool,rfl⟩
     exact⟨false,b,h1,rfl⟩
   . cases hg
 . cases hg
theorem so_v {tb:Tb} {all rest:List Oper} {o:Oper} {d:Nat} {Q:Qs} {s:St} {r:PR} (ht:tbB P tb=true) (ho:o.dst=some d) (hd:Nat.blt d n=true) (h:vOp tb s all o=some r) (hp:AllP r.ps) (he:∀ x,r.lk=some x->x.2.1=x.2.2)
   (k:So P n N H0 all rest Q ⟨updp s.F d r.v,s.L⟩):So P n N H0 all (o::rest) Q s:=by
 obtain⟨d',op,ty,pos,af,g⟩:=o
 cases ho
 unfold vOp at h
 split at h
 . rename_i hg
   cases hg
   exact so_pop ht hd h hp he k
 . rename_i j want hg
   cases hg
   split at h
   . rename_i oj hj
     split at h
     . rename_i dj hdj
       split at h
       . rename_i g hgc
         split at h
         . rename_i hno
           unfold pG1 at h
           split at h
           . rename_i v0 ps0 lk0 hr0
             split at h
             . rename_i hnv
               cases h
               intro F H L ha
               obtain⟨c,b,hv,hge⟩:=gC_ok hgc (ha.f dj).sim
               have hy:yF all F j=some (gv c (.bool b)):=by rw[S0_ hj hdj,hv]
               obtain⟨hp1,hp2⟩:=Dd_ hp
               cases hgv:(c&&gOf b want) with
               |false=>
                 refine gqn (v:=undef) hy hd (λe=>by rw[hgv] at e;cases e) (k _ _ _ (ha.put d ?_))
                 rw[hge,hgv]
                 exact Sim.gvf
               |true=>
                 have hgt:g=true:=hge.trans hgv
                 obtain⟨val,h1,h2⟩:=Mo_ (N:=N) (ty:=ty) ht (Ho_ ha.f (λt ht c v e=>hp2 t ht c v e hgt) (C2_ hno)) ha.l hr0 (Gv_ hgt hp1) he
                 refine gqn (v:=val) hy hd (λ_=>h2 H L (.refl H) (λ_ _=>rfl)) (k _ _ _ (ha.put d ?_))
                 rw[hge,hgv]
                 exact Sim.gvt h1.sim
             . cases h
           . cases h
         . cases h
       . cases h
     . cases h
   . cases h
theorem den_seq {y:Code} {r:List Kt} {Q:Qs} {e:Exit} {s:St} (h:e = .normal->False) (x:Kt.den P n N H0 r Q e s):Kt.den P n N H0 (.seq y::r) Q e s:=by cases e<;>first|exact x|exact (h Y).elim
theorem den_lp {J:St->Prop} {r:List Kt} {Q:Qs} {e:Exit} {s:St} (h:e = .normal->False) (x:Kt.den P n N H0 r Q e s):Kt.den P n N H0 (.lp J::r) Q e s:=by cases e<;>first|exact x|exact (h Y).elim
theorem den_blk {id:Nat} {r:List Kt} {Q:Qs} {e:Exit} {s:St} (h:∀ i,e = .exit i->False) (x:Kt.den P n N H0 r Q e s):Kt.den P n N H0 (.blk id::r) Q e s:=by cases e<;>first|exact x|exact (h _ Y).elim
theorem den_sc {r:List Kt} {Q:Qs} {e:Exit} {s:St} (h:∀ i,e = .goto i->False) (x:Kt.den P n N H0 r Q e s):Kt.den P n N H0 (.sc::r) Q e s:=by cases e<;>first|exact x|exact (h _ Y).elim
theorem Qr_ {tb:Tb} (ht:tbB P tb=true) {Q:Qs}:∀ (k:Nat) (c:Cf) (ks:List Kt) (F:Nat->PV) (L:Nat->Blk) (ps:List Prop) (as0 bs:List Nat) (r:RR),run tb n k c ks F L ps as0 bs=some r->AllP r.ps->r.as0=r.bs->AllP ps/\as0=bs/\(Hd P n N H0 Q r.c r.ks ⟨r.F,r.L⟩->Hd P n N H0 Q c ks ⟨F,L⟩)
 |0,c,ks,F,L,ps,as0,bs,r,h,hp,he=>by
   simp only[run,Gu_,It_,Option.some.injEq] at h
   subst h
   exact⟨hp,he,id⟩
 |k+1,c,ks,F,L,ps,as0,bs,r,h,hp,he=>by
   have ih:=Qr_ ht (Q:=Q) k
   unfold run at h
   split at h
   . split at h
     . obtain⟨h1,h0,h2⟩:=ih _ _ _ _ _ _ _ _ h hp he;exact⟨h1,h0,λx=>sw_seq (h2 x)⟩
     . obtain⟨h1,h0,h2⟩:=ih _ _ _ _ _ _ _ _ h hp he;exact⟨h1,h0,λx=>sw_skip (h2 x)⟩
     . obtain⟨h1,h0,h2⟩:=ih _ _ _ _ _ _ _ _ h hp he;exact⟨h1,h0,λx=>Sv_ (h2 x)⟩
     . obtain⟨h1,h0,h2⟩:=ih _ _ _ _ _ _ _ _ h hp he;exact⟨h1,h0,λx=>Su_ (h2 x)⟩
     . obtain⟨h1,h0,h2⟩:=ih _ _ _ _ _ _ _ _ h hp he;exact⟨h1,h0,λx=>Sw_ (h2 x)⟩
     . obtain⟨h1,h0,h2⟩:=ih _ _ _ _ _ _ _ _ h hp he;exact⟨h1,h0,λx=>sw_exit (h2 x)⟩
     . obtain⟨h1,h0,h2⟩:=ih _ _ _ _ _ _ _ _ h hp he;exact⟨h1,h0,λx=>sw_ret (h2 x)⟩
     . split at h
       . obtain⟨h1,h0,h2⟩:=ih _ _ _ _ _ _ _ _ h hp he;exact⟨h1,h0,λx=>Qz_ (h2 x)⟩
       . cases h
     . split at h
       . rename_i hc
         split at h
         . obtain⟨h1,h0,h2⟩:=ih _ _ _ _ _ _ _ _ h hp he;exact⟨h1,h0,λx=>Lh_ hc (λ_=>h2 x) (λe=>by cases e)⟩
         . obtain⟨h1,h0,h2⟩:=ih _ _ _ _ _ _ _ _ h hp he;exact⟨h1,h0,λx=>Lh_ hc (λe=>by cases e) (λ_=>h2 x)⟩
       . cases h
     . cases h
   . split at h
     . obtain⟨h1,h0,h2⟩:=ih _ _ _ _ _ _ _ _ h hp he;exact⟨h1,h0,λx=>so_nil (h2 x)⟩
     . split at h
       . rename_i d hd
         split at h
         . rename_i hb
           split at h
           . rename_i v0 ps0 lk0 hq
             split at h
             . rw[Ii_,H5_] at h
               obtain⟨h1,h0,h2⟩:=ih _ _ _ _ _ _ _ _ h hp he
               obtain⟨h3,h4⟩:=Ea_ h1
               exact⟨h3,h0,λx=>so_v ht hd hb hq h4 (λy hy=>by cases hy) (h2 x)⟩
             . rename_i i a b
               rw[Ii_,H5_] at h
               obtain⟨h1,h0,h2⟩:=ih _ _ _ _ _ _ _ _ h hp he
               obtain⟨h3,h4⟩:=Ea_ h1
               simp only[List.cons.injEq] at h0
               exact⟨h3,h0.2,λx=>so_v ht hd hb hq h4 (λy hy=>by cases hy;exact h0.1) (h2 x)⟩
           . cases h
         . cases h
       . cases h
   . split at h
     . cases h
     . split at h
       . obtain⟨h1,h0,h2⟩:=ih _ _ _ _ _ _ _ _ h hp he;exact⟨h1,h0,λx=>h2 x⟩
       . rename_i e1 hne
         obtain⟨h1,h0,h2⟩:=ih _ _ _ _ _ _ _ _ h hp he
         exact⟨h1,h0,λx=>den_seq hne (h2 x)⟩
     . split at h
       . split at h
         . exact yB
         . exact yB
       . rename_i e1 hne
         obtain⟨h1,h0,h2⟩:=ih _ _ _ _ _ _ _ _ h hp he
         exact⟨h1,h0,λx=>den_blk hne (h2 x)⟩
     . split at h
       . cases h
       . rename_i e1 hne
         obtain⟨h1,h0,h2⟩:=ih _ _ _ _ _ _ _ _ h hp he
         exact⟨h1,h0,λx=>den_sc hne (h2 x)⟩
     . split at h
       . cases h
       . rename_i e1 hne
         obtain⟨h1,h0,h2⟩:=ih _ _ _ _ _ _ _ _ h hp he
         exact⟨h1,h0,λx=>den_lp hne (h2 x)⟩
theorem go {tb:Tb} (ht:tbB P tb=true) (k:Nat) {Q:Qs} {c c':Cf} {ks ks':List Kt} {F F':Nat->PV} {L L':Nat->Blk} {ps:List Prop} {as0 bs:List Nat} (h:run tb n k c ks F L [] [] []=some ⟨c',ks',F',L',ps,as0,bs⟩) (he:as0=bs) (hp:AllP ps) (next :Hd P n N H0 Q c' ks' ⟨F',L'⟩):Hd P n N H0 Q c ks ⟨F,L⟩:=
 (Qr_ ht k c ks F L [] [] [] _ h hp he).2.2 next
end Go.SW
namespace Go.SW
variable {P:Program} {n:Nat} {N:Rest} {H0:Env}
def PLe (p q:PV):Prop:=∀ H v,Sim H p v->Sim H q v
theorem ple {p q:PV} (h:p=q):PLe p q:=λ_ _ x=>h ▸ x
structure Fn (P:Program) (G:Gb) (f:FuncId) (args:List PV) (res:PV):Prop where
 cb:Aa_ P f
 no:res.noOsl=true
 run:∀ (N:Rest) (H:Hp) (L:Ls) (w:World) (vs:List Value),G.p H->Sims H args vs->Mem N H L w->Calls P f vs.toArray w λe w'=>∃ v H',e = .returned v/\Sim H' res v/\HLe H H'/\Mem N H' L w'
theorem Fn.ph {G:Gb} {f:FuncId} {args:List PV} {res:PV} {H:Hp} {vs:List Value} (h:Fn P G f args res) (hg:G.p H) (hs:Sims H args vs):Ph P f vs.toArray H (λv H'=>Sim H' res v):=λN L w hm=>
 (h.run N H L w vs hg hs hm).mono λ_ _ ⟨v,H',h1,h2,h3,h4⟩=>⟨v,H',h1,h2,h3,h4⟩
theorem Fn.pr {G:Gb} {f:FuncId} {args:List PV} {res:PV} {H:Hp} {vs:List Value} (h:Fn P G f args res) (hf:res.flat=true) (hg:G.p H) (hs:Sims H args vs) {v:Value} {H1:Hp} (hv:Sim H1 res v):Pr P f vs.toArray H v:=λN L w hm=>
 (h.run N H L w vs hg hs hm).mono λ_ _ ⟨v',H',h1,h2,h3,h4⟩=>⟨by rw[h1,Sim.uniq hf h2 hv],h4.le h3⟩
def Si_ (tb:Tb) (s:St):ResultVar->Option PR
 | .tmp t=>some (.q (s.F t))
 | .cell a T=>Se_ tb s.L T (s.F a)
def I9_ (tb:Tb) (s:St):List ResultVar->Option (List PV×List Nat×List Nat)
 |[]=>some ([],[],[])
 |r::rs=>match Si_ tb s r with
   |some x=>match I9_ tb s rs with
     |some (ps,as0,bs)=>frc x.v λv=>match x.lk with
       |none=>some (v::ps,as0,bs)
       |some (_,a,b)=>some (v::ps,a::as0,b::bs)
     |none=>none
   |none=>none
def tupP:List PV->PV
 |[p]=>p
 |ps=> .tup ps
theorem rv_1 {tb:Tb} {s:St} {F:Fr} {H:Hp} {L:Ls} {r:ResultVar} {x:PR} (ht:tbB P tb=true) (ha:Abs H0 s F H L) (h:Si_ tb s r=some x) (he:∀ y,x.lk=some y->y.2.1=y.2.2):∃ v,RV P N F H L r v/\Sim H x.v v:=by
 cases r with
 |tmp t=>simp only[Si_,Option.some.injEq] at h;subst h;exact⟨F t,rv_t Y,(ha.f t).sim⟩
 |cell a T=>
   simp only[Si_] at h
   obtain⟨v,h1,h2⟩:=Ug_ (P:=P) (N:=N) (ty:=0) (x:= .tmp a) ht ha.l (ha.f a) h he
   refine⟨v,λw tmps htm hm=>?_,h1.sim⟩
   have h3:=h2 H L (.refl H) (λ_ _=>rfl) none "" #[] none w hm
   simp only[rvS,htm a]
   simp only[execOp,ev,Instr.loadAt] at h3
   revert h3
   cases F a with
   |pointer q=>
     cases q with
     |some q=>
       simp[Instr.sureAddr,asAddr]
       intro h3
       cases hr:(loadVar T q).run P w with
       |ok x w'=>rw[hr] at h3;simp[Result.andThen] at h3;simp[h3]
       |halt x w'=>rw[hr] at h3;simp[Result.andThen] at h3
     |none=>intro h3;simp[Instr.sureAddr] at h3
   |_=>intro h3;simp[Instr.sureAddr] at h3
theorem Lb_ {tb:Tb} {s:St} {F:Fr} {H:Hp} {L:Ls} (ht:tbB P tb=true) (ha:Abs H0 s F H L):∀ (rs:List ResultVar) (ps:List PV) (as0 bs:List Nat),I9_ tb s rs=some (ps,as0,bs)->as0=bs ->
   ∃ vs:List Value,Sims H ps vs/\∀ (w:World) (tmps:Array Value),(∀ t,tmps.getD t undef=F t)->Mem N H L w->(rs.mapM (rvS tmps)).run P w = .ok vs w
 |[],ps,as0,bs,h,_=>by simp only[I9_,Option.some.injEq,Prod.mk.injEq] at h;obtain⟨rfl,_⟩:=h;exact⟨[],Sims.nil,λw tmps _ _=>by simp⟩
 |r::rs,ps,as0,bs,h,he=>by
   simp only[I9_] at h
   split at h
   . rename_i x hx
     split at h
     . rename_i ps' as' bs' hps
       rw[H5_] at h
       split at h
       . rename_i hlk
         simp only[Option.some.injEq,Prod.mk.injEq] at h
         obtain⟨rfl,rfl,rfl⟩:=h
         obtain⟨vs,h1,h2⟩:=Lb_ ht ha rs _ _ _ hps he
         obtain⟨v,h3,h4⟩:=rv_1 (N:=N) ht ha hx (λy hy=>by rw[hlk] at hy;cases hy)
         exact zJ
       . rename_i i a b hlk
         simp only[Option.some.injEq,Prod.mk.injEq] at h
         obtain⟨rfl,rfl,rfl⟩:=h
         simp only[List.cons.injEq] at he
         obtain⟨vs,h1,h2⟩:=Lb_ ht ha rs _ _ _ hps he.2
         obtain⟨v,h3,h4⟩:=rv_1 (N:=N) ht ha hx (λy hy=>by rw[hlk] at hy;cases hy;exact he.1)
         exact zJ
     . cases h
   . cases h
def rtK (tb:Tb) (rs:List ResultVar) (res:PV):Qs:=λe s=>(e = .normal\/e = .ret)/\∃ ps as0 bs,I9_ tb s rs=some (ps,as0,bs)/\as0=bs/\PLe (tupP ps) res
theorem rt {tb:Tb} {rs:List ResultVar} {res:PV} {s:St} {ps:List PV} {as0 bs:List Nat} (h:I9_ tb s rs=some (ps,as0,bs)) (he:as0=bs) (hp:PLe (tupP ps) res):Hd P n N H0 (rtK tb rs res) (.ex .ret) [] s:=⟨.inr Y,ps,as0,bs,h,he,hp⟩
theorem rtK_res {tb:Tb} {fn:Func} {res:PV} {s:St} {F:Fr} {H:Hp} {L:Ls} {e:Exit} (ht:tbB P tb=true) (ha:Abs H0 s F H L) (h:rtK tb fn.results.toList res e s):(e = .normal\/e = .ret)/\∃ v,Res P N fn F H L v/\Sim H res v:=by
 obtain⟨he,ps,as0,bs,h1,h2,h3⟩:=h;refine⟨he,?_⟩;obtain⟨vs,h4,h5⟩:=Lb_ (N:=N) ht ha _ _ _ _ h1 h2;have h6:∀ (w:World) (tmps:Array Value),(∀ t,tmps.getD t undef=F t)->Mem N H L w->(fn.results.mapM (rvS tmps)).run P w = .ok vs.toArray w:=λw tmps htm hm=>by
   rw[Array.mapM_eq_mapM_toList]
   simp[h5 w tmps htm hm]
 match ps,vs,h4,h6,h3 with
 |[p],[v],h4,h6,h3=>
   refine⟨v,λw tmps htm hm=>?_,h3 H v (h4.2 0 p v Y Y)⟩
   rw[Bt_,Sem.run_bind,h6 w tmps htm hm]
   simp
 |[],vs,h4,h6,h3=>
   cases h4.inv_nil
   refine⟨.tuple #[],λw tmps htm hm=>?_,h3 H _ (Sim.toTup (vs:=[]) Sims.nil)⟩
   rw[Bt_,Sem.run_bind,h6 w tmps htm hm]
   simp
 |p::q::r,vs,h4,h6,h3=>
   refine⟨.tuple vs.toArray,λw tmps htm hm=>?_,h3 H _ (Sim.toTup h4)⟩
   rw[Bt_,Sem.run_bind,h6 w tmps htm hm]
   have :vs.length≠1:=by rw[h4.1];simp
   simp[this]
 |[p],[],h4,_,_=>exact absurd h4.1 xK
 |[p],_::_::_,h4,_,_=>exact absurd h4.1 xK
def O4_ (args:List PV):Nat->PV:=λt=>match nth args t with
 |some p=>p
 |none=> .junk
def Ay_:List PV->Bool
 |[]=>true
 |p::r=>p.noOsl&&Ay_ r
theorem Fj_:∀ {ps:List PV} {i:Nat} {p:PV},Ay_ ps=true->ps[i]? = some p->p.noOsl=true
 |[],i,p,_,h=>by simp at h
 |q::r,0,p,h,hp=>by simp only[Ay_,Bool.and_eq_true] at h;simp at hp;rw[<- hp];exact h.1
 |q::r,i+1,p,h,hp=>by simp only[Ay_,Bool.and_eq_true] at h;exact Fj_ h.2 (by simpa using hp)
theorem Rv_ {sL:Nat->Blk} {H:Hp} {args:List PV} {vs:List Value} (hs:Sims H args vs) (hn:Ay_ args=true) (t:Nat):SimT sL H (O4_ args t) (Fz_ vs.toArray t):=by
 unfold O4_;rw[Cn_]
 cases h:args[t]? with
 |none=>exact Sim.junk
 |some p=>
   obtain⟨v,hv,hp⟩:=hs.get h
   refine Sim.simT ?_ (Fj_ hn h)
   simpa [Fz_,List.getD_eq_getElem?_getD,hv] using hp
theorem fn_cw {tb:Tb} {G:Gb} {m:Nat} {f:FuncId} {fn:Func} {c:Code} {args:List PV} {res:PV} (ht:tbB P tb=true) (hf:P.funcs[f]? = some fn) (hb:fn.body=some c) (hn:fn.ntmps=m) (hs:Nat.ble args.length m=true) (hcb:Aa_ P f) (hno:res.noOsl=true) (hna:Ay_ args=true)
   (h:PV.wfs args->∀ N H,G.p H->Hd P m N ⟨H,G⟩ (rtK tb fn.results.toList res) (.code c) [] ⟨O4_ args,λ_=> .no⟩):Fn P G f args res:=by
 refine⟨hcb,hno,λN H L w vs hg hsim hm=>?_⟩;subst hn;have key:Ph P f vs.toArray H (λv H'=>Sim H' res v):=by
   refine Sg_ hf hb (by have :=Nat.le_of_ble_eq_true hs;simp[hsim.1];exact this) λN=>?_
   have h1:=h hsim.wf N H hg (Fz_ vs.toArray) H l0 ⟨.refl H,hg,λt=>Rv_ hsim hna t,λi=>trivial⟩
   refine Fd_ (λe F' H' L' hq=>?_) h1
   obtain⟨s',ha',hq'⟩:=hq
   obtain⟨he,v,hr,hv⟩:=rtK_res (N:=N) ht ha' hq'
   rcases he with rfl|rfl
   . exact⟨v,hr,ha'.le,hv⟩
   . exact⟨v,hr,ha'.le,hv⟩
 exact (key N L w hm).mono λ_ _ ⟨v,H',h1,h2,h3,h4⟩=>⟨v,H',h1,h2,h3,h4⟩
theorem Tb_ {F:Fr} {x:Operand} {f:FuncId} {fs cap:List Value} {xs:Array Operand} {ats:Array TypeId} (hx:ev F x = .func (.func f) fs.toArray cap.toArray) (hc:Aa_ P f):En P (.call ⟨.value x,xs,ats⟩) F f (fs++evs F xs.toList++cap).toArray:=λty d pos af g w=>by
 have :=hc (fs++evs F xs.toList++cap).toArray w
 have e3:xs.map (ev F)=(evs F xs.toList).toArray:=by rw[<- Ff_];apply Array.ext';simp
 simp only[List.append_assoc] at this ⊢
 simp[execOp,resolve,Deferred.ofValue,hx,invoke,e3,this]
def argsP (G:Nat->PV) (x:Operand) (xs:List Operand):Option (FuncId×List PV):=
 match evP G x with
 | .fn f fs cap=>some (f,apL fs (apL (evPs G xs) cap))
 |_=>none
where apL:List PV->List PV->List PV
 |[],k=>k
 |p::r,k=>p::apL r k
theorem N0_:∀ (a b:List PV),argsP.apL a b=a++b
 |[],b=>rfl
 |p::r,b=>by simp[argsP.apL,N0_ r b]
theorem Gk_ {sL:Nat->Blk} {H:Hp} {F:Fr} {G:Nat->PV} {x:Operand} {xs:Array Operand} {ats:Array TypeId} {f:FuncId} {args:List PV} (hG:∀ t,SimT sL H (G t) (F t)) (h:argsP G x xs.toList=some (f,args)) (hc:Aa_ P f):∃ vs,Sims H args vs/\En P (.call ⟨.value x,xs,ats⟩) F f vs.toArray:=by
 unfold argsP at h
 split at h
 . rename_i f' fs cap he
   simp only[Option.some.injEq,Prod.mk.injEq] at h
   obtain⟨rfl,rfl⟩:=h
   have h1:=(A5_ hG x).sim
   rw[he] at h1
   obtain⟨vs,us,e,h2,h3⟩:=h1.inv_fn
   refine⟨vs++evs F xs.toList++us,?_,Tb_ e hc⟩
   rw[N0_,N0_,<- List.append_assoc]
   exact (h2.append (Gs_ λy _=>A5_ hG y)).append h3
 . cases h
theorem call {all rest:List Oper} {Q:Qs} {ks:List Kt} {s:St} {f:FuncId} {args:List PV} {res:PV} {x:Operand} {xs:Array Operand} {ats:Array TypeId} {ty d:Nat} {pos:String} {af:Array Edge} (h:Fn P H0.g f args res) (ha:argsP s.F x xs.toList=some (f,args)) (hd:Nat.blt d n=true)
   (k:res.wf->Hd P n N H0 Q (.ops all rest) ks ⟨updp s.F d res,s.L⟩):Hd P n N H0 Q (.ops all (⟨some d, .call ⟨.value x,xs,ats⟩,ty,pos,af,none⟩::rest)) ks s:=by
 intro F H L hab;obtain⟨vs,h1,h2⟩:=Gk_ (ats:=ats) hab.f ha h.cb;refine ow1 (Tx_ (h.ph hab.g h1) h2 hd λv H' hv hl=>?_);exact k hv.wf _ _ _ ((hab.mono hl).put d (hv.simT h.no))
def gOp (s:St) (all:List Oper) (j:Nat) (want:Bool):Option Bool:=
 match nth all j with
 |some oj=>match oj.dst with
   |some dj=>gC (s.F dj) want
   |none=>none
 |none=>none
theorem L3_ {s:St} {all:List Oper} {j:Nat} {want g:Bool} {F:Fr} {H:Hp} {L:Ls} (ha:Abs H0 s F H L) (h:gOp s all j want=some g):∃ c b,yF all F j=some (gv c (.bool b))/\g=(c&&gOf b want):=by
 unfold gOp at h
 split at h
 . rename_i oj hj
   split at h
   . rename_i dj hdj
     obtain⟨c,b,hv,hge⟩:=gC_ok h (ha.f dj).sim
     exact⟨c,b,by rw[S0_ hj hdj,hv],hge⟩
   . cases h
 . cases h
theorem ow_gd {F:Fr} {H:Hp} {L:Ls} {ops rest:List Oper} {op:Op} {ty j d:Nat} {pos:String} {af:Array Edge} {Q:Qt} {want c b:Bool} (hy:yF ops F j=some (gv c (.bool b))) (hd:Nat.blt d n=true)
   (ht:(c&&gOf b want)=true->Op1 P n N ops ⟨some d,op,ty,pos,af,none⟩ (λF H L=>Ow P n N ops rest Q F H L) F H L) (hf:(c&&gOf b want)=false->Ow P n N ops rest Q (upd F d undef) H L):Ow P n N ops (⟨some d,op,ty,pos,af,some (j,want)⟩::rest) Q F H L:=by
 cases c with
 |false=>
   refine ow1 λa w ha hm=>?_
   have :yielded ops.toArray a.tmps j=none:=Fy_ ha hy
   rw[if_neg (by simp[Region.wanted,this])]
   exact⟨_,_,_,ha.put xO undef,hm,hf Y⟩
 |true=>
   by_cases e:b=want
   . subst e
     exact ow1 (Mj_ hy Y (ht (by cases b<;>rfl)))
   . refine ow1 (P3_ hy (b:=b) ?_ hd (hf ?_))
     . cases b<;>cases want<;>simp_all
     . cases b<;>cases want<;>simp_all [gOf]
theorem callg {all rest:List Oper} {Q:Qs} {ks:List Kt} {s:St} {f:FuncId} {args:List PV} {res:PV} {x:Operand} {xs:Array Operand} {ats:Array TypeId} {ty d j:Nat} {want g:Bool} {pos:String} {af:Array Edge} (hg:gOp s all j want=some g) (h:g=true->Fn P H0.g f args res) (ha:argsP (strG (Ek_ xs.toList) s.F) x xs.toList=some (f,args)) (hc:AllP (Ey_ s.F g (Ek_ xs.toList) [])) (hno:C1_ s.F (Ek_ xs.toList)=true) (hd:Nat.blt d n=true)
   (k:(g=true->res.wf)->Hd P n N H0 Q (.ops all rest) ks ⟨updp s.F d (.gv g res),s.L⟩):Hd P n N H0 Q (.ops all (⟨some d, .call ⟨.value x,xs,ats⟩,ty,pos,af,some (j,want)⟩::rest)) ks s:=by
 intro F H L hab;obtain⟨c,b,hy,hge⟩:=L3_ hab hg;refine ow_gd hy hd (λe=>?_) (λe=>?_);have hgt:=hge.trans e;have hF:=h hgt;obtain⟨vs,h1,h2⟩:=Gk_ (ats:=ats) (Ho_ hab.f (λt ht c v e=>(Dd_ hc).2 t ht c v e hgt) (C2_ hno)) ha hF.cb;refine Tx_ (hF.ph hab.g h1) h2 hd λv H' hv hl=>?_;refine k (λ_=>hv.wf) _ _ _ ((hab.mono hl).put d ?_);rw[hgt];exact Sim.gvt hv;have hgf:=hge.trans e;refine k (λe=>by rw[hgf] at e;cases e) _ _ _ (hab.put d ?_)
 rw[hgf];exact Sim.gvf
end Go.SW
namespace Go.SW
variable {P:Program} {n:Nat} {N:Rest} {H0:Env}
theorem cnd {Q:Qs} {ks:List Kt} {s:St} {c:Operand} {x y:Code} {b:Bool} (hc:evP s.F c = .bool b) (ht:b=true->Hd P n N H0 Q (.code x) ks s) (hf:b=false->Hd P n N H0 Q (.code y) ks s):Hd P n N H0 Q (.code (.cond c x y)) ks s:=Lh_ hc ht hf
def Junk (s s':St):Prop:=(∀ t,s'.F t=s.F t\/s'.F t = .junk)/\∀ i,s'.L i=s.L i\/s'.L i = .no
theorem Junk.le {s s':St} (h:Junk s s'):StLe s s':=λH0 F H L ha=>by
 refine⟨ha.le,ha.g,λt=>?_,λi=>?_⟩
 . rcases h.1 t with e|e
   . rw[e]
     have h1:=ha.f t
     generalize s.F t=p at *
     cases p with
     |osl i=>
       simp only[SimT] at h1 ⊢
       rcases h.2 i with e2|e2
       . rw[e2];exact h1
       . rw[e2];trivial
     |_=>exact h1
   . rw[e];exact Sim.junk
 . rcases h.2 i with e|e
   . rw[e]
     have h1:=ha.l i
     generalize s.L i=B at *
     cases B with
     |box b T cs=>
       obtain⟨vs,h2,h3,h4⟩:=h1
       refine⟨vs,h2,h3,λj p v hp hv=>?_⟩
       have h5:=h4 j p v hp hv
       cases p with
       |osl q=>
         simp only[SimT] at h5 ⊢
         rcases h.2 q with e2|e2
         . rw[e2];exact h5
         . rw[e2];trivial
       |_=>exact h5
     |no=>trivial
     |arr u k e enc xs=>exact h1
     |itr b s p=>exact h1
     |ob b o=>exact h1
   . rw[e];trivial
def lkF:List (Nat×PV)->Nat->Option PV
 |[],_=>none
 |(a,x)::r,t=>bif Nat.beq t a then some x else lkF r t
def mkF (lv:List (Nat×PV)) (keep:List Nat) (G:Nat->PV):Nat->PV:=λt=>match lkF lv t with
 |some p=>p
 |none=>bif memB keep t then G t else .junk
def lkL:List (Nat×Blk)->Nat->Option Blk
 |[],_=>none
 |(a,x)::r,t=>bif Nat.beq t a then some x else lkL r t
def mkL (lv:List (Nat×Blk)) (keep:List Nat) (G:Nat->Blk):Nat->Blk:=λt=>match lkL lv t with
 |some p=>p
 |none=>bif memB keep t then G t else .no
def AllF (F:Nat->PV):List (Nat×PV)->Prop
 |[]=>True
 |(t,p)::r=>F t=p/\AllF F r
def AllL (F:Nat->Blk):List (Nat×Blk)->Prop
 |[]=>True
 |(t,p)::r=>F t=p/\AllL F r
theorem Nw_ {F:Nat->PV}:∀ {lv:List (Nat×PV)} {t:Nat} {p:PV},AllF F lv->lkF lv t=some p->F t=p
 |[],t,p,_,h=>by cases h
 |(a,x)::r,t,p,h,hl=>by
   simp only[lkF] at hl
   cases e:Nat.beq t a with
   |true=>rw[e] at hl;simp at hl;rw[Nat.eq_of_beq_eq_true e,<- hl];exact h.1
   |false=>rw[e] at hl;exact Nw_ h.2 xY
theorem Nx_ {F:Nat->Blk}:∀ {lv:List (Nat×Blk)} {t:Nat} {p:Blk},AllL F lv->lkL lv t=some p->F t=p
 |[],t,p,_,h=>by cases h
 |(a,x)::r,t,p,h,hl=>by
   simp only[lkL] at hl
   cases e:Nat.beq t a with
   |true=>rw[e] at hl;simp at hl;rw[Nat.eq_of_beq_eq_true e,<- hl];exact h.1
   |false=>rw[e] at hl;exact Nx_ h.2 xY
theorem K0_ {α:Type _} {F G:Nat->α}:∀ {l:List Nat},l.map F=l.map G->∀ t∈l,F t=G t
 |[],_,t,h=>by cases h
 |a::r,e,t,h=>by
   simp only[List.map_cons,List.cons.injEq] at e
   rcases List.mem_cons.1 h with rfl|q
   . exact e.1
   . exact K0_ e.2 t q
theorem mk_le {s:St} {lv:List (Nat×PV)} {keep:List Nat} {G:Nat->PV} {lL:List (Nat×Blk)} {kL:List Nat} {GL:Nat->Blk} (h1:keep.map s.F=keep.map G) (h2:kL.map s.L=kL.map GL) (h3:AllF s.F lv) (h4:AllL s.L lL):StLe s ⟨mkF lv keep G,mkL lL kL GL⟩:=by
 refine Junk.le ⟨λt=>?_,λi=>?_⟩
 . simp only[mkF]
   cases e:lkF lv t with
   |some p=>exact .inl (Nw_ h3 e).symm
   |none=>
     cases e2:memB keep t with
     |true=>exact .inl (K0_ h1 t (E3_ e2)).symm
     |false=>exact .inr Y
 . simp only[mkL]
   cases e:lkL lL i with
   |some p=>exact .inl (Nx_ h4 e).symm
   |none=>
     cases e2:memB kL i with
     |true=>exact .inl (K0_ h2 i (E3_ e2)).symm
     |false=>exact .inr Y
def LJ {ι:Type _} (S:ι->St) (Φ:ι->Prop) (μ:ι->Nat) (m:Nat):St->Prop:=λs=>∃ x,Φ x/\μ x<m/\StLe s (S x)
theorem sw_loop {ι:Type _} {c:Code} {ks:List Kt} {Q:Qs} {s:St} (S:ι->St) (Φ:ι->Prop) (μ:ι->Nat) (x0:ι) (h0:StLe s (S x0)) (hΦ:Φ x0) (body:∀ x,Φ x->Hd P n N H0 Q (.code c) (.lp (LJ S Φ μ (μ x))::ks) (S x)):Hd P n N H0 Q (.code (.loop c)) ks s:=by
 intro F H L ha;refine Km_ (λk F H L=>∃ x,Φ x/\μ x=k/\Abs H0 (S x) F H L) (μ x0) ⟨x0,hΦ,rfl,h0 _ _ _ _ ha⟩ λk F H L hI=>?_;obtain⟨x,hx,rfl,hax⟩:=hI;refine Fd_ (λe F' H' L' hq=>?_) (body x hx F H L hax);obtain⟨s',ha',hq'⟩:=hq
 cases e with
 |normal=>
   obtain⟨x',h1,h2,h3⟩:=hq'
   exact⟨μ x',h2,x',h1,rfl,h3 _ _ _ _ ha'⟩
 |_=>exact⟨s',ha',hq'⟩
theorem loop {ι:Type _} {c:Code} {ks:List Kt} {Q:Qs} {s:St} (keep kL:List Nat) (lv:ι->List (Nat×PV)) (lL:ι->List (Nat×Blk)) (Φ:ι->Prop) (μ:ι->Nat) (x0:ι) (h1:AllF s.F (lv x0)) (h2:AllL s.L (lL x0)) (hΦ:Φ x0) (body:∀ x,Φ x->Hd P n N H0 Q (.code c) (.lp (LJ (λx=>⟨mkF (lv x) keep s.F,mkL (lL x) kL s.L⟩) Φ μ (μ x))::ks) ⟨mkF (lv x) keep s.F,mkL (lL x) kL s.L⟩):Hd P n N H0 Q (.code (.loop c)) ks s:=
 sw_loop (λx=>⟨mkF (lv x) keep s.F,mkL (lL x) kL s.L⟩) Φ μ x0 (mk_le Y Y h1 h2) hΦ body
theorem next {ι:Type _} {keep kL:List Nat} {G:Nat->PV} {GL:Nat->Blk} {lv:ι->List (Nat×PV)} {lL:ι->List (Nat×Blk)} {Φ:ι->Prop} {μ:ι->Nat} {m:Nat} {s:St} {ks:List Kt} {Q:Qs} (x':ι) (h1:keep.map s.F=keep.map G) (h2:kL.map s.L=kL.map GL) (h3:AllF s.F (lv x')) (h4:AllL s.L (lL x')) (hm:μ x'<m) (hΦ:Φ x'):Hd P n N H0 Q (.ex .normal) (.lp (LJ (λx=>⟨mkF (lv x) keep G,mkL (lL x) kL GL⟩) Φ μ m)::ks) s:=
 ⟨x',hΦ,hm,mk_le h1 h2 h3 h4⟩
theorem Qu_ {L:Nat->Blk} {H:Hp} {i:Nat} {B:Blk} {p:PV} {v:Value} (h:SimT L H p v) (hi:p ≠ .osl i):SimT (lups L i B) H p v:=by
 cases p with
 |osl j=>
   have :j≠i:=λe=>hi (by rw[e])
   simp only[SimT,Di_ _ _ _ _ this] at h ⊢
   exact h
 |_=>exact h
def purge (i:Nat):PV->PV
 | .osl j=>bif Nat.beq j i then .junk else .osl j
 |p=>p
theorem Mp_ {L:Nat->Blk} {H:Hp} {i:Nat} {B:Blk} {p:PV} {v:Value} (h:SimT L H p v):SimT (lups L i B) H (purge i p) v:=by
 cases p with
 |osl j=>
   simp only[purge]
   cases e:Nat.beq j i with
   |true=>exact Sim.junk
   |false=>exact Qu_ h (λq=>by cases q;simp at e)
 |_=>exact h
def purgeB (i:Nat):Blk->Blk
 | .box b T cs=> .box b T (cs.map (purge i))
 |B=>B
theorem J7_ {L:Nat->Blk} {H:Hp} {i:Nat} {B:Blk} {ps:List PV} {vs:List Value} (h:SimTs L H ps vs):SimTs (lups L i B) H (ps.map (purge i)) vs:=by
 refine⟨by simp[h.1],λj p v hp hv=>?_⟩;rw[List.getElem?_map] at hp
 cases e:ps[j]? with
 |none=>rw[e] at hp;cases hp
 |some q=>rw[e] at hp;cases hp;exact Mp_ (h.2 j q v e hv)
def Ft_ (i:Nat) (F:Nat->PV):Nat->PV:=λt=>purge i (F t)
def C6_ (i:Nat) (L:Nat->Blk):Nat->Blk:=λt=>purgeB i (L t)
theorem Abs.turn {s:St} {F:Fr} {H:Hp} {L:Ls} (ha:Abs H0 s F H L) (i:Nat) {B:Blk} {x:Option (Nat×Obj)} (hx:SimB (lups (C6_ i s.L) i B) H B x):Abs H0 ⟨Ft_ i s.F,lups (C6_ i s.L) i B⟩ F H (lupd L i x):=by
 have hshape:∀ {q p v},SimT (lups s.L i q) H p v->SimT (lups (C6_ i s.L) i q) H p v:=λ{q p v} h=>by
   cases p with
   |osl j=>
     by_cases e:j=i
     . subst e;simp only[SimT,Bh_] at h ⊢;exact h
     . simp only[SimT,Di_ _ _ _ _ e,C6_] at h ⊢
       generalize s.L j=C at *
       cases C<;>exact h
   |_=>exact h
 refine⟨ha.le,ha.g,λt=>hshape (Mp_ (ha.f t)),λj=>?_⟩;by_cases e:j=i;subst e;simp only[Bh_,E_];exact hx
 . simp only[Di_ _ _ _ _ e,C_ _ _ _ _ e,C6_]
   have h1:=ha.l j
   generalize s.L j=C at *
   cases C with
   |box b T cs=>
     obtain⟨vs,h2,h3⟩:=h1
     exact⟨vs,h2,(J7_ (B:=B) h3).1,λa p v hp hv=>hshape ((J7_ (B:=B) h3).2 a p v hp hv)⟩
   |no=>trivial
   |arr u k e enc xs=>exact h1
   |itr b s p=>exact h1
   |ob b o=>exact h1
theorem Abs.turnB {s:St} {F:Fr} {H:Hp} {L:Ls} (ha:Abs H0 s F H L) (i:Nat) {B:Blk} {x:Option (Nat×Obj)} (hB:match B with| .arr _ _ _ _ _=>False|_=>True) (hx:SimB (lups s.L i B) H B x):Abs H0 ⟨s.F,lups s.L i B⟩ F H (lupd L i x):=by
 have hshape:∀ {p v},SimT s.L H p v->SimT (lups s.L i B) H p v:=λ{p v} h=>by
   cases p with
   |osl j=>
     by_cases e:j=i
     . subst e;simp only[SimT,Bh_];cases B<;>first|trivial|exact hB.elim
     . simp only[SimT,Di_ _ _ _ _ e] at h ⊢;exact h
   |_=>exact h
 refine⟨ha.le,ha.g,λt=>hshape (ha.f t),λj=>?_⟩;by_cases e:j=i;subst e;simp only[Bh_,E_];exact hx
 . simp only[Di_ _ _ _ _ e,C_ _ _ _ _ e]
   have h1:=ha.l j
   generalize s.L j=C at *
   cases C with
   |box b T cs=>obtain⟨vs,h2,h3,h4⟩:=h1;exact⟨vs,h2,h3,λa p v hp hv=>hshape (h4 a p v hp hv)⟩
   |no=>trivial
   |arr u k e enc xs=>exact h1
   |itr b s p=>exact h1
   |ob b o=>exact h1
variable {all rest:List Oper} {Q:Qs} {ks:List Kt} {s:St} {T ty d:Nat} {pos:String} {af:Array Edge} {x y z:Operand} {K:St->Prop}
def E1 (P:Program) (n:Nat) (N:Rest) (H0:Env) (all:List Oper) (o:Oper) (j:Option Nat) (s:St) (K:St->Prop):Prop:=
 ∀ F H L,Abs H0 s F H L->Op1 P n N all o (λF' H' L'=>HLe H H'/\(∀ i,j≠some i->L' i=L i)/\∃ s',Abs H0 s' F' H' L'/\K s') F H L
theorem Op1.imp {o:Oper} {K K':Fr->Hp->Ls->Prop} {F:Fr} {H:Hp} {L:Ls} (h:Op1 P n N all o K F H L) (hk:∀ F H L,K F H L->K' F H L):Op1 P n N all o K' F H L:=λa w ha hm=>by
 have :=h a w ha hm
 split
 . rename_i hw
   rw[if_pos hw] at this
   exact Ei_ (λa' w' ⟨F',H',L',x,y,z⟩=>⟨F',H',L',x,y,hk _ _ _ z⟩) (λ_ _ _ x=>x) this
 . rename_i hw
   rw[if_neg hw] at this
   obtain⟨F',H',L',x,y,z⟩:=this
   exact⟨F',H',L',x,y,hk _ _ _ z⟩
theorem ef {o:Oper} {j:Option Nat} (h:E1 P n N H0 all o j s (λs'=>Hd P n N H0 Q (.ops all rest) ks s')):Hd P n N H0 Q (.ops all (o::rest)) ks s:=λF H L ha=>
 ow1 ((h F H L ha).imp λF' H' L' ⟨_,_,s',h1,h2⟩=>h2 F' H' L' h1)
theorem only {L:Ls} {j:Nat} {x:Option (Nat×Obj)}:∀ i,some j≠some i->lupd L j x i=L i:=λi h=>C_ _ _ _ _ λe=>h (by rw[e])
theorem Eg_ {L:Nat->Blk} {H:Hp} {ps:List PV} {vs:List Value} (h:Sims H ps vs) (hn:Ay_ ps=true):SimTs L H ps vs:=⟨h.1,λi p v hp hv=>(h.2 i p v hp hv).simT (Fj_ hn hp)⟩
theorem boxA (i:Nat) {cs:List PV} (hx:evP s.F x = .agg cs) (hn:Ay_ cs=true) (hd:Nat.blt d n=true) (k:∀ b,K ⟨updp s.F d (.own i b 0),lups s.L i (.box b T cs)⟩):E1 P n N H0 all ⟨some d, .box T x,ty,pos,af,none⟩ (some i) s K:=by
 intro F H L ha;have h1:=(A5_ ha.f x).sim;rw[hx] at h1;obtain⟨vs,e,h2⟩:=h1.inv_agg;exact P2_ i hd e λb=>⟨.refl H,only,_,(ha.turnB (B:= .box b T cs) i Z ⟨vs,rfl,Eg_ h2 hn⟩).put (p:= .own i b 0) d Sim.own,k b⟩
theorem Pz_ {v:Value} (h:v.oneCell'=true):v.cells = #[v]:=by cases v<;>first|rfl|(simp[Value.oneCell'] at h)
def evS (p:PV):Option PV:=frc p some
theorem Tc_ {p q:PV} (h:evS p=some q):p=q:=by simp only[evS,H5_,Option.some.injEq] at h;exact h
def evL (l:List PV):Option (List PV):=frcL l some
theorem Om_ {l m:List PV} (h:evL l=some m):l=m:=by simp only[evL,Is_,Option.some.injEq] at h;exact h
theorem box1 (i:Nat) {p:PV} (hx:evS (evP s.F x)=some p) (ho:p.one=true) (hd:Nat.blt d n=true) (k:∀ b,K ⟨updp s.F d (.own i b 0),lups s.L i (.box b T [p])⟩):E1 P n N H0 all ⟨some d, .box T x,ty,pos,af,none⟩ (some i) s K:=by
 intro F H L ha;have hx:=Tc_ hx;have h1:=(A5_ ha.f x).sim;rw[hx] at h1;have hno:p.noOsl=true:=by cases p<;>first|rfl|(simp[PV.one] at ho)
 exact R9_ i hd Y (Pz_ (h1.one ho)) λb=>⟨.refl H,only,_,(ha.turnB (B:= .box b T [p]) i Z ⟨[ev F x],rfl,Eg_ (Sims.nil.cons h1) (by simp[Ay_,hno])⟩).put (p:= .own i b 0) d Sim.own,k b⟩
theorem alloc {tb:Tb} {ti:TI} {zs:List PV} (ht:tbB P tb=true) (i:Nat) (hti:lkT tb T=some ti) (hz:evL ti.zero=some zs) (hn:Ay_ zs=true) (hd:Nat.blt d n=true) (k:∀ b,K ⟨updp s.F d (.own i b 0),lups s.L i (.box b T zs)⟩):E1 P n N H0 all ⟨some d, .alloc T,ty,pos,af,none⟩ (some i) s K:=by
 intro F H L ha;have hz:=Om_ hz;subst hz;obtain⟨zv,hz,hs⟩:=(Bl_ ht hti).zero;exact D1_ i hd (cs:=zv.cells.toList) (λw=>⟨zv,hz w,by simp⟩) λb=>⟨.refl H,only,_,(ha.turnB (B:= .box b T ti.zero) i trivial ⟨_,rfl,Eg_ (hs H) hn⟩).put (p:= .own i b 0) d Sim.own,k b⟩
theorem SimTs.set {L:Nat->Blk} {H:Hp} {ps:List PV} {vs:List Value} (h:SimTs L H ps vs) {p:PV} {v:Value} (m:Nat) (hp:SimT L H p v):SimTs L H (ps.set m p) (vs.set m v):=by
 refine⟨by simp[h.1],λi q u hq hu=>?_⟩;rw[List.getElem?_set] at hq hu
 split at hq
 . rename_i e
   rw[if_pos e] at hu
   split at hq
   . split at hu
     . cases hq;cases hu;exact hp
     . cases hu
   . cases hq
 . rename_i e;rw[if_neg e] at hu;exact h.2 i q u hq hu
theorem SimTs.append {L:Nat->Blk} {H:Hp} {ps qs:List PV} {vs us:List Value} (h:SimTs L H ps vs) (k:SimTs L H qs us):SimTs L H (ps++qs) (vs++us):=by
 refine⟨by simp[h.1,k.1],λi p v hp hv=>?_⟩
 rcases Nat.lt_or_ge i ps.length with q|q
 rw[List.getElem?_append_left q] at hp;rw[List.getElem?_append_left (by rw[h.1];exact q)] at hv;exact h.2 i p v hp hv;rw[List.getElem?_append_right q] at hp;rw[List.getElem?_append_right (by rw[h.1];exact q),h.1] at hv;exact k.2 _ p v hp hv
theorem SimTs.take {L:Nat->Blk} {H:Hp} {ps:List PV} {vs:List Value} (h:SimTs L H ps vs) (m:Nat):SimTs L H (ps.take m) (vs.take m):=by
 refine⟨by simp[h.1],λi p v hp hv=>?_⟩;rw[List.getElem?_take] at hp hv
 split at hp
 . rename_i q;rw[if_pos q] at hv;exact h.2 i p v hp hv
 . cases hp
theorem SimTs.drop {L:Nat->Blk} {H:Hp} {ps:List PV} {vs:List Value} (h:SimTs L H ps vs) (m:Nat):SimTs L H (ps.drop m) (vs.drop m):=by
 exact zU
theorem Gf_ {L:Nat->Blk} {H:Hp} {i b b':Nat} {T T':TypeId} {cs cs':List PV} (hb:L i = .box b T cs) {p:PV} {v:Value} (h:SimT L H p v):SimT (lups L i (.box b' T' cs')) H p v:=by
 cases p with
 |osl j=>
   by_cases e:j=i
   . subst e;simp only[SimT,Bh_]
   . simp only[SimT,Di_ _ _ _ _ e] at h ⊢;exact h
 |_=>exact h
theorem store1 {tb:Tb} {ti:TI} {i b b' off T0:Nat} {cs cs':List PV} {p:PV} (ht:tbB P tb=true) (hx:evP s.F x = .own i b off) (hb:s.L i = .box b' T0 cs) (hti:lkT tb T=some ti) (hsz:ti.size=1) (hy:evS (evP s.F y)=some p) (ho:p.one=true) (hl:Nat.blt off cs.length=true) (hbb:b'=b) (hc:evL (cs.set off p)=some cs')
   (k:K ⟨s.F,lups s.L i (.box b T0 cs')⟩):E1 P n N H0 all ⟨none, .store T x y,ty,pos,af,none⟩ (some i) s K:=by
 intro F H L ha;subst hbb;have hc:=Om_ hc;subst hc;have hy:=Tc_ hy;have h1:=(A5_ ha.f x).sim;rw[hx] at h1;have h2:=A5_ ha.f y;unfold Ok1 at h2;rw[hy] at h2;have h3:=ha.l i;rw[hb] at h3;obtain⟨vs,hL,hs⟩:=h3;have hsz':=(Bl_ ht hti).sz;rw[hsz] at hsz';refine C5_ h1.inv_own Y (h2.sim.one ho) hsz' hL wL ?_;refine⟨.refl H,only,_,ha.turnB (B:= .box _ T0 (cs.set off p)) i Z ⟨_,rfl,?_⟩,k⟩;have h4:=hs.set off h2;exact zI
def all1:List PV->Bool
 |[]=>true
 |p::r=>p.one&&all1 r
theorem B3_ {H:Hp}:∀ {ps:List PV} {vs:List Value},Sims H ps vs->all1 ps=true->vs.all Value.oneCell'=true
 |[],vs,h,_=>by cases h.inv_nil;rfl
 |p::r,vs,h,ho=>by
   obtain⟨v,us,rfl,h1,h2⟩:=h.inv_cons
   simp only[all1,Bool.and_eq_true] at ho
   simp only[List.all_cons,Bool.and_eq_true]
   exact⟨h1.one ho.1,B3_ h2 ho.2⟩
theorem storeA {tb:Tb} {ti:TI} {i b b' off T0:Nat} {cs ps cs':List PV} (ht:tbB P tb=true) (hx:evP s.F x = .own i b off) (hb:s.L i = .box b' T0 cs) (hti:lkT tb T=some ti) (hy:evP s.F y = .agg ps) (hn:Ay_ ps=true) (ho:all1 ps=true) (hsz:ps.length=ti.size) (hl:Nat.ble (off+ti.size) cs.length=true) (hbb:b'=b) (hc:evL (cs.take off++(ps++cs.drop (off+ti.size)))=some cs')
   (k:K ⟨s.F,lups s.L i (.box b T0 cs')⟩):E1 P n N H0 all ⟨none, .store T x y,ty,pos,af,none⟩ (some i) s K:=by
 intro F H L ha;subst hbb;have hc:=Om_ hc;subst hc;have h1:=(A5_ ha.f x).sim;rw[hx] at h1;have h2:=(A5_ ha.f y).sim;rw[hy] at h2;obtain⟨us,e,h2⟩:=h2.inv_agg;have h3:=ha.l i;rw[hb] at h3;obtain⟨vs,hL,hs⟩:=h3;have hl':=Nat.le_of_ble_eq_true hl;refine K4_ (m:=ti.size) (vs.take off++(us++vs.drop (off+ti.size))) h1.inv_own e (B3_ h2 ho) (Bl_ ht hti).sz (by rw[h2.1,hsz]) hL wL Y ?_;refine⟨.refl H,only,_,ha.turnB (B:= .box _ T0 _) i Z ⟨_,rfl,?_⟩,k⟩;have h4:=(hs.take off).append ((Eg_ (L:=s.L) h2 hn).append (hs.drop (off+ti.size)));exact zI
end Go.SW
namespace Go.SW
variable {P:Program} {n:Nat} {N:Rest} {H0:Env} {all rest:List Oper} {Q:Qs} {ks:List Kt} {s:St} {T T2 ty d:Nat} {pos:String} {af:Array Edge} {x y z:Operand} {K:St->Prop}
def SrcP (P:Program) (N:Rest) (H0:Env) (s:St) {α:Type} (enc:α->List PV) (k:Nat) (y:Operand) (ys:List α):Prop:=
 ∀ F H L,Abs H0 s F H L->∃ news,Src P N H L k (ev F y) ys.length news/\Rl (RowE enc k) H ys news/\∀ u∈news,u.oneCell'=true
theorem src_own {F:Fr} {H:Hp} {L:Ls} {k e i:Nat} {v:Value} {len:Nat} {cs:List Value} (h:OwnV k e v (L i) len cs):Src P N H L k v len cs:=by
 obtain⟨hl,h⟩:=h;refine⟨hl,λw hm=>?_⟩
 rcases h with ⟨rfl,rfl,_⟩|⟨b,cap,c,f,rfl,hL,hc,hle,ht,hff⟩
 have :cs=[]:=List.length_eq_zero_iff.1 xY;subst this;exact⟨by simp[Builtin.lenOf],by simp[Builtin.firstCells]⟩;refine⟨by simp[Builtin.lenOf],?_⟩
 have :=run_loadCells_list (P:=P) w ⟨b,f.length,none⟩ cs (λj v hj=>by
   rw[J_]
   refine hm.cellL hL ?_
   rw[List.getElem?_append_right xI,Nat.add_sub_cancel_left]
   subst ht
   rw[List.getElem?_take] at hj
   split at hj
   . exact hj
   . cases hj)
 rw[hl] at this;exact yY
theorem src_l {α:Type} {enc:α->List PV} {k:Nat} {ys:List α} (hy:evP s.F y = .sl enc ys) (hk:∀ a,(enc a).length=k):SrcP P N H0 s enc k y ys:=λF H L ha=>by
 have h1:=(A5_ ha.f y).sim
 rw[hy] at h1
 obtain⟨k0,hs,hb⟩:=h1.slh
 cases ys with
 |nil=>
   obtain⟨⟨a,c,e,hc⟩,_⟩:=hs
   refine⟨[],⟨by simp,λw hm=>?_⟩,Mt_,λu hu=>by cases hu⟩
   rw[e]
   refine⟨by simp[Builtin.lenOf],?_⟩
   cases a with
   |none=>simp[Builtin.firstCells]
   |some a=>
     have :=run_loadCells_list (P:=P) w a [] (λj v hj=>by simp at hj)
     simpa [Builtin.firstCells] using this
 |cons a r=>
   have e:k0=k:=by
     obtain⟨cs,hE,_⟩:=hs.get (show (a::r)[0]? = some a from rfl)
     rw[<- hE.1,hk]
   subst e
   obtain⟨news,h2,h3,h4⟩:=src_slE (P:=P) D6_ hs
   exact⟨news,h4 N L,h2,h3⟩
theorem src_o {α:Type} {enc:α->List PV} {i e k:Nat} {u:Value} {ys:List α} (hy:evP s.F y = .osl i) (hb:s.L i = .arr u k e enc ys):SrcP P N H0 s enc k y ys:=λF H L ha=>by
 have h1:=A5_ ha.f y
 unfold Ok1 at h1
 rw[hy] at h1
 simp only[SimT,hb] at h1
 have h2:=ha.l i
 rw[hb] at h2
 obtain⟨cs,ho,hr,hm⟩:=h2
 rw[h1]
 exact⟨cs,src_own (F:=F) ho,hr,K9_ D6_ hr⟩
def Mh_ (tb:Tb) (T:TypeId):Bool:=
 match lkT tb T with
 |some ti=>match ti.k with
   | .slc _=>true
   | .str=>true
   |_=>false
 |none=>false
theorem Ps_ {tb:Tb} (ht:tbB P tb=true) {T:TypeId} (h:Mh_ tb T=true):∃ d2,P.underlying T=some d2/\G8_ d2=true:=by
 unfold Mh_ at h
 split at h
 . rename_i ti hti
   split at h
   . rename_i e hk;exact⟨_,(Bl_ ht hti).slc hk,rfl⟩
   . rename_i hk;exact⟨_,(Bl_ ht hti).str hk,rfl⟩
   . cases h
 . cases h
theorem S4_ {tb:Tb} {t:Nat} {ti:TI} (ht:tbB P tb=true) (hti:lkT tb t=some ti) (h1:ti.zero.length=ti.size):∃ zs:List Value,Zr P t zs/\zs.length=ti.size:=by
 obtain⟨zv,hz,hs⟩:=(Bl_ ht hti).zero;exact⟨zv.cells.toList,λw=>⟨zv,hz w,by simp⟩,by rw[(hs (λ_=>none)).1,h1]⟩
theorem app {α:Type} {tb:Tb} {i e k:Nat} {u:Value} {enc:α->List PV} {xs:List α} {te:TI} (ht:tbB P tb=true) (ys:List α) (hx:evP s.F x = .osl i) (hb:s.L i = .arr u k e enc xs) {ti:TI} (hti:lkT tb T=some ti) (htk:ti.k = .slc e) (hT2:Mh_ tb T2=true) (hte:lkT tb e=some te) (hz:te.zero.length=te.size) (hby:Nat.blt 0 te.bytes=true) (hk:te.size=k) (hy:SrcP P N H0 s enc k y ys) (hs:(xs.length+ys.length)*te.bytes<=140737488355328) (hd:Nat.blt d n=true)
   (kk:∀ u',K ⟨updp (Ft_ i s.F) d (.osl i),lups (C6_ i s.L) i (.arr u' k e enc (xs++ys))⟩):E1 P n N H0 all ⟨some d, .call ⟨.builtin .append,#[x,y],#[T,T2]⟩,ty,pos,af,none⟩ (some i) s K:=by
 intro F H L ha;have h1:=A5_ ha.f x;unfold Ok1 at h1;rw[hx] at h1;simp only[SimT,hb] at h1;have h2:=ha.l i;rw[hb] at h2;obtain⟨cs,ho,hr,hm⟩:=h2;obtain⟨news,h3,h4,h5⟩:=hy F H L ha;obtain⟨d2,hd2,hn2⟩:=Ps_ ht hT2;obtain⟨zs,hzr,hzl⟩:=S4_ ht hte hz;have hok:=Bl_ ht hte;subst hk;have hby':0<te.bytes:=by simpa using hby
 have hlen:xs.length+ys.length<=140737488355328:=Nat.le_trans (Nat.le_mul_of_pos_right _ hby') hs;refine P1_ i h1 Y ((Bl_ ht hti).slc htk) hd2 hn2 hok.sz hok.by_ hby' hzr ho h3 h5 hzl hs hd λv' en' hv'=>?_;exact⟨.refl H,only,_,(ha.turn i (B:= .arr v' te.size e enc (xs++ys)) ⟨_,by simpa using hv',T3_ hr h4,by simpa using hlen⟩).put d (by simp[SimT,Bh_]),kk v'⟩
def bslP (G:Nat->PV):List (Nat×Operand)->Nat->Option (List (List PV))
 |[],_=>some []
 |(j,x)::r,i=>match Nat.beq j i with
   |true=>match (evP G x).cellsOf with
     |some c=>match all1 c with
       |true=>match bslP G r (i+1) with
         |some rows=>some (c::rows)
         |none=>none
       |false=>none
     |none=>none
   |false=>none
theorem N4_ {sL:Nat->Blk} {H:Hp} {F:Fr} {G:Nat->PV} (hG:∀ t,SimT sL H (G t) (F t)) {k:Nat}:∀ (ps:List (Nat×Operand)) (i:Nat) (rows:List (List PV)),bslP G ps i=some rows->(∀ r∈rows,r.length=k) ->
   Gx_ k i (evp F ps)/\(evp F ps).length=rows.length/\∀ {α:Type} (enc:α->List PV) (xs:List α),rows=xs.map enc->Rl (RowE enc k) H xs (Dc_ (evp F ps))
 |[],i,rows,h,_=>by
   simp only[bslP,Option.some.injEq] at h
   subst h
   exact ⟨trivial,rfl,λenc xs e=>by
     have :xs=[]:=by simpa using e.symm
     subst this;exact Mt_⟩
 |(j,x)::r,i,rows,h,hk=>by
   simp only[bslP] at h
   split at h
   . rename_i hj
     split at h
     . rename_i c hc
       split at h
       . rename_i h1
         split at h
         . rename_i rows' hr
           cases h
           obtain⟨a1,a2,a3⟩:=N4_ hG r (i+1) rows' hr λq hq=>hk q (List.mem_cons_of_mem _ hq)
           have hv:=H1_ (A5_ hG x).sim hc
           have hck:=hk c List.mem_cons_self
           refine⟨⟨Nat.eq_of_beq_eq_true hj,by rw[<- hck,<- hv.1];simp,a1⟩,by simp[evp,a2],λenc xs e=>?_⟩
           cases xs with
           |nil=>cases e
           |cons a xs=>
             simp only[List.map_cons,List.cons.injEq] at e
             obtain⟨rfl,e2⟩:=e
             refine⟨_,_,rfl,⟨hck,hv,λu hu=>?_⟩,a3 enc xs e2⟩
             have :=B3_ hv h1
             rw[List.all_eq_true] at this
             exact this u hu
         . cases h
       . cases h
     . cases h
   . cases h
theorem bsl {α:Type} {tb:Tb} (i:Nat) {e len:Nat} {ps:Array (Nat×Operand)} (enc:α->List PV) (xs:List α) {rows:List (List PV)} {ti te:TI} (ht:tbB P tb=true) (hti:lkT tb T=some ti) (htk:ti.k = .slc e) (hte:lkT tb e=some te) (hr:bslP s.F ps.toList 0=some rows) (hx:rows=xs.map enc) (hk:∀ a,(enc a).length=te.size) (hl:xs.length=len) (hs:len*te.size<=16777216) (hs2:len<=140737488355328) (hd:Nat.blt d n=true)
   (kk:∀ u',K ⟨updp (Ft_ i s.F) d (.osl i),lups (C6_ i s.L) i (.arr u' te.size e enc xs)⟩):E1 P n N H0 all ⟨some d, .buildSlice T len ps,ty,pos,af,none⟩ (some i) s K:=by
 obtain⟨pl,rfl⟩:∃ pl:List (Nat×Operand),ps=pl.toArray:=⟨ps.toList,by simp⟩;simp only[List.toList_toArray] at hr;intro F H L ha;have hrow:∀ r∈rows,r.length=te.size:=λr hr=>by
   rw[hx] at hr
   obtain⟨a,_,rfl⟩:=List.mem_map.1 hr
   exact hk a
 obtain⟨a1,a2,a3⟩:=N4_ ha.f pl 0 rows hr hrow;have hrl:=a3 enc xs hx;obtain⟨zv,hz,_⟩:=(Bl_ ht hte).zero;have hlen:(evp F pl).length=len:=by rw[a2,hx];simpa using hl
 refine Ef_ i hd ((Bl_ ht hti).slc htk) (Bl_ ht hte).sz ⟨zv,hz⟩ Y a1 hlen Y hs λb=>?_;refine⟨.refl H,only,_,(ha.turn i (B:= .arr (.slice (some ⟨b,0,none⟩) len len) te.size e enc xs) ⟨_,?_,hrl,by omega⟩).put d (by simp[SimT,Bh_]),kk _⟩;rw[<- hl];exact ownV_bx (Qn_ D6_ hrl)
def Rr_ {α:Type} (i:Nat) (enc:α->List PV) (xs:List α):PV->PV
 | .osl j=>bif Nat.beq j i then .sl enc xs else .osl j
 |p=>p
def Kv_ {α:Type} (i:Nat) (enc:α->List PV) (xs:List α) (F:Nat->PV):Nat->PV:=λt=>Rr_ i enc xs (F t)
def giveB {α:Type} (i:Nat) (enc:α->List PV) (xs:List α):Blk->Blk
 | .box b T cs=> .box b T (cs.map (Rr_ i enc xs))
 |B=>B
def Ju_ {α:Type} (i:Nat) (enc:α->List PV) (xs:List α) (L:Nat->Blk):Nat->Blk:=λt=>bif Nat.beq t i then .no else giveB i enc xs (L t)
theorem Abs.give {α:Type} {i e k:Nat} {u:Value} {enc:α->List PV} {xs:List α} {F:Fr} {H H':Hp} {L:Ls} (ha:Abs H0 s F H L) (hb:s.L i = .arr u k e enc xs) (hl:HLe H H') (hH:∀ b o,L i=some (b,o)->H' b=some o):Abs H0 ⟨Kv_ i enc xs s.F,Ju_ i enc xs s.L⟩ F H' (lupd L i none):=by
 have hi:=ha.l i;rw[hb] at hi;obtain⟨cs,ho,hr,hm⟩:=hi;have hsl:Sim H' (.sl enc xs) u:=Sim.of_slh (Sq_ D6_ ho (hr.mono E8_ hl) hH) hm;have hp:∀ {p v},SimT s.L H p v->SimT (Ju_ i enc xs s.L) H' (Rr_ i enc xs p) v:=λ{p v} h=>by
   cases p with
   |osl j=>
     simp only[Rr_]
     cases q:Nat.beq j i with
     |true=>
       have :=Nat.eq_of_beq_eq_true q
       subst this
       simp only[SimT,hb] at h
       subst h
       exact hsl
     |false=>
       simp only[SimT] at h
       show SimT _ _ (.osl j) v
       simp only[SimT,Ju_,q,cond_false]
       generalize s.L j=B at *
       cases B<;>first|exact h|trivial
   |_=>exact Sim.mono hl h
 refine⟨ha.le.trans hl,H0.g.mono _ _ hl ha.g,λt=>hp (ha.f t),λj=>?_⟩;simp only[Ju_]
 cases q:Nat.beq j i with
 |true=>trivial
 |false=>
   have hne:j≠i:=λe=>by subst e;simp at q
   rw[C_ _ _ _ _ hne]
   have h1:=ha.l j
   simp only[cond_false]
   generalize s.L j=B at *
   cases B with
   |box b T cs'=>
     obtain⟨vs,h2,h3,h4⟩:=h1
     refine⟨vs,h2,by simp[h3],λa p v hpp hv=>?_⟩
     rw[List.getElem?_map] at hpp
     cases q2:cs'[a]? with
     |none=>rw[q2] at hpp;cases hpp
     |some p0=>rw[q2] at hpp;cases hpp;exact hp (h4 a p0 v q2 hv)
   |no=>trivial
   |arr u2 k2 e2 enc2 xs2=>obtain⟨c2,h2,h3,h4⟩:=h1;exact⟨c2,h2,h3.mono E8_ hl,h4⟩
   |itr b s2 p=>exact h1
   |ob b o=>exact h1
theorem give {α:Type} {e k:Nat} {u:Value} {enc:α->List PV} {xs:List α} (i:Nat) (hb:s.L i = .arr u k e enc xs) (kk:Hd P n N H0 Q (.ops all rest) ks ⟨Kv_ i enc xs s.F,Ju_ i enc xs s.L⟩):Hd P n N H0 Q (.ops all rest) ks s:=by
 intro F H L ha;exact Ml_ i Y λH' hl hg=>kk _ _ _ (ha.give hb hl hg)
theorem givec {α:Type} {e k:Nat} {u:Value} {enc:α->List PV} {xs:List α} {c:Code} (i:Nat) (hb:s.L i = .arr u k e enc xs) (kk:Hd P n N H0 Q (.code c) ks ⟨Kv_ i enc xs s.F,Ju_ i enc xs s.L⟩):Hd P n N H0 Q (.code c) ks s:=by
 intro F H L ha;exact Ri_ i Y λH' hl hg=>kk _ _ _ (ha.give hb hl hg)
theorem calll {α:Type} {e k:Nat} {u:Value} {enc:α->List PV} {ls:List α} {f:FuncId} {args:List PV} {res:PV} {xs:Array Operand} {ats:Array TypeId} (i:Nat) (hb:s.L i = .arr u k e enc ls) (h:Fn P H0.g f args res) (hf:res.flat=true) (ha:argsP (Kv_ i enc ls s.F) x xs.toList=some (f,args)) (hd:Nat.blt d n=true)
   (kk:res.wf->K ⟨updp s.F d res,s.L⟩):E1 P n N H0 all ⟨some d, .call ⟨.value x,xs,ats⟩,ty,pos,af,none⟩ none s K:=by
 intro F H L hab;refine λa w hA hm=>?_;obtain⟨H1,hl1,hg1,hm1⟩:=hm.giveO (i:=i) Y;have hab1:=hab.give hb hl1 hg1;obtain⟨vs,h1,h2⟩:=Gk_ (ats:=ats) hab1.f ha h.cb;rw[if_pos xM];unfold Oper.wp;rw[hA.eval,h2];refine (h.run N H1 _ w vs hab1.g h1 hm1).mono λe' w' ⟨v,H',he,hv,hl,hm'⟩=>?_;subst he;refine⟨_,H,L,hA.put xO v,?_, .refl H,λ_ _=>rfl,_,hab.put d ?_,kk hv.wf⟩
 . have hm2:=hm'.le hl
   cases hLi:L i with
   |none=>
     have e1:lupd L i none=L:=Mf_ hLi
     rw[e1] at hm2
     exact hm2.le hl1
   |some bo=>
     obtain⟨b,o⟩:=bo
     have hle:HLe (hadd H b o) H1:=λc q hq=>by
       by_cases e:c=b
       . subst e;simp[hadd] at hq;subst hq;exact hg1 _ _ hLi
       . simp[hadd,e] at hq;exact hl1 c q hq
     exact hm.take hLi (hm2.le hle)
 have hno:=h.no;refine Sim.simT ?_ hno;obtain⟨v0,hv0⟩:∃ v0,v0=v:=⟨v,rfl⟩;exact Sim.flat_any hf hv
end Go.SW
namespace Go.SW
variable {P:Program} {n:Nat} {N:Rest} {H0:Env} {all rest:List Oper} {Q:Qs} {ks:List Kt} {s:St} {T T2 ty d:Nat} {pos:String} {af:Array Edge} {x y z:Operand} {K:St->Prop}
def LkR (xs:Option (List Nat)) (Lk L:Ls):Prop:=match xs with
 |some xs=>∀ i,Lk i = bif memB xs i then none else L i
 |none=>True
def Hv (P:Program) (n:Nat) (N:Rest) (H0:Env) (Q:Qs) (xs:Option (List Nat)) (all:List Oper) (fuel:Nat) (listed:Array Bool) (ks:List Kt) (s:St):Prop:=
 ∀ F H L Lk,Abs H0 s F H L->LkR xs Lk L->Vw P n N all Lk (ql H0 (Kt.den P n N H0 ks Q)) fuel listed F H L
theorem any (xs:List Nat) (m:Nat) {id:Nat} {ops:Array Oper} (hmx:P.follows .mixedOrders=true) (hm:ops.toList.length=m) (h:Hv P n N H0 Q (some xs) ops.toList m (Array.replicate m false) ks s):Hd P n N H0 Q (.code (.region id ops true)) ks s:=by
 intro F H L ha;subst hm;have :=S9_ (id:=id) hmx (λi=>bif memB xs i then none else L i) (h F H L _ ha λ_=>rfl);exact yZ
theorem vdone {xs:Option (List Nat)} {fuel:Nat} {listed:Array Bool} (h:Region.ready .any all.toArray listed=[]) (k:Hd P n N H0 Q (.ex .normal) ks s):Hv P n N H0 Q xs all fuel listed ks s:=λF H L Lk ha _=>Ll_ h ⟨s,ha,k⟩
def okX (xs:Option (List Nat)) (i:Nat):Bool:=match xs with
 |some xs=>!memB xs i
 |none=>false
def okLk (xs:Option (List Nat)) (sL:Nat->Blk) (op:Op) (lk:Option (Nat×Nat×Nat)):Bool:=
 match lk with
 |none=>true
 |some (i,_,_)=>match C0_ op with
   |true=>match okX xs i with
     |true=>match sL i with
       | .box _ _ _=>true
       |_=>false
     |false=>false
   |false=>false
theorem Nb_ {xs:Option (List Nat)} {Lk L:Ls} (h:LkR xs Lk L) {op:Op} (ho:C0_ op=false\/∃ i,okX xs i=true):LLe (lkOf op Lk) L:=by
 rcases Ec_ op Lk with ⟨h1,h2⟩|h2
 . rcases ho with q|⟨i,q⟩
   . rw[h1] at q;cases q
   . rw[h2]
     cases xs with
     |none=>cases q
     |some xs=>
       intro j o hj
       rw[h j] at hj
       cases e:memB xs j with
       |true=>rw[e] at hj;cases hj
       |false=>rw[e] at hj;exact hj
 rw[h2];exact λ_ _ q=>by cases q
theorem Px_ {xs:Option (List Nat)} {F:Fr} {H:Hp} {L Lk:Ls} {op:Op} {lk:Option (Nat×Nat×Nat)} (ha:Abs H0 s F H L) (hL:LkR xs Lk L) (h:okLk xs s.L op lk=true) {L':Ls} (hl:LLe (lkOf op Lk) L'):∀ x,lk=some x->L' x.1=L x.1:=by
 intro x hx;subst hx;obtain⟨i,a,b⟩:=x;simp only[okLk] at h
 split at h
 . rename_i h1
   split at h
   . rename_i h2
     split at h
     . rename_i b' T cs h3
       have h4:=ha.l i
       rw[h3] at h4
       obtain⟨vs,h5,_⟩:=h4
       rcases Ec_ op Lk with ⟨_,e⟩|e
       . cases xs with
         |none=>cases h2
         |some xs=>
           have h6:Lk i=L i:=by
             rw[hL i]
             simp only[okX,Bool.not_eq_true'] at h2
             rw[h2];rfl
           exact (hl i _ (by rw[e,h6,h5])).trans h5.symm
       . exfalso
         have e2:lkOf op Lk=Lk\/C0_ op=false:=by cases op<;>first|exact .inl Y|exact .inr Y
         rcases e2 with q|q
         . rw[q] at e
           cases xs with
           |none=>cases h2
           |some xs=>
             have h6:=hL i
             simp only[okX,Bool.not_eq_true'] at h2
             rw[h2,e] at h6
             simp only[cond_false] at h6
             rw[h5] at h6;cases h6
         . rw[h1] at q;cases q
     . cases h
   . cases h
 . cases h
theorem sv_v {tb:Tb} {xs:Option (List Nat)} {fuel i:Nat} {listed:Array Bool} {o:Oper} {r:PR} (ht:tbB P tb=true) (hi:nth all i=some o) (ho:o.dst=some d) (hck:(rdB all listed i&&apB n all listed i o&&Nat.blt d n&&nosB o.op)=true) (h:vOp tb s all o=some r) (hp:AllP r.ps) (he:∀ x,r.lk=some x->x.2.1=x.2.2) (hlk:okLk xs s.L o.op r.lk=true) (hx:C0_ o.op=false\/∃ i,okX xs i=true)
   (k:Hv P n N H0 Q xs all fuel (listed.setIfInBounds i true) ks ⟨updp s.F d r.v,s.L⟩):Hv P n N H0 Q xs all (fuel+1) listed ks s:=by
 intro F H L Lk ha hL;rw[Cn_] at hi;obtain⟨d',op,ty,pos,af,g⟩:=o
 cases ho
 unfold vOp at h
 split at h
 . rename_i hg
   cases hg
   obtain⟨val,h1,h2⟩:=Mo_ (N:=N) (ty:=ty) ht ha.f ha.l h hp he
   exact vw_q i hi hck (Nb_ hL hx) (λH' L' hh hl=>h2 H' L' hh (Px_ ha hL hlk hl)) (k _ _ _ _ (ha.put d h1) hL)
 . rename_i j want hg
   cases hg
   split at h
   . rename_i oj hj
     split at h
     . rename_i dj hdj
       split at h
       . rename_i g hgc
         split at h
         . rename_i hno
           unfold pG1 at h
           split at h
           . rename_i v0 ps0 lk0 hr0
             split at h
             . rename_i hnv
               cases h
               obtain⟨c,b,hv,hge⟩:=gC_ok hgc (ha.f dj).sim
               have hy:yF all F j=some (gv c (.bool b)):=by rw[S0_ hj hdj,hv]
               obtain⟨hp1,hp2⟩:=Dd_ hp
               have hge2:g=(c&&(b==want)):=hge.trans Jw_.symm
               cases hgv:g with
               |false=>
                 refine vgq (c:=c) (b:=b) (v:=undef) i hi hck (Nb_ hL hx) (λ_ _ q=>by cases q) hy (λe=>by rw[<- hge2,hgv] at e;cases e) (k _ _ _ _ (ha.put d ?_) hL)
                 rw[<- hge2,hgv]
                 exact Sim.gvf
               |true=>
                 obtain⟨val,h1,h2⟩:=Mo_ (N:=N) (ty:=ty) ht (Ho_ ha.f (λt ht c v e=>hp2 t ht c v e hgv) (C2_ hno)) ha.l hr0 (Gv_ hgv hp1) he
                 refine vgq (c:=c) (b:=b) (v:=val) i hi hck (Nb_ hL hx) (λ_ _ q=>by cases q) hy (λ_ H' L' hh hl=>h2 H' L' hh (Px_ ha hL hlk hl)) (k _ _ _ _ (ha.put d ?_) hL)
                 rw[<- hge2,hgv]
                 exact Sim.gvt h1.sim
             . cases h
           . cases h
         . cases h
       . cases h
     . cases h
   . cases h
structure VV where
 F:Nat->PV
 L:Nat->Blk
 ps:List Prop
 as0:List Nat
 bs:List Nat
def lksOk (xs:Option (List Nat)) (op:Op):Bool:=match C0_ op with
 |false=>true
 |true=>match xs with
   |some xs=>!memB xs (xs.foldr max 0+1)
   |none=>false
theorem L7_ {xs:Option (List Nat)} {op:Op} (h:lksOk xs op=true):C0_ op=false\/∃ i,okX xs i=true:=by
 unfold lksOk at h
 split at h
 exact .inl (by assumption)
 . split at h
   exact .inr ⟨_,h⟩
   . cases h
def runV (tb:Tb) (xs:Option (List Nat)) (all:List Oper):List Nat->(Nat->PV)->(Nat->Blk)->List Prop->List Nat->List Nat->Option VV
 |[],F,L,ps,as0,bs=>frcP ps λps=>frcN as0 λas0=>frcN bs λbs=>some ⟨F,L,ps,as0,bs⟩
 |i::r,F,L,ps,as0,bs=>match nth all i with
   |some o=>match o.dst with
     |some d=>match vOp tb ⟨F,L⟩ all o with
       |some ⟨v0,ps0,lk0⟩=>match okLk xs L o.op lk0 with
         |true=>match lksOk xs o.op with
           |true=>match lk0 with
             |none=>addP ps ps0 λps=>frc v0 λv=>runV tb xs all r (updp F d v) L ps as0 bs
             |some (_,a,b)=>addP ps ps0 λps=>frc v0 λv=>runV tb xs all r (updp F d v) L ps (a::as0) (b::bs)
           |false=>none
         |false=>none
       |none=>none
     |none=>none
   |none=>none
def chkV (n:Nat) (all:List Oper):List Nat->Array Bool->Bool
 |[],_=>true
 | i::r,listed=>(match nth all i with
   |some o=>rdB all listed i&&apB n all listed i o&&dstB n o&&nosB o.op
   |none=>false)&&chkV n all r (listed.setIfInBounds i true)
def lst (listed:Array Bool):List Nat->Array Bool
 |[]=>listed
 |i::r=>lst (listed.setIfInBounds i true) r
theorem Qp_ {tb:Tb} (ht:tbB P tb=true) {xs:Option (List Nat)}:∀ (order:List Nat) (fuel:Nat) (listed:Array Bool) (F:Nat->PV) (L:Nat->Blk) (ps:List Prop) (as0 bs:List Nat) (r:VV),chkV n all order listed=true->runV tb xs all order F L ps as0 bs=some r->AllP r.ps->r.as0=r.bs ->
   AllP ps/\as0=bs/\(Hv P n N H0 Q xs all fuel (lst listed order) ks ⟨r.F,r.L⟩->Hv P n N H0 Q xs all (fuel+order.length) listed ks ⟨F,L⟩)
 |[],fuel,listed,F,L,ps,as0,bs,r,_,h,hp,he=>by
   simp only[runV,Gu_,It_,Option.some.injEq] at h
   subst h
   exact⟨hp,he,id⟩
 |i::q,fuel,listed,F,L,ps,as0,bs,r,hc,h,hp,he=>by
   simp only[chkV,Bool.and_eq_true] at hc
   obtain⟨hc1,hc2⟩:=hc
   have ih:=Qp_ ht (xs:=xs) q fuel (listed.setIfInBounds i true)
   simp only[runV] at h
   split at h
   . rename_i o ho
     rw[ho] at hc1
     split at h
     . rename_i d hd
       split at h
       . rename_i v0 ps0 lk0 hv
         split at h
         . rename_i hlk
           split at h
           . rename_i hlo
             have hck:(rdB all listed i&&apB n all listed i o&&Nat.blt d n&&nosB o.op)=true:=by simpa [dstB,hd] using hc1
             split at h
             . rw[Ii_,H5_] at h
               obtain⟨h1,h2,h3⟩:=ih _ _ _ _ _ r hc2 h hp he
               obtain⟨h4,h5⟩:=Ea_ h1
               exact⟨h4,h2,λx=>sv_v ht ho hd hck hv h5 (λy hy=>by cases hy) hlk (L7_ hlo) (h3 x)⟩
             . rename_i j a b
               rw[Ii_,H5_] at h
               obtain⟨h1,h2,h3⟩:=ih _ _ _ _ _ r hc2 h hp he
               obtain⟨h4,h5⟩:=Ea_ h1
               simp only[List.cons.injEq] at h2
               exact⟨h4,h2.2,λx=>sv_v ht ho hd hck hv h5 (λy hy=>by cases hy;exact h2.1) hlk (L7_ hlo) (h3 x)⟩
           . cases h
         . cases h
       . cases h
     . cases h
   . cases h
theorem gov {tb:Tb} (ht:tbB P tb=true) (order:List Nat) (f:Nat) {xs:Option (List Nat)} {fuel:Nat} {listed:Array Bool} {F F':Nat->PV} {L L':Nat->Blk} {ps:List Prop} {as0 bs:List Nat} (hf:fuel=f+order.length) (hc:chkV n all order listed=true) (h:runV tb xs all order F L [] [] []=some ⟨F',L',ps,as0,bs⟩) (he:as0=bs) (hp:AllP ps) (next :Hv P n N H0 Q xs all f (lst listed order) ks ⟨F',L'⟩):Hv P n N H0 Q xs all fuel listed ks ⟨F,L⟩:=by
 subst hf;exact (Qp_ ht order f listed F L [] [] [] _ hc h hp he).2.2 next
theorem T5_ {G:Gb} {f:FuncId} {args:List PV} {res:PV} {H:Hp} {vs:List Value} {L:Ls} {w:World} (h:Fn P G f args res) (hg:G.p H) (hs:Sims H args vs) (hm:Mem N H L w):∃ v H',Sim H' res v:=by
 obtain⟨_,_,_,⟨v,H',_,h2,_⟩,_⟩:=h.run N H L w vs hg hs hm [];exact⟨v,H',h2⟩
theorem Q8_ {Lk:Ls} {Qq:Qt} {fuel i:Nat} {listed:Array Bool} {F:Fr} {H:Hp} {L:Ls} (hr:rdB all listed i=true) (hn:¬∃ w,Mem N H L w):Vw P n N all Lk Qq (fuel+1) listed F H L:=by
 refine⟨λe=>?_,λj hj a w _ hm=>absurd ⟨w,hm⟩ hn⟩;simp[rdB,e] at hr
theorem vcall {xs:Option (List Nat)} {fuel:Nat} {listed:Array Bool} {f:FuncId} {args:List PV} {res:PV} {as0:Array Operand} {ats:Array TypeId} (i:Nat) (hi:nth all i=some ⟨some d, .call ⟨.value x,as0,ats⟩,ty,pos,af,none⟩) (hck:(rdB all listed i&&apB n all listed i ⟨some d, .call ⟨.value x,as0,ats⟩,ty,pos,af,none⟩&&Nat.blt d n&&nosB (.call ⟨.value x,as0,ats⟩))=true) (h:Fn P H0.g f args res) (hf:res.flat=true) (ha:argsP s.F x as0.toList=some (f,args))
   (k:res.wf->Hv P n N H0 Q xs all fuel (listed.setIfInBounds i true) ks ⟨updp s.F d res,s.L⟩):Hv P n N H0 Q xs all (fuel+1) listed ks s:=by
 intro F H L Lk hab hL;by_cases hw:∃ w,Mem N H L w;obtain⟨w,hm⟩:=hw;rw[Cn_] at hi;obtain⟨vs,h1,h2⟩:=Gk_ (ats:=ats) hab.f ha h.cb;obtain⟨v,H',hv⟩:=T5_ h hab.g h1 hm;exact vw_qc i hi hck (λ_ _ q=>by cases q) (h.pr hf hab.g h1 hv) h2 (k hv.wf _ _ _ _ (hab.put d ((Sim.flat_any hf hv).simT h.no)) hL)
 exact yQ
theorem vcallg {xs:Option (List Nat)} {fuel:Nat} {listed:Array Bool} {f:FuncId} {args:List PV} {res:PV} {as0:Array Operand} {ats:Array TypeId} {j:Nat} {want g:Bool} (i:Nat) (hi:nth all i=some ⟨some d, .call ⟨.value x,as0,ats⟩,ty,pos,af,some (j,want)⟩) (hck:(rdB all listed i&&apB n all listed i ⟨some d, .call ⟨.value x,as0,ats⟩,ty,pos,af,some (j,want)⟩&&Nat.blt d n&&nosB (.call ⟨.value x,as0,ats⟩))=true) (hg:gOp s all j want=some g) (h:g=true->Fn P H0.g f args res) (hf:res.flat=true) (ha:argsP (strG (Ek_ as0.toList) s.F) x as0.toList=some (f,args)) (hc:AllP (Ey_ s.F g (Ek_ as0.toList) [])) (hno:C1_ s.F (Ek_ as0.toList)=true)
   (k:(g=true->res.wf)->Hv P n N H0 Q xs all fuel (listed.setIfInBounds i true) ks ⟨updp s.F d (.gv g res),s.L⟩):Hv P n N H0 Q xs all (fuel+1) listed ks s:=by
 intro F H L Lk hab hL;by_cases hw:∃ w,Mem N H L w
 . obtain⟨w,hm⟩:=hw
   rw[Cn_] at hi
   obtain⟨c,b,hy,hge⟩:=L3_ hab hg
   have hge2:g=(c&&(b==want)):=hge.trans Jw_.symm
   cases hgv:g with
   |false=>
     have hcf:(c&&(b==want))=false:=by rw[<- hge2,hgv]
     refine vgp (c:=c) (b:=b) (v:=undef) (f:=f) (args:=#[]) i hi hck (λ_ _ q=>by cases q) hy (λe=>by rw[hcf] at e;cases e) (λe=>by rw[hcf] at e;cases e) (k (λe=>by rw[hgv] at e;cases e) _ _ _ _ (hab.put d ?_) hL)
     rw[<- hge2,hgv]
     exact Sim.gvf
   |true=>
     have hF:=h hgv
     obtain⟨vs,h1,h2⟩:=Gk_ (ats:=ats) (Ho_ hab.f (λt ht c v e=>(Dd_ hc).2 t ht c v e hgv) (C2_ hno)) ha hF.cb
     obtain⟨v,H',hv⟩:=T5_ hF hab.g h1 hm
     refine vgp (c:=c) (b:=b) (v:=v) i hi hck (λ_ _ q=>by cases q) hy (λ_=>hF.pr hf hab.g h1 hv) (λ_=>h2) (k (λ_=>hv.wf) _ _ _ _ (hab.put d ?_) hL)
     rw[<- hge2,hgv]
     exact Sim.gvt (Sim.flat_any hf hv)
 exact yQ
theorem ve {xs:List Nat} {fuel:Nat} {listed:Array Bool} {o:Oper} {j:Option Nat} (i:Nat) (hi:nth all i=some o) (hr:Region.ready .any all.toArray listed=[i]) (hj:(match j with|none=>true|some j=>memB xs j)=true) (h:E1 P n N H0 all o j s (λs'=>Hv P n N H0 Q (some xs) all fuel (listed.setIfInBounds i true) ks s')):Hv P n N H0 Q (some xs) all (fuel+1) listed ks s:=by
 intro F H L Lk ha hL;rw[Cn_] at hi;have hle:∀ L':Ls,(∀ i,j≠some i->L' i=L i)->LkR (some xs) Lk L':=λL' hL' i=>by
   rw[hL i]
   cases e:memB xs i with
   |true=>rfl
   |false=>
     refine (hL' i λq=>?_).symm
     subst q
     simp only at hj
     rw[e] at hj;cases hj
 refine vw_e i hi hr ((h F H L ha).imp λF' H' L' ⟨h1,h2,s',h3,h4⟩=>⟨⟨h1,λi x hx=>?_⟩,h4 F' H' L' Lk h3 (hle L' h2)⟩);have :=hle L' h2 i;rw[this] at hx
 cases e:memB xs i with
 |true=>rw[e] at hx;cases hx
 |false=>rw[e] at hx;exact hx
end Go.SW
namespace Go.SW
variable {P:Program} {n:Nat} {N:Rest} {H0:Env} {all rest:List Oper} {Q:Qs} {ks:List Kt} {s:St} {T T' T2 ty d:Nat} {pos:String} {af:Array Edge} {x y z:Operand} {K:St->Prop} {op:Op} {p:PV}
def Qy (P:Program) (N:Rest) (H0:Env) (s:St) (op:Op) (ty:TypeId) (p:PV):Prop:=
 ∀ F H L,Abs H0 s F H L->∃ val,SimT s.L H p val/\∀ H' L',HLe H H'->Lo P N op ty F H' L' val
theorem q1 (h:Qy P N H0 s op ty p) (hd:Nat.blt d n=true) (k:p.wf->Hd P n N H0 Q (.ops all rest) ks ⟨updp s.F d p,s.L⟩):Hd P n N H0 Q (.ops all (⟨some d,op,ty,pos,af,none⟩::rest)) ks s:=λF H L ha=>by
 obtain⟨val,h1,h2⟩:=h F H L ha
 exact ow1 (Fk_ hd (h2 H L (.refl H)) (k h1.sim.wf _ _ _ (ha.put d h1)))
theorem eqy (h:Qy P N H0 s op ty p) (hd:Nat.blt d n=true) (k:p.wf->K ⟨updp s.F d p,s.L⟩):E1 P n N H0 all ⟨some d,op,ty,pos,af,none⟩ none s K:=λF H L ha=>by
 obtain⟨val,h1,h2⟩:=h F H L ha
 exact Fk_ hd (h2 H L (.refl H)) ⟨.refl H,λ_ _=>rfl,_,ha.put d h1,k h1.sim.wf⟩
theorem vq {xs:Option (List Nat)} {fuel:Nat} {listed:Array Bool} (i:Nat) (h:Qy P N H0 s op ty p) (hi:nth all i=some ⟨some d,op,ty,pos,af,none⟩) (hck:(rdB all listed i&&apB n all listed i ⟨some d,op,ty,pos,af,none⟩&&Nat.blt d n&&nosB op)=true) (hl:C0_ op=false) (k:p.wf->Hv P n N H0 Q xs all fuel (listed.setIfInBounds i true) ks ⟨updp s.F d p,s.L⟩):Hv P n N H0 Q xs all (fuel+1) listed ks s:=by
 intro F H L Lk ha hL;rw[Cn_] at hi;obtain⟨val,h1,h2⟩:=h F H L ha;exact vw_q i hi hck (Nb_ hL (.inl hl)) (λH' L' hh _=>h2 H' L' hh) (k h1.sim.wf _ _ _ _ (ha.put d h1) hL)
def strS (ts:List Nat) (s:St):St:=⟨strG ts s.F,s.L⟩
theorem Nv_ {g:Bool} {ts:List Nat} {F:Fr} {H:Hp} {L:Ls} (ha:Abs H0 s F H L) (hc:AllP (Ey_ s.F g ts [])) (hno:C1_ s.F ts=true) (hg:g=true):Abs H0 (strS ts s) F H L:=
 ⟨ha.le,ha.g,Ho_ ha.f (λt ht c v e=>(Dd_ hc).2 t ht c v e hg) (C2_ hno),ha.l⟩
theorem q1g {j:Nat} {want g:Bool} (ts:List Nat) (hg:gOp s all j want=some g) (h:g=true->Qy P N H0 (strS ts s) op ty p) (hc:AllP (Ey_ s.F g ts [])) (hno:C1_ s.F ts=true) (hpo:p.noOsl=true) (hd:Nat.blt d n=true) (k:(g=true->p.wf)->Hd P n N H0 Q (.ops all rest) ks ⟨updp s.F d (.gv g p),s.L⟩):Hd P n N H0 Q (.ops all (⟨some d,op,ty,pos,af,some (j,want)⟩::rest)) ks s:=λF H L ha=>by
 obtain⟨c,b,hy,hge⟩:=L3_ ha hg
 refine ow_gd hy hd (λe=>?_) (λe=>?_)
 . have hgt:=hge.trans e
   obtain⟨val,h1,h2⟩:=h hgt F H L (Nv_ ha hc hno hgt)
   refine Fk_ hd (h2 H L (.refl H)) (k (λ_=>h1.sim.wf) _ _ _ (ha.put d ?_))
   rw[hgt];exact Sim.gvt h1.sim
 . have hgf:=hge.trans e
   refine k (λe=>by rw[hgf] at e;cases e) _ _ _ (ha.put d ?_)
   rw[hgf];exact Sim.gvf
theorem vqg {xs:Option (List Nat)} {fuel:Nat} {listed:Array Bool} {j:Nat} {want g:Bool} (i:Nat) (ts:List Nat) (hi:nth all i=some ⟨some d,op,ty,pos,af,some (j,want)⟩) (hck:(rdB all listed i&&apB n all listed i ⟨some d,op,ty,pos,af,some (j,want)⟩&&Nat.blt d n&&nosB op)=true) (hl:C0_ op=false) (hg:gOp s all j want=some g) (h:g=true->Qy P N H0 (strS ts s) op ty p) (hc:AllP (Ey_ s.F g ts [])) (hno:C1_ s.F ts=true)
   (k:(g=true->p.wf)->Hv P n N H0 Q xs all fuel (listed.setIfInBounds i true) ks ⟨updp s.F d (.gv g p),s.L⟩):Hv P n N H0 Q xs all (fuel+1) listed ks s:=by
 intro F H L Lk ha hL;rw[Cn_] at hi;obtain⟨c,b,hy,hge⟩:=L3_ ha hg;have hge2:g=(c&&(b==want)):=hge.trans Jw_.symm
 cases hgv:g with
 |false=>
   have hcf:(c&&(b==want))=false:=by rw[<- hge2,hgv]
   refine vgq (c:=c) (b:=b) (v:=undef) i hi hck (Nb_ hL (.inl hl)) (λ_ _ q=>by cases q) hy (λe=>by rw[hcf] at e;cases e) (k (λe=>by rw[hgv] at e;cases e) _ _ _ _ (ha.put d ?_) hL)
   rw[<- hge2,hgv];exact Sim.gvf
 |true=>
   obtain⟨val,h1,h2⟩:=h hgv F H L (Nv_ ha hc hno hgv)
   refine vgq (c:=c) (b:=b) (v:=val) i hi hck (Nb_ hL (.inl hl)) (λ_ _ q=>by cases q) hy (λ_ H' L' hh _=>h2 H' L' hh) (k (λ_=>h1.sim.wf) _ _ _ _ (ha.put d ?_) hL)
   rw[<- hge2,hgv];exact Sim.gvt h1.sim
theorem Abs.ev {F:Fr} {H:Hp} {L:Ls} (ha:Abs H0 s F H L) {x:Operand} {p:PV} (hx:evP s.F x=p):SimT s.L H p (ev F x):=by
 have h1:=A5_ ha.f x;unfold Ok1 at h1
 rwa [hx] at h1
theorem u8_get {H:Hp} {a:Bs} {m:Nat}:Sim H (.int .u8 ((a.getD m 0).toNat:Int)) (.int .u8 ((a.getD m 0).toNat:Int)):=by
 have :=(a.getD m 0).toNat_lt;have e1:IntKind.min .u8=0:=rfl;have e2:IntKind.max .u8=255:=rfl;exact .int xI xI
theorem sidx {tb:Tb} {ti:TI} {a:Bs} {k:IntKind} {i:Int} (ht:tbB P tb=true) (m:Nat) (hx:evP s.F x = .str a) (hy:evP s.F y = .int k i) (hti:lkT tb T=some ti) (htk:ti.k = .str) (hi:i=m) (hm:m<a.length):Qy P N H0 s (.index T x y) ty (.int .u8 (a.getD m 0).toNat):=λF H L ha=>by
 have h1:=(ha.ev hx).sim
 have h2:=(ha.ev hy).sim
 exact⟨_,u8_get,λH' L' _=>Fq_ m h1.inv_str.1 h2.inv_int.1 ((Bl_ ht hti).str htk) hi hm⟩
theorem qidx {α:Type} {tb:Tb} {ti te:TI} {e:TypeId} {enc:α->List PV} {xs:List α} {kk:IntKind} {i:Int} (ht:tbB P tb=true) (m:Nat) {a:α} (hx:evP s.F x = .sl enc xs) (hy:evP s.F y = .int kk i) (hm:i=m) (ha:xs[m]? = some a) (hti:lkT tb T=some ti) (hk:ti.k = .slc e) (hte:lkT tb e=some te) (hsz:te.size=(enc a).length):Qy P N H0 s (.indexAddr T x y) ty (.el (enc a) 0):=λF H L hab=>by
 have h1:=(hab.ev hx).sim
 have h2:=(hab.ev hy).sim
 obtain⟨k0,hs,hb⟩:=h1.slh
 obtain⟨cs,hE,hat⟩:=hs.get ha
 have hsize:=(Bl_ ht hte).sz
 rw[hsz,hE.1] at hsize
 have hlt:m<xs.length:=by
   rcases Nat.lt_or_ge m xs.length with q|q
   . exact q
   . rw[List.getElem?_eq_none q] at ha;cases ha
 refine⟨_,Sim.simT (p:= .el (enc a) 0) ?_ Y,λH' L' hh=>J0_ Y h2.inv_int.1 hs.1 (hat.mono hh) ((Bl_ ht hti).slc hk) hsize hm hlt⟩
 have :=Sim.el (row:=enc a) (o:=0) hat hE.1 hE.2.1.2
 simpa [sPtr] using this
theorem lshi {α:Type} {tb:Tb} {ti te:TI} {e:TypeId} {enc:α->List PV} {xs:List α} {k:IntKind} {i:Int} (ht:tbB P tb=true) (m:Nat) (hx:evP s.F x = .sl enc xs) (hy:evP s.F y = .int k i) (hti:lkT tb T=some ti) (htk:ti.k = .slc e) (hte:lkT tb e=some te) (hw:∀ a,(enc a).length=te.size) (hi:i=m) (hm:m<=xs.length):Qy P N H0 s (.slice T x none (some y) none) ty (.sl enc (xs.take m)):=λF H L hab=>by
 have h1:=(hab.ev hx).sim
 have h2:=(hab.ev hy).sim
 obtain⟨k0,hs,hb⟩:=h1.slh
 have hsz:=(Bl_ ht hte).sz
 obtain⟨⟨a,c,hv,hc⟩,hall⟩:=hs
 have hs':SlH (RowE enc te.size) te.size H (.slice a xs.length c) xs:=by
   refine⟨⟨a,c,rfl,hc⟩,λm hm=>?_⟩
   obtain⟨cs,hE,hat⟩:=hall m hm
   have e:k0=te.size:=by rw[<- hE.1,hw]
   subst e
   rw[hv] at hat
   exact⟨cs,hE,hat⟩
 have hr:=Sr_ hs' hm
 have hlen:m=(xs.take m).length:=by simp;omega
 exact⟨_,Sim.simT (Sim.of_slh hr xI) Y,λH' L' _=>G4_ m hv h2.inv_int.1 ((Bl_ ht hti).slc htk) hsz hi (Nat.le_trans hm hc)⟩
theorem saeq {ps qs:List PV} {r:Bool} (hx:evP s.F x = .agg ps) (hy:evP s.F y = .agg qs) (hm:P.eqGuardType P.depth T=false) (h:∀ H vs us,Sims H ps vs->Sims H qs us->EqV P 10000 T (.agg vs.toArray) (.agg us.toArray) r):Qy P N H0 s (.binOp .eql T x y T') ty (.bool r):=λF H L ha=>by
 obtain⟨vs,e1,h1⟩:=(ha.ev hx).sim.inv_agg
 obtain⟨us,e2,h2⟩:=(ha.ev hy).sim.inv_agg
 exact⟨.bool r,Sim.bool,λH' L' _=>lo_aeql e1 e2 hm (h H vs us h1 h2)⟩
theorem sw_own {α:Type} {t k e:Nat} {c:Code} (i:Nat) (enc:α->List PV) (hF:s.F t = .val (.slice none 0 0)) (hno:s.L i = .no) (kk:Hd P n N H0 Q (.code c) ks ⟨updp (Ft_ i s.F) t (.osl i),lups (C6_ i s.L) i (.arr (.slice none 0 0) k e enc [])⟩):Hd P n N H0 Q (.code c) ks s:=λF H L ha=>by
 have hL0:Abs H0 s F H (lupd L i none):=⟨ha.le,ha.g,ha.f,λj=>by
   by_cases e:j=i
   . subst e;rw[hno];trivial
   . rw[C_ _ _ _ _ e];exact ha.l j⟩
 have h1:=(ha.f t).sim
 rw[hF] at h1
 have h2:=hL0.turn i (B:= .arr (.slice none 0 0) k e enc []) (x:=none) ⟨[],Ge_,Mt_,by simp⟩
 have e2:lupd (lupd L i none) i none=lupd L i none:=by funext j;simp only[lupd];cases Nat.beq j i<;>rfl
 rw[e2] at h2
 refine Jp_ (λw hm=>hm.clear i) (kk F H _ ⟨h2.le,h2.g,λq=>?_,h2.l⟩)
 by_cases e:q=t
 . subst e;simp only[Hp_,SimT,Bh_];exact h1.inv_val
 . simp only[Lk_ _ _ _ _ e];exact h2.f q
end Go.SW
namespace Go.SW
variable {P:Program} {n:Nat} {N:Rest} {H0:Env} {all rest:List Oper} {Q:Qs} {ks:List Kt} {s:St} {T T' T2 ty d:Nat} {pos:String} {af:Array Edge} {x y z:Operand} {K:St->Prop} {op:Op} {p:PV}
theorem qconv {tb:Tb} {ti td:TI} {k k':IntKind} {a:Int} (ht:tbB P tb=true) (hx:evP s.F x = .int k a) (hti:lkT tb T=some ti) (htd:lkT tb T'=some td) (hk:td.k = .int k') (h:k'.min<=a/\a<=k'.max):Qy P N H0 s (.convert T T' x) ty (.int k' a):=λF H L ha=>
 ⟨_,Sim.int h.1 h.2,λ_ _ _=>Fi_ (ha.ev hx).sim.inv_int.1 (Bl_ ht hti).isSome ((Bl_ ht htd).int hk) h⟩
end Go.SW
namespace Go.SW
variable {P:Program} {n:Nat} {N:Rest} {H0:Env} {Q:Qs} {ks:List Kt} {s:St}
theorem cndT {c:Operand} {x y:Code} {b:Bool} (hc:evP s.F c = .bool b) (hb:b=true) (k:Hd P n N H0 Q (.code x) ks s):Hd P n N H0 Q (.code (.cond c x y)) ks s:=cnd hc (λ_=>k) (λe=>by rw[hb] at e;cases e)
theorem cndF {c:Operand} {x y:Code} {b:Bool} (hc:evP s.F c = .bool b) (hb:b=false) (k:Hd P n N H0 Q (.code y) ks s):Hd P n N H0 Q (.code (.cond c x y)) ks s:=cnd hc (λe=>by rw[hb] at e;cases e) (λ_=>k)
variable {tb:Tb} {rs:List ResultVar} {res p q r:PV} {as0 bs:List Nat}
theorem rt1 (h:I9_ tb s rs=some ([p],as0,bs)) (he:as0=bs) (hp:PLe p res):Hd P n N H0 (rtK tb rs res) (.ex .ret) [] s:=rt h he hp
def i64c (z:Int):List PV:=[.int .i64 z]
def slc {α:Type} (enc:α->List PV) (l:List α):List PV:=[.sl enc l]
end Go.SW
namespace Go.SW
variable {P:Program} {n:Nat} {N:Rest} {H0:Env} {all rest:List Oper} {Q:Qs} {ks:List Kt} {s:St}
theorem Abs.freeze {i t b b' off T0:Nat} {cs:List PV} {F:Fr} {H H':Hp} {L:Ls} (ha:Abs H0 s F H L) (hF:s.F t = .own i b off) (hL:s.L i = .box b' T0 cs) (hbb:b'=b) (hn:Ay_ cs=true) (hl:HLe H H') (hH:∀ b o,L i=some (b,o)->H' b=some o):Abs H0 ⟨updp s.F t (.el cs off),lups s.L i .no⟩ F H' (lupd L i none):=by
 subst hbb;have h1:=ha.l i;rw[hL] at h1;obtain⟨vs,hLi,hs⟩:=h1;have h2:=hH _ _ hLi;have h3:=(ha.f t).sim;rw[hF] at h3;have hat:SlAt H' (.slice (some ⟨b',0,none⟩) 1 1) vs.length 0 vs:=⟨b',0,1,1,vs.toArray,T0,(0,0),rfl,h2,rfl,λj _=>by simp⟩;have hel:Sim H' (.el cs off) (F t):=by
   have :=Sim.el (row:=cs) (o:=off) hat hs.1.symm (λj p v hp hv=>((hs.sims.mono hl).2 j p v hp hv))
   rw[h3.inv_own]
   simpa [sBlk,sOff] using this
 have hb:=(ha.mono hl).turnB (B:= .no) i Z (x:=none) Z;refine⟨hb.le,hb.g,λq=>?_,hb.l⟩;by_cases e:q=t;subst e;simp only[Hp_];exact hel.simT Y;simp only[Lk_ _ _ _ _ e];exact hb.f q
theorem freeze {i t b b' off T0:Nat} {cs:List PV} (hF:s.F t = .own i b off) (hL:s.L i = .box b' T0 cs) (hbb:b'=b) (hn:Ay_ cs=true) (k:Hd P n N H0 Q (.ops all rest) ks ⟨updp s.F t (.el cs off),lups s.L i .no⟩):Hd P n N H0 Q (.ops all rest) ks s:=by
 intro F H L ha;exact Ml_ i Y λH' hl hg=>k _ _ _ (ha.freeze hF hL hbb hn hl hg)
end Go.SW
namespace Go.SW
variable {P:Program} {n:Nat} {N:Rest} {H0:Env} {s:St} {tb:Tb} {rs:List ResultVar} {res p q0:PV} {b b' T:Nat} {post q:List PV} {as0 bs:List Nat}
end Go.SW
namespace Go.SW
variable {P:Program} {n:Nat} {N:Rest} {H0:Env} {all rest:List Oper} {Q:Qs} {ks:List Kt} {s:St}
end Go.SW
namespace Go.SW
theorem Ms_ {z:Int} (h:-9223372036854775808<=z/\z<=9223372036854775807):IntKind.min .i64<=z/\z<=IntKind.max .i64:=h
theorem rg_u32 {z:Int} (h:0<=z/\z<=4294967295):IntKind.min .u32<=z/\z<=IntKind.max .u32:=h
theorem rg_u64 {z:Int} (h:0<=z/\z<=18446744073709551615):IntKind.min .u64<=z/\z<=IntKind.max .u64:=h
theorem wr_u8 (z:Int):0<=IntKind.wrap .u8 z/\IntKind.wrap .u8 z<=255:=by
 exact yR
theorem Mz_ (z:Int):0<=IntKind.wrap .u32 z/\IntKind.wrap .u32 z<=4294967295:=by
 exact yR
def letter (c:Int):Bool:=decide (97<=c) && decide (c<=122) || decide (48<=c) && decide (c<=57) || decide (c=45) || decide (c=95)
def plain (s:Bs):Bool:=s.all λc=>letter c.toNat
def Dj_ (s:Bs):Int:=if s=[] then 15 else if (16:Int)<s.length then 5 else if plain s then 0 else 4
theorem u8r (c:UInt8):0<=(c.toNat:Int)/\(c.toNat:Int)<=255:=by have :=c.toNat_lt;omega
theorem Oe_ {s:Bs} {k:Nat} (h:k<s.length):s.drop k=s.getD k 0::s.drop (k+1):=by
 rw[List.drop_eq_getElem_cons h];simp[List.getD_eq_getElem?_getD,h]
structure Out where
 s:Bs
 err:Int
def Out.cells (o:Out):List Value:=[str o.s, .int .i64 o.err]
structure In where
 s:Bs
 err:Int
def In.cells (i:In):List Value:=[str i.s, .int .i64 i.err]
def numB:Nat->Nat->Bs
 |0,_=>[]
 |k+1,n=>UInt8.ofNat (n/256 ^ k)::numB k n
def numK (bytes:Int):Nat:=(min (max bytes 0) 8).toNat
def Co_ (o:Out) (n bytes:Int):Out:=⟨o.s++numB (numK bytes) n.toNat,o.err⟩
def T1_ (o:Out) (s:Bs):Out:=⟨o.s++s,o.err⟩
def D2_ (o:Out) (s:Bs):Out:=if (65535:Int)<s.length then (if o.err=0 then ⟨o.s,5⟩ else o) else T1_ (Co_ o s.length 2) s
theorem wrap8r (z:Int):0<=IntKind.wrap .u8 z/\IntKind.wrap .u8 z<=255:=by
 simp[IntKind.wrap,IntKind.bits,IntKind.signed];omega
theorem byte_of {n:Int} {j:Nat} (hn:0<=n) (hj:1<=j) (hj8:j<=8):UInt8.ofNat (IntKind.wrap .u8 (n.fdiv (2 ^ (min (8*((j:Int)-1)).toNat IntKind.u64.bits)))).toNat=UInt8.ofNat (n.toNat/256 ^ (j-1)):=by
 obtain⟨m,rfl⟩:=Int.eq_ofNat_of_zero_le hn;obtain⟨q,rfl⟩:∃ q,j=q+1:=⟨j-1,by omega⟩;have e1:(8*(((q+1:Nat):Int)-1)).toNat=8*q:=by omega
 have eb:IntKind.u64.bits=64:=rfl;have e2:min (8*q) IntKind.u64.bits=8*q:=by rw[eb];omega
 have e3:((2:Int) ^ (8*q))=((256 ^ q:Nat):Int):=by
   rw[Int.pow_mul];simp
 rw[e1,e2,e3,Int.toNat_natCast,Nat.add_sub_cancel];have e4:((m:Int).fdiv ((256 ^ q:Nat):Int))=((m/256 ^ q:Nat):Int):=by
   rw[Int.fdiv_eq_ediv_of_nonneg _ (Int.natCast_nonneg _)];simp
 rw[e4];generalize m/256 ^ q=z
 apply UInt8.toNat_inj.1
 simp[IntKind.wrap,IntKind.bits,IntKind.signed,UInt8.toNat_ofNat']
 try omega
theorem Re_ {e n:Nat} {v:Value} {en:Option (Nat×Obj)} {bs:Bs} {z:Int} (h:OwnV 1 e v en n (bs.map u8v++[.int .u8 z])) (hn:n=bs.length+1) (hz:0<=z/\z<=255):OwnV 1 e v en (bs++[UInt8.ofNat z.toNat]).length ((bs++[UInt8.ofNat z.toNat]).map u8v):=
 Qb_ h (by simp[hn]) (by simp[u8v_of hz.1 hz.2])
theorem Gb_:∀ (k n:Nat),(numB k n).length=k
 |0,_=>rfl
 |k+1,n=>by simp[numB,Gb_ k n]
def dots:Bs->List Bs
 |[]=>[[]]
 |c::r=>if c=46 then []::dots r else match dots r with
   |[]=>[[c]]
   |w::t=>(c::w)::t
def wordsOf (s:Bs):List Bs:=if s=[] then [] else dots s
theorem Hm_:∀ s:Bs,Lib.splitK [46] 0 (Lib.count s [46]) s=dots s
 |[]=>by rw[Lib.count_miss (by simp[Lib.index])];rfl
 |b::l=>by
   have ih:=Hm_ l
   by_cases hb:b=46
   . subst hb
     rw[Lib.count_cons_eq,Nat.add_comm]
     have hix:Lib.index (46::l) [46]=0:=by rw[Lib.index];simp[List.isPrefixOf]
     unfold Lib.splitK dots
     rw[hix]
     simp[ih]
   . rw[Lib.count_cons_ne _ _ _ hb]
     have hp:([46]:List UInt8).isPrefixOf (b::l)=false:=by simp[List.isPrefixOf,Ne.symm hb]
     have hix:Lib.index (b::l) [46] = if Lib.index l [46] == -1 then -1 else Lib.index l [46]+1:=by rw[Lib.index,hp];simp
     unfold dots
     rw[if_neg hb,<- ih]
     cases hc:Lib.count l [46] with
     |zero=>rfl
     |succ k=>
       unfold Lib.splitK
       rw[hix]
       by_cases hm:Lib.index l [46] = -1
       . rw[Lib.count_miss hm] at hc;cases hc
       . have hge:=Lib.index_ge l [46]
         obtain⟨j,hj⟩:∃ j:Nat,Lib.index l [46]=j:=⟨(Lib.index l [46]).toNat,by omega⟩
         exact yK
theorem Hk_ (s:Bs):(Lib.splitB ⟨#[46]⟩ 0 (Lib.countB ⟨s.toArray⟩ ⟨#[46]⟩) ⟨s.toArray⟩).map Value.string=(dots s).map str:=by
 have h:=Lib.splitB_data ⟨#[46]⟩ 0 (Lib.countB ⟨s.toArray⟩ ⟨#[46]⟩) ⟨s.toArray⟩;have hc:Lib.countB ⟨s.toArray⟩ ⟨#[46]⟩=Lib.count s [46]:=by simp[Lib.countB]
 rw[hc] at h ⊢;have e:=Hm_ s;exact yP
theorem Nm_ (s:Bs):Lib.countB ⟨s.toArray⟩ ⟨#[46]⟩+1=(dots s).length:=by
 have h:=congrArg List.length (Hk_ s);rw[List.length_map,List.length_map,Lib.splitB_all ⟨#[46]⟩ xL 0 _ _ rfl] at h;exact h
theorem Fe_:∀ (s w:Bs),w∈dots s->w.length<=s.length
 |[],w,h=>by simp[dots] at h;simp[h]
 |c::r,w,h=>by
   unfold dots at h
   split at h
   . rcases List.mem_cons.1 h with rfl|h
     . simp
     . have :=Fe_ r w h;simp;omega
   . split at h
     . simp at h;subst h;simp
     . rename_i x t e
       have ih:=Fe_ r
       rw[e] at ih
       rcases List.mem_cons.1 h with rfl|h
       . have :=ih x xK;simp;omega
       . have :=ih w (by simp[h]);simp;omega
def isBad (besides:List Bs) (w:Bs):Bool:=!(besides.contains w)&&(w==[]||!plain w)
def keyE (besides:List Bs) (s:Bs):Int:=if (64:Int)<s.length then 5 else if (wordsOf s).any (isBad besides) then 4 else 0
structure Pair where
 key:Bs
 kind:Int
 num:Int
 text:Bs
deriving DecidableEq
def Pair.cells (p:Pair):List Value:=[str p.key, .int .u8 p.kind, .int .i64 p.num,str p.text]
def Pair.wf (p:Pair):Prop:=(0<=p.kind/\p.kind<=255)/\(-9223372036854775808<=p.num/\p.num<=9223372036854775807)/\p.key.length<=9223372036854775807/\p.text.length<=9223372036854775807
def Pair.zero:Pair:=⟨[],0,0,[]⟩
def findP (h:List Pair) (key:Bs):Option Pair:=h.find? λp=>p.key==key
def Qd_ (p:Pair) (ahead:List Pair):Int:=
 if Dj_ p.key≠0 then Dj_ p.key else if 2<p.kind then 8 else if p.kind=1/\(64:Int)<p.text.length then 5 else if p.kind=2/\p.num≠0/\p.num≠1 then 7 else if p.kind=1/\p.num≠0\/p.kind≠1/\p.text≠[] then 4 else if (findP ahead p.key).isSome then 9 else 0
def Tg_:List Pair->List Pair->Int
 |_,[]=>0
 |ahead,p::r=>if Qd_ p ahead≠0 then Qd_ p ahead else Tg_ (ahead++[p]) r
def Oz_ (h:List Pair):Int:=if (8:Int)<h.length then 6 else Tg_ [] h
def pairOut (o:Out) (p:Pair):Out:=
 if p.kind=0 then Co_ (Co_ (D2_ o p.key) p.kind 1) (IntKind.wrap .u64 p.num) 8
 else if p.kind=1 then D2_ (Co_ (D2_ o p.key) p.kind 1) p.text
 else if p.kind=2 then Co_ (Co_ (D2_ o p.key) p.kind 1) (IntKind.wrap .u64 p.num) 1
 else Co_ (D2_ o p.key) p.kind 1
def headOut (h:List Pair):Out:=h.foldl pairOut (Co_ ⟨[],0⟩ h.length 1)
def Oy_ (h:List Pair):Bs:=if Oz_ h=0 then (headOut h).s else []
structure Mail where
 id:Int
 Dv_:Bs
 key:Bs
 head:List Pair
 body:Bs
 due:Int
 hops:Int
deriving DecidableEq
def Mail.cells (m:Mail) (a:Option Addr) (c:Nat):List Value:=[.int .u64 m.id,str m.Dv_,str m.key, .slice a m.head.length c,str m.body, .int .u64 m.due, .int .u8 m.hops]
def Mail.wf (m:Mail):Prop:=(0<=m.id/\m.id<=18446744073709551615)/\(0<=m.due/\m.due<=18446744073709551615)/\(0<=m.hops/\m.hops<=255)/\m.Dv_.length<=9223372036854775807/\m.key.length<=9223372036854775807/\m.body.length<=9223372036854775807/\m.head.length<=9223372036854775807
structure Reply where
 channel:Int
 kind:Int
 n:Int
 m:Int
 yes:Bool
 name:Bs
 A0_:Mail
deriving DecidableEq
def Reply.cells (r:Reply) (a:Option Addr) (c:Nat):List Value:=[.int .u8 r.channel, .int .u8 r.kind, .int .u64 r.n, .int .u64 r.m, .bool r.yes,str r.name, .int .u64 r.A0_.id,str r.A0_.Dv_,str r.A0_.key, .slice a r.A0_.head.length c,str r.A0_.body, .int .u64 r.A0_.due, .int .u8 r.A0_.hops]
def Reply.wf (r:Reply):Prop:=(0<=r.channel/\r.channel<=255)/\(0<=r.kind/\r.kind<=255)/\(0<=r.n/\r.n<=18446744073709551615)/\(0<=r.m/\r.m<=18446744073709551615)/\r.name.length<=9223372036854775807/\r.A0_.wf
def GTab (H:Hp) (g:Nat) (zs:List Int):Prop:=∃ T fr,H g=some (.cells (zs.map (Value.int .u32)).toArray T fr)
theorem GTab.mono {H H':Hp} {g:Nat} {zs:List Int} (h:GTab H g zs) (hl:HLe H H'):GTab H' g zs:=by
 exact zQ
def laidT:List Int:=[0x00000000,0x1db71064,0x3b6e20c8,0x26d930ac,0x76dc4190,0x6b6b51f4,0x4db26158,0x5005713c,0xedb88320,0xf00f9344,0xd6d6a3e8,0xcb61b38c,0x9b64c2b0,0x86d3d2d4,0xa00ae278,0xbdbdf21c]
theorem tab_get {m:Nat} (h:m<16):(laidT.map (Value.int .u32)).toArray[m*1]? = some (.int .u32 (laidT.getD m 0)):=by
 have hl:m<laidT.length:=h;simp[List.getD_eq_getElem?_getD,hl]
abbrev Q9_ (a b:Int):Int:=IntKind.wrap .u32 ((BitVec.ofInt (IntKind.bits .u32) a ^^^ BitVec.ofInt (IntKind.bits .u32) b).toNat)
abbrev Nz_ (a b:Int):Int:=IntKind.wrap .u32 ((BitVec.ofInt (IntKind.bits .u32) a &&& BitVec.ofInt (IntKind.bits .u32) b).toNat)
theorem Lo_ (a:Int):(Nz_ a 15).toNat<16:=by
 have h1:(BitVec.ofInt (IntKind.bits .u32) a &&& BitVec.ofInt (IntKind.bits .u32) 15).toNat<=15:=by
   rw[BitVec.toNat_and];exact Nat.le_trans Nat.and_le_right xL
 unfold Nz_;generalize (BitVec.ofInt (IntKind.bits .u32) a &&& BitVec.ofInt (IntKind.bits .u32) 15).toNat=z at *;exact yR
def crc1 (r:Int):Int:=Q9_ (Int.fdiv r (2 ^ (min (4:Int).toNat (IntKind.bits .u32)))) (laidT.getD (Nz_ r 15).toNat 0)
def Rf_:Nat->Int->Int
 |0,r=>r
 |k+1,r=>Rf_ k (crc1 r)
def Im_ (r b:Int):Int:=Rf_ 2 (Q9_ r b)
structure Frame where
 channel:Int
 kind:Int
 body:Bs
deriving DecidableEq
def Frame.cells (f:Frame):List Value:=[.int .u8 f.channel, .int .u8 f.kind,str f.body]
def Frame.wf (f:Frame):Prop:=(0<=f.channel/\f.channel<=255)/\(0<=f.kind/\f.kind<=255)/\f.body.length<=9223372036854775807
def Frame.zero:Frame:=⟨0,0,[]⟩
variable {P:Program} {n:Nat} {N:Rest} {H0:Env} {s:St} {T ty:TypeId} {y:Operand}
end Go.SW
namespace Go.SW
variable {P:Program} {n:Nat} {N:Rest} {H0:Env} {all rest:List Oper} {Q:Qs} {ks:List Kt} {s:St} {T T' T2 ty d:Nat} {pos:String} {af:Array Edge} {x y z:Operand} {K:St->Prop} {op:Op} {p:PV}
end Go.SW
namespace Go.SW
variable {P:Program} {n:Nat} {N:Rest} {H0:Env} {s:St}
end Go.SW
namespace Go.SW
variable {P:Program} {n:Nat} {N:Rest} {H0:Env} {s:St} {ty:TypeId}
end Go.SW
namespace Go.SW
variable {P:Program} {n:Nat} {N:Rest} {H0:Env} {all:List Oper} {s:St} {K:St->Prop}
end Go.SW
namespace Go.SW
variable {P:Program} {n:Nat} {N:Rest} {H0:Env} {all rest:List Oper} {Q:Qs} {ks:List Kt} {s:St}
end Go.SW
namespace Go.SW
section
variable {α:Type} {P:Program} {n:Nat} {N:Rest} {F:Fr} {H:Hp} {L:Ls} {ops:List Oper} {T T' T2 ty d:TypeId} {x y z:Operand} {pos:String} {af:Array Edge} {K:Fr->Hp->Ls->Prop}
end
variable {P:Program} {n:Nat} {N:Rest} {H0:Env} {all rest:List Oper} {Q:Qs} {ks:List Kt} {s:St} {T T' T2 ty d:Nat} {pos:String} {af:Array Edge} {x y z:Operand} {K:St->Prop} {op:Op} {p:PV}
end Go.SW
namespace Go.SW
variable {P:Program} {n:Nat} {N:Rest} {H0:Env} {all rest:List Oper} {Q:Qs} {ks:List Kt} {s:St} {T T' T2 ty d:Nat} {pos:String} {af:Array Edge} {x y z:Operand} {K:St->Prop} {op:Op} {p:PV}
def Pl (P:Program) (f:FuncId) (args:Array Value) (H:Hp) (en:Option (Nat×Obj)) (R:Value->Hp->Option (Nat×Obj)->Prop):Prop:=
 ∀ N L w i,L i=en->Mem N H L w->Calls P f args w λe w'=>∃ v H' en',e = .returned v/\R v H' en'/\HLe H H'/\Mem N H' (lupd L i en') w'
end Go.SW
namespace Go.SW.V
open Go.SW
variable {P:Program} {n:Nat} {N:Rest} {H0:Env} {all rest:List Oper} {Q:Qs} {ks:List Kt} {fF:Nat->PV} {fL:Nat->Blk} {T T' T2 ty d:Nat} {pos:String} {af:Array Edge} {x y z:Operand} {K:St->Prop} {op:Op} {p:PV}
theorem call {all rest:List Oper} {Q:Qs} {ks:List Kt} {f:FuncId} {args:List PV} {res:PV} {x:Operand} {xs:Array Operand} {ats:Array TypeId} {ty d:Nat} {pos:String} {af:Array Edge} (h:Fn P H0.g f args res) (ha:argsP fF x xs.toList=some (f,args)) (hd:Nat.blt d n=true) (k:res.wf->Hd P n N H0 Q (.ops all rest) ks ⟨updp fF d res,fL⟩):Hd P n N H0 Q (.ops all (⟨some d, .call ⟨.value x,xs,ats⟩,ty,pos,af,none⟩::rest)) ks ⟨fF,fL⟩:=SW.call (s:=⟨fF,fL⟩) h ha hd k
theorem callg {all rest:List Oper} {Q:Qs} {ks:List Kt} {f:FuncId} {args:List PV} {res:PV} {x:Operand} {xs:Array Operand} {ats:Array TypeId} {ty d j:Nat} {want g:Bool} {pos:String} {af:Array Edge} (hg:gOp ⟨fF,fL⟩ all j want=some g) (h:g=true->Fn P H0.g f args res) (ha:argsP (strG (Ek_ xs.toList) fF) x xs.toList=some (f,args)) (hc:AllP (Ey_ fF g (Ek_ xs.toList) [])) (hno:C1_ fF (Ek_ xs.toList)=true) (hd:Nat.blt d n=true) (k:(g=true->res.wf)->Hd P n N H0 Q (.ops all rest) ks ⟨updp fF d (.gv g res),fL⟩):Hd P n N H0 Q (.ops all (⟨some d, .call ⟨.value x,xs,ats⟩,ty,pos,af,some (j,want)⟩::rest)) ks ⟨fF,fL⟩:=SW.callg (s:=⟨fF,fL⟩) hg h ha hc hno hd k
theorem cnd {Q:Qs} {ks:List Kt} {c:Operand} {x y:Code} {b:Bool} (hc:evP fF c = .bool b) (ht:b=true->Hd P n N H0 Q (.code x) ks ⟨fF,fL⟩) (hf:b=false->Hd P n N H0 Q (.code y) ks ⟨fF,fL⟩):Hd P n N H0 Q (.code (.cond c x y)) ks ⟨fF,fL⟩:=SW.cnd (s:=⟨fF,fL⟩) hc ht hf
theorem cn {Q:Qs} {ks:List Kt} {c:Operand} {x y:Code} {p:Prop} [Decidable p] (hc:evP fF c=.bool (decide p)) (ht:p->Hd P n N H0 Q (.code x) ks ⟨fF,fL⟩) (hf:¬p->Hd P n N H0 Q (.code y) ks ⟨fF,fL⟩):Hd P n N H0 Q (.code (.cond c x y)) ks ⟨fF,fL⟩:=cnd hc (λh=>ht (of_decide_eq_true h)) λh=>hf (of_decide_eq_false h)
theorem loop {ι:Type _} {c:Code} {ks:List Kt} {Q:Qs} (keep kL:List Nat) (lv:ι->List (Nat×PV)) (lL:ι->List (Nat×Blk)) (Φ:ι->Prop) (μ:ι->Nat) (x0:ι) (h1:AllF fF (lv x0)) (h2:AllL fL (lL x0)) (hΦ:Φ x0) (body:∀ x,Φ x->Hd P n N H0 Q (.code c) (.lp (LJ (λx=>⟨mkF (lv x) keep fF,mkL (lL x) kL fL⟩) Φ μ (μ x))::ks) ⟨mkF (lv x) keep fF,mkL (lL x) kL fL⟩):Hd P n N H0 Q (.code (.loop c)) ks ⟨fF,fL⟩:=SW.loop (s:=⟨fF,fL⟩) keep kL lv lL Φ μ x0 h1 h2 hΦ body
theorem ef {o:Oper} {j:Option Nat} (h:E1 P n N H0 all o j ⟨fF,fL⟩ (λs'=>Hd P n N H0 Q (.ops all rest) ks s')):Hd P n N H0 Q (.ops all (o::rest)) ks ⟨fF,fL⟩:=SW.ef (s:=⟨fF,fL⟩) h
theorem boxA (i:Nat) {cs:List PV} (hx:evP fF x = .agg cs) (hn:Ay_ cs=true) (hd:Nat.blt d n=true) (k:∀ b,K ⟨updp fF d (.own i b 0),lups fL i (.box b T cs)⟩):E1 P n N H0 all ⟨some d, .box T x,ty,pos,af,none⟩ (some i) ⟨fF,fL⟩ K:=SW.boxA (s:=⟨fF,fL⟩) i hx hn hd k
theorem box1 (i:Nat) {p:PV} (hx:evS (evP fF x)=some p) (ho:p.one=true) (hd:Nat.blt d n=true) (k:∀ b,K ⟨updp fF d (.own i b 0),lups fL i (.box b T [p])⟩):E1 P n N H0 all ⟨some d, .box T x,ty,pos,af,none⟩ (some i) ⟨fF,fL⟩ K:=SW.box1 (s:=⟨fF,fL⟩) i hx ho hd k
theorem alloc {tb:Tb} {ti:TI} {zs:List PV} (ht:tbB P tb=true) (i:Nat) (hti:lkT tb T=some ti) (hz:evL ti.zero=some zs) (hn:Ay_ zs=true) (hd:Nat.blt d n=true) (k:∀ b,K ⟨updp fF d (.own i b 0),lups fL i (.box b T zs)⟩):E1 P n N H0 all ⟨some d, .alloc T,ty,pos,af,none⟩ (some i) ⟨fF,fL⟩ K:=SW.alloc (s:=⟨fF,fL⟩) ht i hti hz hn hd k
theorem store1 {tb:Tb} {ti:TI} {i b b' off T0:Nat} {cs cs':List PV} {p:PV} (ht:tbB P tb=true) (hx:evP fF x = .own i b off) (hb:fL i = .box b' T0 cs) (hti:lkT tb T=some ti) (hsz:ti.size=1) (hy:evS (evP fF y)=some p) (ho:p.one=true) (hl:Nat.blt off cs.length=true) (hbb:b'=b) (hc:evL (cs.set off p)=some cs') (k:K ⟨fF,lups fL i (.box b T0 cs')⟩):E1 P n N H0 all ⟨none, .store T x y,ty,pos,af,none⟩ (some i) ⟨fF,fL⟩ K:=SW.store1 (s:=⟨fF,fL⟩) ht hx hb hti hsz hy ho hl hbb hc k
theorem storeA {tb:Tb} {ti:TI} {i b b' off T0:Nat} {cs ps cs':List PV} (ht:tbB P tb=true) (hx:evP fF x = .own i b off) (hb:fL i = .box b' T0 cs) (hti:lkT tb T=some ti) (hy:evP fF y = .agg ps) (hn:Ay_ ps=true) (ho:all1 ps=true) (hsz:ps.length=ti.size) (hl:Nat.ble (off+ti.size) cs.length=true) (hbb:b'=b) (hc:evL (cs.take off++(ps++cs.drop (off+ti.size)))=some cs') (k:K ⟨fF,lups fL i (.box b T0 cs')⟩):E1 P n N H0 all ⟨none, .store T x y,ty,pos,af,none⟩ (some i) ⟨fF,fL⟩ K:=SW.storeA (s:=⟨fF,fL⟩) ht hx hb hti hy hn ho hsz hl hbb hc k
theorem src_l {α:Type} {enc:α->List PV} {k:Nat} {ys:List α} (hy:evP fF y = .sl enc ys) (hk:∀ a,(enc a).length=k):SrcP P N H0 ⟨fF,fL⟩ enc k y ys:=SW.src_l (s:=⟨fF,fL⟩) hy hk
theorem src_o {α:Type} {enc:α->List PV} {i e k:Nat} {u:Value} {ys:List α} (hy:evP fF y = .osl i) (hb:fL i = .arr u k e enc ys):SrcP P N H0 ⟨fF,fL⟩ enc k y ys:=SW.src_o (s:=⟨fF,fL⟩) hy hb
theorem app {α:Type} {tb:Tb} {i e k:Nat} {u:Value} {enc:α->List PV} {xs:List α} {te:TI} (ht:tbB P tb=true) (ys:List α) (hx:evP fF x = .osl i) (hb:fL i = .arr u k e enc xs) {ti:TI} (hti:lkT tb T=some ti) (htk:ti.k = .slc e) (hT2:Mh_ tb T2=true) (hte:lkT tb e=some te) (hz:te.zero.length=te.size) (hby:Nat.blt 0 te.bytes=true) (hk:te.size=k) (hy:SrcP P N H0 ⟨fF,fL⟩ enc k y ys) (hs:(xs.length+ys.length)*te.bytes<=140737488355328) (hd:Nat.blt d n=true) (kk:∀ u',K ⟨updp (Ft_ i fF) d (.osl i),lups (C6_ i fL) i (.arr u' k e enc (xs++ys))⟩):E1 P n N H0 all ⟨some d, .call ⟨.builtin .append,#[x,y],#[T,T2]⟩,ty,pos,af,none⟩ (some i) ⟨fF,fL⟩ K:=SW.app (s:=⟨fF,fL⟩) ht ys hx hb hti htk hT2 hte hz hby hk hy hs hd kk
theorem bsl {α:Type} {tb:Tb} (i:Nat) {e len:Nat} {ps:Array (Nat×Operand)} (enc:α->List PV) (xs:List α) {rows:List (List PV)} {ti te:TI} (ht:tbB P tb=true) (hti:lkT tb T=some ti) (htk:ti.k = .slc e) (hte:lkT tb e=some te) (hr:bslP fF ps.toList 0=some rows) (hx:rows=xs.map enc) (hk:∀ a,(enc a).length=te.size) (hl:xs.length=len) (hs:len*te.size<=16777216) (hs2:len<=140737488355328) (hd:Nat.blt d n=true) (kk:∀ u',K ⟨updp (Ft_ i fF) d (.osl i),lups (C6_ i fL) i (.arr u' te.size e enc xs)⟩):E1 P n N H0 all ⟨some d, .buildSlice T len ps,ty,pos,af,none⟩ (some i) ⟨fF,fL⟩ K:=SW.bsl (s:=⟨fF,fL⟩) i enc xs ht hti htk hte hr hx hk hl hs hs2 hd kk
theorem give {α:Type} {e k:Nat} {u:Value} {enc:α->List PV} {xs:List α} (i:Nat) (hb:fL i = .arr u k e enc xs) (kk:Hd P n N H0 Q (.ops all rest) ks ⟨Kv_ i enc xs fF,Ju_ i enc xs fL⟩):Hd P n N H0 Q (.ops all rest) ks ⟨fF,fL⟩:=SW.give (s:=⟨fF,fL⟩) i hb kk
theorem givec {α:Type} {e k:Nat} {u:Value} {enc:α->List PV} {xs:List α} {c:Code} (i:Nat) (hb:fL i = .arr u k e enc xs) (kk:Hd P n N H0 Q (.code c) ks ⟨Kv_ i enc xs fF,Ju_ i enc xs fL⟩):Hd P n N H0 Q (.code c) ks ⟨fF,fL⟩:=SW.givec (s:=⟨fF,fL⟩) i hb kk
theorem calll {α:Type} {e k:Nat} {u:Value} {enc:α->List PV} {ls:List α} {f:FuncId} {args:List PV} {res:PV} {xs:Array Operand} {ats:Array TypeId} (i:Nat) (hb:fL i = .arr u k e enc ls) (h:Fn P H0.g f args res) (hf:res.flat=true) (ha:argsP (Kv_ i enc ls fF) x xs.toList=some (f,args)) (hd:Nat.blt d n=true) (kk:res.wf->K ⟨updp fF d res,fL⟩):E1 P n N H0 all ⟨some d, .call ⟨.value x,xs,ats⟩,ty,pos,af,none⟩ none ⟨fF,fL⟩ K:=SW.calll (s:=⟨fF,fL⟩) i hb h hf ha hd kk
theorem any (xs:List Nat) (m:Nat) {id:Nat} {ops:Array Oper} (hmx:P.follows .mixedOrders=true) (hm:ops.toList.length=m) (h:Hv P n N H0 Q (some xs) ops.toList m (Array.replicate m false) ks ⟨fF,fL⟩):Hd P n N H0 Q (.code (.region id ops true)) ks ⟨fF,fL⟩:=SW.any (s:=⟨fF,fL⟩) xs m hmx hm h
theorem vdone {xs:Option (List Nat)} {fuel:Nat} {listed:Array Bool} (h:Region.ready .any all.toArray listed=[]) (k:Hd P n N H0 Q (.ex .normal) ks ⟨fF,fL⟩):Hv P n N H0 Q xs all fuel listed ks ⟨fF,fL⟩:=SW.vdone (s:=⟨fF,fL⟩) h k
theorem vcall {xs:Option (List Nat)} {fuel:Nat} {listed:Array Bool} {f:FuncId} {args:List PV} {res:PV} {as0:Array Operand} {ats:Array TypeId} (i:Nat) (hi:nth all i=some ⟨some d, .call ⟨.value x,as0,ats⟩,ty,pos,af,none⟩) (hck:(rdB all listed i&&apB n all listed i ⟨some d, .call ⟨.value x,as0,ats⟩,ty,pos,af,none⟩&&Nat.blt d n&&nosB (.call ⟨.value x,as0,ats⟩))=true) (h:Fn P H0.g f args res) (hf:res.flat=true) (ha:argsP fF x as0.toList=some (f,args)) (k:res.wf->Hv P n N H0 Q xs all fuel (listed.setIfInBounds i true) ks ⟨updp fF d res,fL⟩):Hv P n N H0 Q xs all (fuel+1) listed ks ⟨fF,fL⟩:=SW.vcall (s:=⟨fF,fL⟩) i hi hck h hf ha k
theorem vcallg {xs:Option (List Nat)} {fuel:Nat} {listed:Array Bool} {f:FuncId} {args:List PV} {res:PV} {as0:Array Operand} {ats:Array TypeId} {j:Nat} {want g:Bool} (i:Nat) (hi:nth all i=some ⟨some d, .call ⟨.value x,as0,ats⟩,ty,pos,af,some (j,want)⟩) (hck:(rdB all listed i&&apB n all listed i ⟨some d, .call ⟨.value x,as0,ats⟩,ty,pos,af,some (j,want)⟩&&Nat.blt d n&&nosB (.call ⟨.value x,as0,ats⟩))=true) (hg:gOp ⟨fF,fL⟩ all j want=some g) (h:g=true->Fn P H0.g f args res) (hf:res.flat=true) (ha:argsP (strG (Ek_ as0.toList) fF) x as0.toList=some (f,args)) (hc:AllP (Ey_ fF g (Ek_ as0.toList) [])) (hno:C1_ fF (Ek_ as0.toList)=true) (k:(g=true->res.wf)->Hv P n N H0 Q xs all fuel (listed.setIfInBounds i true) ks ⟨updp fF d (.gv g res),fL⟩):Hv P n N H0 Q xs all (fuel+1) listed ks ⟨fF,fL⟩:=SW.vcallg (s:=⟨fF,fL⟩) i hi hck hg h hf ha hc hno k
theorem ve {xs:List Nat} {fuel:Nat} {listed:Array Bool} {o:Oper} {j:Option Nat} (i:Nat) (hi:nth all i=some o) (hr:Region.ready .any all.toArray listed=[i]) (hj:(match j with|none=>true|some j=>memB xs j)=true) (h:E1 P n N H0 all o j ⟨fF,fL⟩ (λs'=>Hv P n N H0 Q (some xs) all fuel (listed.setIfInBounds i true) ks s')):Hv P n N H0 Q (some xs) all (fuel+1) listed ks ⟨fF,fL⟩:=SW.ve (s:=⟨fF,fL⟩) i hi hr hj h
theorem q1 (h:Qy P N H0 ⟨fF,fL⟩ op ty p) (hd:Nat.blt d n=true) (k:p.wf->Hd P n N H0 Q (.ops all rest) ks ⟨updp fF d p,fL⟩):Hd P n N H0 Q (.ops all (⟨some d,op,ty,pos,af,none⟩::rest)) ks ⟨fF,fL⟩:=SW.q1 (s:=⟨fF,fL⟩) h hd k
theorem eqy (h:Qy P N H0 ⟨fF,fL⟩ op ty p) (hd:Nat.blt d n=true) (k:p.wf->K ⟨updp fF d p,fL⟩):E1 P n N H0 all ⟨some d,op,ty,pos,af,none⟩ none ⟨fF,fL⟩ K:=SW.eqy (s:=⟨fF,fL⟩) h hd k
theorem vq {xs:Option (List Nat)} {fuel:Nat} {listed:Array Bool} (i:Nat) (h:Qy P N H0 ⟨fF,fL⟩ op ty p) (hi:nth all i=some ⟨some d,op,ty,pos,af,none⟩) (hck:(rdB all listed i&&apB n all listed i ⟨some d,op,ty,pos,af,none⟩&&Nat.blt d n&&nosB op)=true) (hl:C0_ op=false) (k:p.wf->Hv P n N H0 Q xs all fuel (listed.setIfInBounds i true) ks ⟨updp fF d p,fL⟩):Hv P n N H0 Q xs all (fuel+1) listed ks ⟨fF,fL⟩:=SW.vq (s:=⟨fF,fL⟩) i h hi hck hl k
theorem q1g {j:Nat} {want g:Bool} (ts:List Nat) (hg:gOp ⟨fF,fL⟩ all j want=some g) (h:g=true->Qy P N H0 (strS ts ⟨fF,fL⟩) op ty p) (hc:AllP (Ey_ fF g ts [])) (hno:C1_ fF ts=true) (hpo:p.noOsl=true) (hd:Nat.blt d n=true) (k:(g=true->p.wf)->Hd P n N H0 Q (.ops all rest) ks ⟨updp fF d (.gv g p),fL⟩):Hd P n N H0 Q (.ops all (⟨some d,op,ty,pos,af,some (j,want)⟩::rest)) ks ⟨fF,fL⟩:=SW.q1g (s:=⟨fF,fL⟩) ts hg h hc hno hpo hd k
theorem vqg {xs:Option (List Nat)} {fuel:Nat} {listed:Array Bool} {j:Nat} {want g:Bool} (i:Nat) (ts:List Nat) (hi:nth all i=some ⟨some d,op,ty,pos,af,some (j,want)⟩) (hck:(rdB all listed i&&apB n all listed i ⟨some d,op,ty,pos,af,some (j,want)⟩&&Nat.blt d n&&nosB op)=true) (hl:C0_ op=false) (hg:gOp ⟨fF,fL⟩ all j want=some g) (h:g=true->Qy P N H0 (strS ts ⟨fF,fL⟩) op ty p) (hc:AllP (Ey_ fF g ts [])) (hno:C1_ fF ts=true) (k:(g=true->p.wf)->Hv P n N H0 Q xs all fuel (listed.setIfInBounds i true) ks ⟨updp fF d (.gv g p),fL⟩):Hv P n N H0 Q xs all (fuel+1) listed ks ⟨fF,fL⟩:=SW.vqg (s:=⟨fF,fL⟩) i ts hi hck hl hg h hc hno k
theorem sidx {tb:Tb} {ti:TI} {a:Bs} {k:IntKind} {i:Int} (ht:tbB P tb=true) (m:Nat) (hx:evP fF x = .str a) (hy:evP fF y = .int k i) (hti:lkT tb T=some ti) (htk:ti.k = .str) (hi:i=m) (hm:m<a.length):Qy P N H0 ⟨fF,fL⟩ (.index T x y) ty (.int .u8 (a.getD m 0).toNat):=SW.sidx (s:=⟨fF,fL⟩) ht m hx hy hti htk hi hm
theorem qidx {α:Type} {tb:Tb} {ti te:TI} {e:TypeId} {enc:α->List PV} {xs:List α} {kk:IntKind} {i:Int} (ht:tbB P tb=true) (m:Nat) {a:α} (hx:evP fF x = .sl enc xs) (hy:evP fF y = .int kk i) (hm:i=m) (ha:xs[m]? = some a) (hti:lkT tb T=some ti) (hk:ti.k = .slc e) (hte:lkT tb e=some te) (hsz:te.size=(enc a).length):Qy P N H0 ⟨fF,fL⟩ (.indexAddr T x y) ty (.el (enc a) 0):=SW.qidx (s:=⟨fF,fL⟩) ht m hx hy hm ha hti hk hte hsz
theorem lshi {α:Type} {tb:Tb} {ti te:TI} {e:TypeId} {enc:α->List PV} {xs:List α} {k:IntKind} {i:Int} (ht:tbB P tb=true) (m:Nat) (hx:evP fF x = .sl enc xs) (hy:evP fF y = .int k i) (hti:lkT tb T=some ti) (htk:ti.k = .slc e) (hte:lkT tb e=some te) (hw:∀ a,(enc a).length=te.size) (hi:i=m) (hm:m<=xs.length):Qy P N H0 ⟨fF,fL⟩ (.slice T x none (some y) none) ty (.sl enc (xs.take m)):=SW.lshi (s:=⟨fF,fL⟩) ht m hx hy hti htk hte hw hi hm
theorem saeq {ps qs:List PV} {r:Bool} (hx:evP fF x = .agg ps) (hy:evP fF y = .agg qs) (hm:P.eqGuardType P.depth T=false) (h:∀ H vs us,Sims H ps vs->Sims H qs us->EqV P 10000 T (.agg vs.toArray) (.agg us.toArray) r):Qy P N H0 ⟨fF,fL⟩ (.binOp .eql T x y T') ty (.bool r):=SW.saeq (s:=⟨fF,fL⟩) hx hy hm h
theorem sw_own {α:Type} {t k e:Nat} {c:Code} (i:Nat) (enc:α->List PV) (hF:fF t = .val (.slice none 0 0)) (hno:fL i = .no) (kk:Hd P n N H0 Q (.code c) ks ⟨updp (Ft_ i fF) t (.osl i),lups (C6_ i fL) i (.arr (.slice none 0 0) k e enc [])⟩):Hd P n N H0 Q (.code c) ks ⟨fF,fL⟩:=SW.sw_own (s:=⟨fF,fL⟩) i enc hF hno kk
theorem qconv {tb:Tb} {ti td:TI} {k k':IntKind} {a:Int} (ht:tbB P tb=true) (hx:evP fF x = .int k a) (hti:lkT tb T=some ti) (htd:lkT tb T'=some td) (hk:td.k = .int k') (h:k'.min<=a/\a<=k'.max):Qy P N H0 ⟨fF,fL⟩ (.convert T T' x) ty (.int k' a):=SW.qconv (s:=⟨fF,fL⟩) ht hx hti htd hk h
theorem cndT {c:Operand} {x y:Code} {b:Bool} (hc:evP fF c = .bool b) (hb:b=true) (k:Hd P n N H0 Q (.code x) ks ⟨fF,fL⟩):Hd P n N H0 Q (.code (.cond c x y)) ks ⟨fF,fL⟩:=SW.cndT (s:=⟨fF,fL⟩) hc hb k
theorem cndF {c:Operand} {x y:Code} {b:Bool} (hc:evP fF c = .bool b) (hb:b=false) (k:Hd P n N H0 Q (.code y) ks ⟨fF,fL⟩):Hd P n N H0 Q (.code (.cond c x y)) ks ⟨fF,fL⟩:=SW.cndF (s:=⟨fF,fL⟩) hc hb k
theorem rt1 {tb:Tb} {rs:List ResultVar} {res p:PV} {as0 bs:List Nat} (h:I9_ tb ⟨fF,fL⟩ rs=some ([p],as0,bs)) (he:as0=bs) (hp:PLe p res):Hd P n N H0 (rtK tb rs res) (.ex .ret) [] ⟨fF,fL⟩:=SW.rt1 (s:=⟨fF,fL⟩) h he hp
theorem freeze {i t b b' off T0:Nat} {cs:List PV} (hF:fF t = .own i b off) (hL:fL i = .box b' T0 cs) (hbb:b'=b) (hn:Ay_ cs=true) (k:Hd P n N H0 Q (.ops all rest) ks ⟨updp fF t (.el cs off),lups fL i .no⟩):Hd P n N H0 Q (.ops all rest) ks ⟨fF,fL⟩:=SW.freeze (s:=⟨fF,fL⟩) hF hL hbb hn k
theorem next {ι:Type _} {keep kL:List Nat} {G:Nat->PV} {GL:Nat->Blk} {lv:ι->List (Nat×PV)} {lL:ι->List (Nat×Blk)} {Φ:ι->Prop} {μ:ι->Nat} {m:Nat} {ks:List Kt} {Q:Qs} (x':ι) (h1:keep.map fF=keep.map G) (h2:kL.map fL=kL.map GL) (h3:AllF fF (lv x')) (h4:AllL fL (lL x')) (hm:μ x'<m) (hΦ:Φ x'):Hd P n N H0 Q (.ex .normal) (.lp (LJ (λx=>⟨mkF (lv x) keep G,mkL (lL x) kL GL⟩) Φ μ m)::ks) ⟨fF,fL⟩:=SW.next (s:=⟨fF,fL⟩) x' h1 h2 h3 h4 hm hΦ
theorem go {tb:Tb} (ht:tbB P tb=true) (k:Nat) {c c':Cf} {ks':List Kt} {F':Nat->PV} {L':Nat->Blk} {ps:List Prop} {as0 bs:List Nat} (h:run tb n k c ks fF fL [] [] []=some ⟨c',ks',F',L',ps,as0,bs⟩) (he:as0=bs) (hp:AllP ps) (next :Hd P n N H0 Q c' ks' ⟨F',L'⟩):Hd P n N H0 Q c ks ⟨fF,fL⟩:=SW.go ht k h he hp next
theorem gov {tb:Tb} (ht:tbB P tb=true) (order:List Nat) (f:Nat) {xs:Option (List Nat)} {fuel:Nat} {listed:Array Bool} {F':Nat->PV} {L':Nat->Blk} {ps:List Prop} {as0 bs:List Nat} (hf:fuel=f+order.length) (hc:chkV n all order listed=true) (h:runV tb xs all order fF fL [] [] []=some ⟨F',L',ps,as0,bs⟩) (he:as0=bs) (hp:AllP ps) (next :Hv P n N H0 Q xs all f (lst listed order) ks ⟨F',L'⟩):Hv P n N H0 Q xs all fuel listed ks ⟨fF,fL⟩:=SW.gov ht order f hf hc h he hp next
end Go.SW.V
namespace Go.SW
structure Feed where
 rest:Bs
 err:Int
def Feed.cells (f:Feed):List Value:=[str f.rest, .int .i64 f.err]
def mt:List Bs->List Bs->Bool
 |[],k=>k.isEmpty
 |w::p,k=>if w=[35] then (List.range (k.length+1)).any (λf=>mt p (k.drop f)) else match k with
   |[]=>false
   |x::r=>(decide (w=[42]) || decide (w=x))&&mt p r
theorem mt_cons {w:Bs} {p k:List Bs} (hw:w≠[35]):mt (w::p) k=true↔∃ x r,k=x::r/\(w=[42]\/w=x)/\mt p r=true:=by
 simp only[mt,if_neg hw]
 cases k with
 |nil=>simp
 |cons x r=>
   constructor
   . intro h;simp at h;exact⟨x,r,rfl,h.1,h.2⟩
   . rintro⟨x',r',e,h1,h2⟩;cases e;simp[h1,h2]
structure MI (p k:List Bs) (i j:Nat) (b:Int) (f:Nat):Prop where
 hi:i<=p.length
 hj:j<=k.length
 hf:f<=j
 hb:-1<=b
 hbi:b<=i
 no:b<0->(mt p k=true↔mt (p.drop i) (k.drop j)=true)
 seg:0<=b->j=f+(i-b.toNat)
 go:0<=b->(mt p k=true↔∃ g,f<=g/\mt (p.drop b.toNat) (k.drop g)=true)
 fw:0<=b->∀ g,mt (p.drop b.toNat) (k.drop g)=true->mt (p.drop i) (k.drop (g+(i-b.toNat)))=true
 bw:0<=b->mt (p.drop i) (k.drop j)=true->mt (p.drop b.toNat) (k.drop f)=true
theorem MI.bad {p k:List Bs} {i j f:Nat} {b:Int} {x:Bs} (_:MI p k i j b f) (hk:k[j]? = some x) (hm:∀ w,p[i]? = some w->w≠[35]/\w≠[42]/\w≠x):mt (p.drop i) (k.drop j)=false:=by
 rw[Kn_ hk]
 cases hp:p[i]? with
 |none=>
   have :p.length<=i:=List.getElem?_eq_none_iff.1 hp
   rw[List.drop_of_length_le this];rfl
 |some w=>
   obtain⟨h1,h2,h3⟩:=hm w hp
   rw[Kn_ hp]
   cases q:mt (w::p.drop (i+1)) (x::k.drop (j+1)) with
   |false=>rfl
   |true=>
     obtain⟨x',r,e,hh,_⟩:=(mt_cons h1).1 q
     cases e
     rcases hh with hh|hh
     . exact absurd hh h2
     . exact absurd hh h3
theorem MI.none {p k:List Bs} {i j f:Nat} {b:Int} {x:Bs} (h:MI p k i j b f) (hk:k[j]? = some x) (hb:b<0) (hm:∀ w,p[i]? = some w->w≠[35]/\w≠[42]/\w≠x):mt p k=false:=by
 have hbad:=h.bad hk hm
 cases q:mt p k with
 |false=>rfl
 |true=>rw[(h.no hb).1 q] at hbad;cases hbad
def Mail.zero:Mail:=⟨0,[],[],[],[],0,0⟩
def Reply.zero:Reply:=⟨0,0,0,0,false,[],Mail.zero⟩
structure RIn where
 s:Bs
 pos:Int
 code:Int
def RIn.cells (i:RIn):List Value:=[str i.s, .int .i64 i.pos, .int .i64 i.code]
section
variable {α:Type} [DecidableEq α] {a b ra rb:List α} {x y:α} {k:Nat}
end
section
variable {α:Type} {p:α->Bool} {a r:List α} {x:α} {k:Nat}
end
theorem H6_ {s:Bs} {k:Nat} (hk:k<s.length):(s.drop k).all (λc=>letter c.toNat)=(letter (s.getD k 0).toNat&&(s.drop (k+1)).all (λc=>letter c.toNat)):=by
 rw[Oe_ hk,List.all_cons]
def tellsT:List Bs:=[[110],[],[],[65,110,120],[65],[65,110,109,120],[65],[65,79,112,104,121],[65,79,112,104,121],[65,79,112,104,121],[65,79,112,104,121],[65,107,104,109,98],[110],[65,110],[110],[65],[110,109,121],[],[],[],[]]
structure Rule where
 sort:Int
 key:Bs
 want:List Pair
 all:Bool
deriving DecidableEq
def Rule.cells (r:Rule) (a:Option Addr) (c:Nat):List Value:=[.int .u8 r.sort,str r.key, .slice a r.want.length c, .bool r.all]
def Rule.wf (r:Rule):Prop:=(0<=r.sort/\r.sort<=255)/\r.key.length<=9223372036854775807/\r.want.length<=9223372036854775807
def patB:List Bs:=[[42],[35]]
def ruleE (r:Rule):Int:=
 if 3<r.sort then 8
 else if r.sort=0 then (if keyE [] r.key≠0 then keyE [] r.key else Oz_ r.want)
 else if keyE patB r.key≠0 then keyE patB r.key else Oz_ r.want
structure Method where
 channel:Int
 kind:Int
 name:Bs
 other:Bs
 key:Bs
 head:List Pair
 body:Bs
 n:Int
 m:Int
 yes:Bool
deriving DecidableEq
def Method.cells (m:Method) (a:Option Addr) (c:Nat):List Value:=[.int .u8 m.channel, .int .u8 m.kind,str m.name,str m.other,str m.key, .slice a m.head.length c,str m.body, .int .u64 m.n, .int .u64 m.m, .bool m.yes]
def Method.wf (m:Method):Prop:=(0<=m.channel/\m.channel<=255)/\(0<=m.kind/\m.kind<=255)/\(0<=m.n/\m.n<=18446744073709551615)/\(0<=m.m/\m.m<=18446744073709551615)/\m.name.length<=9223372036854775807/\m.other.length<=9223372036854775807/\m.key.length<=9223372036854775807/\m.head.length<=9223372036854775807/\m.body.length<=9223372036854775807
def Kz_ (m:Mail):Int:=
 if Dj_ m.Dv_≠0 then Dj_ m.Dv_ else if keyE [] m.key≠0 then keyE [] m.key else if Oz_ m.head≠0 then Oz_ m.head else if (256:Int)<m.body.length then 5 else if 4<m.hops then 7 else 0
def mailOut (m:Mail):Out:=Co_ (Co_ (D2_ (T1_ (D2_ (D2_ (Co_ ⟨[],0⟩ m.id 8) m.Dv_) m.key) (Oy_ m.head)) m.body) m.due 8) m.hops 1
def Pp_ (m:Mail):Bs:=if Kz_ m=0 then (mailOut m).s else []
structure Bm_ where
 name:Bs
 sort:Int
 to':Bs
deriving DecidableEq
def Bm_.cells (x:Bm_):List Value:=[str x.name, .int .u8 x.sort,str x.to']
def Bm_.wf (x:Bm_):Prop:=x.name.length<=9223372036854775807/\(0<=x.sort/\x.sort<=255)/\x.to'.length<=9223372036854775807
structure Ct_ where
 name:Bs
 most:Int
 life:Int
 dead:Bs
deriving DecidableEq
def Ct_.cells (x:Ct_):List Value:=[str x.name, .int .u64 x.most, .int .u64 x.life,str x.dead]
def Ct_.wf (x:Ct_):Prop:=x.name.length<=9223372036854775807/\(0<=x.most/\x.most<=18446744073709551615)/\(0<=x.life/\x.life<=18446744073709551615)/\x.dead.length<=9223372036854775807
structure Bg_ where
 Dv_:Bs
 to':Bs
 up:Bool
 key:Bs
 want:List Pair
 all:Bool
deriving DecidableEq
def Bg_.cells (x:Bg_) (a:Option Addr) (c:Nat):List Value:=[str x.Dv_,str x.to', .bool x.up,str x.key, .slice a x.want.length c, .bool x.all]
def Bg_.wf (x:Bg_):Prop:=x.Dv_.length<=9223372036854775807/\x.to'.length<=9223372036854775807/\x.key.length<=9223372036854775807/\x.want.length<=9223372036854775807
structure Gi_ where
 kind:Int
 tick:Int
 Dv_:Bm_
 queue:Ct_
 bind:Bg_
 name:Bs
 id:Int
 how:Int
 frm:Int
 code:Int
 number:Int
 A0_:Mail
 text:Bs
deriving DecidableEq
def Gi_.cells (d:Gi_) (a:Option Addr) (c:Nat) (a':Option Addr) (c':Nat):List Value:=
 [.int .u8 d.kind, .int .u64 d.tick,str d.Dv_.name, .int .u8 d.Dv_.sort,str d.Dv_.to',str d.queue.name, .int .u64 d.queue.most, .int .u64 d.queue.life,str d.queue.dead,
  str d.bind.Dv_,str d.bind.to', .bool d.bind.up,str d.bind.key, .slice a d.bind.want.length c, .bool d.bind.all,str d.name, .int .u64 d.id, .int .u8 d.how, .int .u8 d.frm, .int .u8 d.code, .int .u64 d.number,
  .int .u64 d.A0_.id,str d.A0_.Dv_,str d.A0_.key, .slice a' d.A0_.head.length c',str d.A0_.body, .int .u64 d.A0_.due, .int .u8 d.A0_.hops,str d.text]
def Gi_.wf (d:Gi_):Prop:=(0<=d.kind/\d.kind<=255)/\(0<=d.tick/\d.tick<=18446744073709551615)/\d.Dv_.wf/\d.queue.wf/\d.bind.wf/\d.name.length<=9223372036854775807/\(0<=d.id/\d.id<=18446744073709551615)/\(0<=d.how/\d.how<=255)/\(0<=d.frm/\d.frm<=255)/\(0<=d.code/\d.code<=255)/\(0<=d.number/\d.number<=18446744073709551615)/\d.A0_.wf/\d.text.length<=9223372036854775807
def Bm_.zero:Bm_:=⟨[],0,[]⟩
def Ct_.zero:Ct_:=⟨[],0,0,[]⟩
def Bg_.zero:Bg_:=⟨[],[],false,[],[],false⟩
structure Ba_ where
 Bn_:List Bm_
 binds:List Bg_
deriving DecidableEq
def Ba_.cells (x:Ba_) (a1:Option Addr) (c1:Nat) (a2:Option Addr) (c2:Nat):List Value:=[.slice a1 x.Bn_.length c1, .slice a2 x.binds.length c2]
def Ba_.wf (x:Ba_):Prop:=x.Bn_.length<=9223372036854775807/\x.binds.length<=9223372036854775807
def Ba_.zero:Ba_:=⟨[],[]⟩
def idxF {α:Type} (p:α->Bool):Nat->List α->Int
 |_,[]=>-1
 |k,x::r=>if p x then k else idxF p (k+1) r
def idxP {α:Type} (p:α->Bool) (l:List α):Int:=idxF p 0 l
theorem L5_ {α:Type} {p:α->Bool} {l r:List α} {c:α} {k:Nat} (h:idxP p l=idxF p k (l.drop k)) (e:l.drop k=c::r) (hc:p c=false):idxP p l=idxF p (k+1) r:=by
 rw[h,e,idxF,hc];rfl
theorem O2_ {α:Type} {p:α->Bool} {l r:List α} {c:α} {k:Nat} (h:idxP p l=idxF p k (l.drop k)) (e:l.drop k=c::r) (hc:p c=true):idxP p l=k:=by
 rw[h,e,idxF,hc];rfl
theorem O1_ {α:Type} {p:α->Bool} {l:List α} {k:Nat} (h:idxP p l=idxF p k (l.drop k)) (hk:l.length<=k):idxP p l = -1:=by
 rw[h,List.drop_of_length_le hk];rfl
def Hi_ (l:List Bm_) (n:Bs):Option Bm_:=l.find? λs=>decide (s.name=n)
def shopE (x:Bm_):Int:=if Dj_ x.name≠0 then Dj_ x.name else if 4<x.sort then 8 else if x.sort=4 then Dj_ x.to' else if x.to'≠[] then 4 else 0
def Lr_ (x:Bg_) (sort:Int):Rule:=⟨sort,x.key,x.want,x.all⟩
structure Ew_ where
 l:List Gi_
deriving DecidableEq
def Ew_.cells (x:Ew_) (a1:Option Addr) (c1:Nat):List Value:=[.slice a1 x.l.length c1]
def Ew_.wf (x:Ew_):Prop:=x.l.length<=9223372036854775807
def Ew_.zero:Ew_:=⟨[]⟩
def Feed.pc (x:Feed):List PV:=[.str x.rest, .int .i64 x.err]
instance :Inhabited Feed:=⟨⟨[],0⟩⟩
def Out.pc (x:Out):List PV:=[.str x.s, .int .i64 x.err]
instance :Inhabited Out:=⟨⟨[],0⟩⟩
def In.pc (x:In):List PV:=[.str x.s, .int .i64 x.err]
instance :Inhabited In:=⟨⟨[],0⟩⟩
def RIn.pc (x:RIn):List PV:=[.str x.s, .int .i64 x.pos, .int .i64 x.code]
instance :Inhabited RIn:=⟨⟨[],0,0⟩⟩
def Pair.pc (x:Pair):List PV:=[.str x.key, .int .u8 x.kind, .int .i64 x.num, .str x.text]
instance :Inhabited Pair:=⟨⟨[],0,0,[]⟩⟩
def Frame.pc (x:Frame):List PV:=[.int .u8 x.channel, .int .u8 x.kind, .str x.body]
instance :Inhabited Frame:=⟨⟨0,0,[]⟩⟩
def Bm_.pc (x:Bm_):List PV:=[.str x.name, .int .u8 x.sort, .str x.to']
instance :Inhabited Bm_:=⟨⟨[],0,[]⟩⟩
def Ct_.pc (x:Ct_):List PV:=[.str x.name, .int .u64 x.most, .int .u64 x.life, .str x.dead]
instance :Inhabited Ct_:=⟨⟨[],0,0,[]⟩⟩
def Bg_.pc (x:Bg_):List PV:=[.str x.Dv_, .str x.to', .bool x.up, .str x.key, .sl Pair.pc x.want, .bool x.all]
instance :Inhabited Bg_:=⟨⟨[],[],false,[],[],false⟩⟩
def Rule.pc (x:Rule):List PV:=[.int .u8 x.sort, .str x.key, .sl Pair.pc x.want, .bool x.all]
instance :Inhabited Rule:=⟨⟨0,[],[],false⟩⟩
def Mail.pc (x:Mail):List PV:=[.int .u64 x.id, .str x.Dv_, .str x.key, .sl Pair.pc x.head, .str x.body, .int .u64 x.due, .int .u8 x.hops]
instance :Inhabited Mail:=⟨⟨0,[],[],[],[],0,0⟩⟩
def Reply.pc (x:Reply):List PV:=[.int .u8 x.channel, .int .u8 x.kind, .int .u64 x.n, .int .u64 x.m, .bool x.yes, .str x.name, .int .u64 x.A0_.id, .str x.A0_.Dv_, .str x.A0_.key, .sl Pair.pc x.A0_.head, .str x.A0_.body, .int .u64 x.A0_.due, .int .u8 x.A0_.hops]
instance :Inhabited Reply:=⟨⟨0,0,0,0,false,[],⟨0,[],[],[],[],0,0⟩⟩⟩
def Method.pc (x:Method):List PV:=[.int .u8 x.channel, .int .u8 x.kind, .str x.name, .str x.other, .str x.key, .sl Pair.pc x.head, .str x.body, .int .u64 x.n, .int .u64 x.m, .bool x.yes]
instance :Inhabited Method:=⟨⟨0,0,[],[],[],[],[],0,0,false⟩⟩
def Gi_.pc (x:Gi_):List PV:=[.int .u8 x.kind, .int .u64 x.tick, .str x.Dv_.name, .int .u8 x.Dv_.sort, .str x.Dv_.to', .str x.queue.name, .int .u64 x.queue.most, .int .u64 x.queue.life, .str x.queue.dead, .str x.bind.Dv_, .str x.bind.to', .bool x.bind.up, .str x.bind.key, .sl Pair.pc x.bind.want, .bool x.bind.all, .str x.name, .int .u64 x.id, .int .u8 x.how, .int .u8 x.frm, .int .u8 x.code, .int .u64 x.number, .int .u64 x.A0_.id, .str x.A0_.Dv_, .str x.A0_.key, .sl Pair.pc x.A0_.head, .str x.A0_.body, .int .u64 x.A0_.due, .int .u8 x.A0_.hops, .str x.text]
instance :Inhabited Gi_:=⟨⟨0,0,⟨[],0,[]⟩,⟨[],0,0,[]⟩,⟨[],[],false,[],[],false⟩,[],0,0,0,0,0,⟨0,[],[],[],[],0,0⟩,[]⟩⟩
def Ba_.pc (x:Ba_):List PV:=[.sl Bm_.pc x.Bn_, .sl Bg_.pc x.binds]
instance :Inhabited Ba_:=⟨⟨[],[]⟩⟩
def Ew_.pc (x:Ew_):List PV:=[.sl Gi_.pc x.l]
instance :Inhabited Ew_:=⟨⟨[]⟩⟩
theorem O0_ {α:Type} (p:α->Bool):∀ (l:List α) (k:Nat),idxF p k l = -1\/((k:Int)<=idxF p k l/\idxF p k l<k+l.length)
 |[],k=> .inl (by simp[idxF])
 |a::r,k=>by
   simp only[idxF]
   split
   . right;exact yS
   . rcases O0_ p r (k+1) with h|h
     . exact .inl h
     . right;exact yS
theorem idxP_b {α:Type} (p:α->Bool) (l:List α):-1<=idxP p l/\idxP p l<l.length:=by
 rcases O0_ p l 0 with h|h<;>simp only[idxP]<;>omega
theorem Gw_ {α:Type} (p:α->Bool):∀ (l:List α) (k:Nat),(idxF p k l<0->l.find? p=none)/\(0<=idxF p k l->∀ c,l[(idxF p k l).toNat-k]? = some c->p c=true/\l.find? p=some c)
 |[],k=>⟨λ_=>rfl,λh=>by simp[idxF] at h⟩
 |a::r,k=>by
   obtain⟨h1,h2⟩:=Gw_ p r (k+1)
   have hr:=O0_ p r (k+1)
   simp only[idxF]
   by_cases ha:p a=true
   . simp only[ha,if_true]
     refine⟨λh=>by omega,λ_ c hc=>?_⟩
     have :((k:Int)).toNat-k=0:=by omega
     rw[this] at hc
     simp at hc
     subst hc
     exact⟨ha,by simp[ha]⟩
   . have hf:p a=false:=by simpa using ha
     simp only[hf,if_false,Bool.false_eq_true,List.find?_cons]
     refine⟨h1,λh0 c hc=>?_⟩
     refine h2 h0 c ?_
     have e:(idxF p (k+1) r).toNat-k=((idxF p (k+1) r).toNat-(k+1))+1:=by omega
     rw[e] at hc
     simpa using hc
theorem Ru_ {α:Type} {p:α->Bool} {l:List α} (h:idxP p l<0):l.find? p=none:=(Gw_ p l 0).1 h
theorem Rt_ {α:Type} {p:α->Bool} {l:List α} {c:α} (h0:¬idxP p l<0) (h:l[(idxP p l).toNat]? = some c):p c=true/\l.find? p=some c:=(Gw_ p l 0).2 (by simp only[idxP] at h0;omega) c (by simpa [idxP] using h)
end Go.SW
namespace Go.SW.V
open Go.SW
def lt {α β:Type} (a:α) (f:α->β):β:=f a
theorem lt_eq {α β:Type} {a r:α} {f:α->β} (h:r=a):lt a f=f r:=by subst h;rfl
inductive Lo (σ ρ:Type) where
 |fin (s:σ)
 |ret (r:ρ)
def lp0 {ρ β:Type} (o:Lo Unit ρ) (f:β) (g:ρ->β):β:=match o with
 | .fin _=>f
 | .ret r=>g r
theorem Ky_ {ρ β:Type} {l:β} {o:Lo Unit ρ} {f:β} {g:ρ->β} (h:l=lp0 o f g) (k:o = .fin ()):l=f:=by subst k;exact h
theorem Dz_ {ρ β:Type} {l:β} {o:Lo Unit ρ} {f:β} {g:ρ->β} {r:ρ} (h:l=lp0 o f g) (k:o = .ret r):l=g r:=by subst k;exact h
theorem G6_ {ρ β:Type} {l:β} {X:Lo Unit ρ} {f:β} {g:ρ->β} (h:l=lp0 X f g):∃ o,o=X/\l=lp0 o f g:=⟨_,rfl,h⟩
def lp2 {σ1 σ2 ρ β:Type} (o:Lo (σ1×σ2) ρ) (f:σ1->σ2->β) (g:ρ->β):β:=match o with
 | .fin s=>f s.1 s.2
 | .ret r=>g r
def gt {α:Type} [Inhabited α] (xs:List α) (k:Nat):α:=xs.getD k default
theorem getG {α:Type} [Inhabited α] {xs:List α} {k:Nat} (h:k<xs.length):xs[k]? = some (gt xs k):=by
 rw[gt,List.getD_eq_getElem?_getD,List.getElem?_eq_getElem h];rfl
theorem Gq_ {α:Type} [Inhabited α] {xs:List α} {k:Nat} (h:k<xs.length):xs.drop k=gt xs k::xs.drop (k+1):=Kn_ (getG h)
theorem gt_mem {α:Type} [Inhabited α] {xs:List α} {k:Nat} (h:k<xs.length):gt xs k∈xs:=List.mem_of_getElem? (getG h)
theorem Gr_ {α:Type} {xs:List α} {k:Nat} (h:¬k<xs.length):xs.drop k=[]:=List.drop_of_length_le xI
theorem Cg_ {α τ:Type} {l:τ} {xs ys:List α} {f:List α->τ} {v:τ} (e:l=f xs) (h:xs=ys) (k:f ys=v):l=v:=by subst h;exact e.trans k
theorem Dn_ {α:Type} {p:PV} {a v:α} (f:α->PV) (e:a=v) (h:PLe p (f v)):PLe p (f a):=by subst e;exact h
variable {P:Program} {n:Nat} {N:Rest} {H0:Env} {all rest:List Oper} {Q:Qs} {ks:List Kt} {fF:Nat->PV} {fL:Nat->Blk} {T T' T2 ty d:Nat} {pos:String} {af:Array Edge} {x y z:Operand} {K:St->Prop} {op:Op} {p:PV}
theorem joinc {ι:Type} {X:Code} (keep kL:List Nat) (lv:ι->List (Nat×PV)) (lL:ι->List (Nat×Blk)) (Φ:ι->Prop) (h:Hd P n N H0 Q (.code X) (.lp (LJ (λx=>⟨mkF (lv x) keep fF,mkL (lL x) kL fL⟩) Φ (λ_=>0) 1)::ks) ⟨fF,fL⟩) (k:∀ x,Φ x->Hd P n N H0 Q (.ex .normal) ks ⟨mkF (lv x) keep fF,mkL (lL x) kL fL⟩):Hd P n N H0 Q (.code X) ks ⟨fF,fL⟩:=by
 intro F H L ha;refine Fd_ (λe F' H' L' hq=>?_) (h F H L ha);obtain⟨s',ha',hq'⟩:=hq
 cases e with
 |normal=>obtain⟨x,h1,_,h3⟩:=hq';exact⟨_,h3 _ _ _ _ ha',k x h1⟩
 |_=>exact⟨s',ha',hq'⟩
theorem callv {α:Type} (g:α) (res:α->PV) {f:FuncId} {args:List PV} {xs:Array Operand} {ats:Array TypeId} (h:Fn P H0.g f args (res g)) (ha:argsP fF x xs.toList=some (f,args)) (hd:Nat.blt d n=true) (k:∀ r,r=g->(res r).wf->Hd P n N H0 Q (.ops all rest) ks ⟨updp fF d (res r),fL⟩):Hd P n N H0 Q (.ops all (⟨some d, .call ⟨.value x,xs,ats⟩,ty,pos,af,none⟩::rest)) ks ⟨fF,fL⟩:=call h ha hd (k g Y)
end Go.SW.V
namespace Go.SW
end Go.SW
namespace Go.SW.V
open Go.SW
end Go.SW.V
namespace Go.SW
open Go.ChangeShapes Go.WideShapes Go.ChangeAt Go.RowKit
def hp (w:World):Hp:=λb=>w.heap[b]?
def Qm_ (w:World):Rest:=⟨λ_=>none,w.os,w.tape,w.output⟩
theorem mem0 (w:World):Mem (Qm_ w) (hp w) l0 w:=
 {os:=rfl,tape:=rfl,output:=rfl,n:=λ_ _ h=>xW,h:=λ_ _ h=>h,l:=λ_ _ _ h=>xW,nh:=λ_ _ h=>xW,nl:=λ_ _ _ h=>xW,ll:=λ_ _ _ _ _ h=>xW}
theorem Ng_ {w w':World} {L:Ls} (h:Mem (Qm_ w) (hp w) L w'):Below w.heap.size w w':=by
 have hb:∀ k,k<w.heap.size->w'.heap[k]? = w.heap[k]? :=λk hk=>by
   have e:w.heap[k]? = some w.heap[k]:=Array.getElem?_eq_getElem hk
   rw[e];exact h.h k _ e
 refine⟨h.os,h.tape,h.output,?_,hb⟩;by_cases z:w.heap.size=0;omega;have :=hb (w.heap.size-1) xI;exact yD
section
variable {Ht:Type} {enc:TypeId×Value->Ht} {P:Program} {w:World} {base fuel:Nat} {spare:Nat->Bool} {held:Bool} {cs:List Value} {x:DataW Ht×List MemPlace} {t:TypeId}
theorem rd_int {k:IntKind} (ht:P.underlying t=some (.int k)) (h:DataW.trod enc P w base spare held fuel t cs=some x):∃ z:Int,cs=[.int k z]/\k.min<=z/\z<=k.max:=by
 obtain⟨z,h1,_,h2⟩:=DataW.trod_int ht h;refine⟨z,h1,?_⟩;simp only[Lit.wf,Bool.and_eq_true,decide_eq_true_eq] at h2;exact h2
theorem rd_str (ht:P.underlying t=some .string) (h:DataW.trod enc P w base spare held fuel t cs=some x):∃ s:Bs,cs=[str s]/\s.length<=9223372036854775807:=by
 obtain⟨s,h1,_,h2⟩:=DataW.trod_string ht h;refine⟨s.data.toList,by rw[h1,Mw_],?_⟩;have :s.data.toList.length=s.size:=Array.length_toList;rw[this];exact h2
theorem Pf_ {α:Type} {Q:Nat->α->Prop}:∀ n,(∀ i,i<n->∃ r,Q i r)->∃ rs:List α,rs.length=n/\∀ i (h:i<rs.length),Q i rs[i]
 |0,_=>⟨[],rfl,λi h=>by cases h⟩
 |n+1,hq=>by
   obtain⟨rs,hl,hr⟩:=Pf_ n (λi hi=>hq i xI)
   obtain⟨r,hr0⟩:=hq n xI
   refine⟨rs++[r],by simp[hl],λi hi=>?_⟩
   by_cases e:i<rs.length
   . rw[List.getElem_append_left e];exact hr i e
   . have :i=rs.length:=by simp at hi;omega
     subst this
     rw[List.getElem_append_right (Nat.le_refl _)]
     simp only[Nat.sub_self,List.getElem_cons_zero]
     rw[hl];exact hr0
theorem rd_fld {fs:Array Field} {xs:List (DataW Ht×List MemPlace)} {n i o k:Nat} {f:Field} {ft:TypeId} (hf:∀ (i:Nat) (f:Field),fs[i]? = some f->DataW.trod enc P w base spare held n f.type ((cs.drop f.offset).take (P.cellsOf f.type))=xs[i]?) (hl:xs.length=fs.size)
   (hi:fs[i]? = some f) (ho:f.offset=o) (ht:f.type=ft) (hk:P.cellsOf ft=k):∃ y,DataW.trod enc P w base spare held n ft ((cs.drop o).take k)=some y:=by
 have h:=hf i f hi;have hlt:i<fs.size:=(Array.getElem?_eq_some_iff.1 hi).1;rw[ho,ht,hk,List.getElem?_eq_getElem xI] at h;exact⟨_,h⟩
end
theorem rd_agg {Ht:Type} {enc:TypeId×Value->Ht} {P:Program} {w:World} {r:Reach} {b0 base:Nat} {spare:Nat->Bool} {held:Bool} {t:TypeId} {fs:Array Field} {v:Value} {d:DataW Ht} {p:List MemPlace} (hs:P.underlying t=some (.struct fs)) (hv:Value.okWide P w r b0 t v)
   (h:DataW.Trod enc P w base spare held t v d p):∃ (l:List Value) (fuel:Nat),v = .agg l.toArray/\DataW.trod enc P w base spare held fuel t l=some (d,p):=by
 obtain⟨cs,rfl,_⟩:=okWide_struct hs hv;obtain⟨fuel,hf⟩:=h;exact⟨cs.toList,fuel,rfl,hf⟩
theorem Qe_ {P:Program} {ts:Array TypeId} (h:(ts.toList.all λt=>P.readableRec t && decide (t<P.types.size))=true):∀ t∈ts.toList,P.readableRec t=true/\t<P.types.size:=λt ht=>by
 have :=List.all_eq_true.1 h t ht
 exact yZ
theorem Nl_ {Ht:Type} {enc:TypeId×Value->Ht} {P:Program} {w:World} {r:Reach} {b0 base:Nat} {spare:Nat->Bool} {held:Bool} {t:TypeId} {k:IntKind} {v:Value} {d:DataW Ht} {p:List MemPlace} (hs:P.underlying t=some (.int k)) (hv:Value.okWide P w r b0 t v)
   (h:DataW.Trod enc P w base spare held t v d p):∃ z:Int,v = .int k z/\k.min<=z/\z<=k.max:=by
 obtain⟨z,rfl,_,_,hw⟩:=open_int hs hv h;refine⟨z,rfl,?_⟩;simp only[Lit.wf,Bool.and_eq_true,decide_eq_true_eq] at hw;exact hw
def flatD:Nat->DataW Unit->List Value
 |_, .lit (.int k n)=>[.int k n]
 |_, .lit (.string s)=>[.string ⟨s.toArray⟩]
 |_, .lit (.bool b)=>[.bool b]
 |n+1, .agg l=>l.flatMap (flatD n)
 |_,_=>[]
def layD (d:DataW Unit):Obj->Obj
 | .cells _ t frozen=> .cells (flatD 5 d).toArray t frozen
 |o=>o
theorem Jh_ {Ht:Type} {enc:TypeId×Value->Ht} {P:Program} (hl:laidOutB P=true) {W W':World} (hb:Below W.heap.size W W') {sp:Nat->Bool}:∀ {ts:List TypeId} {vs:List Value} {ds:List (DataW Ht)} {ps:List MemPlace},(∀ t∈ts,P.readableRec t=true/\t<P.types.size) ->
   DataW.TrodAll enc P W 0 (λ_=>true) true ts vs ds ps->(∀ x∈ps,x.block<W.heap.size)->(∀ x∈ps,sp x.block=true)->DataW.TrodAll enc P W' 0 sp true ts vs ds ps:=by
 intro ts
 induction ts with
 |nil=>intro vs ds ps _ h _ _;cases vs<;>cases ds<;>first|exact h|exact h.elim
 |cons t ts ih=>
   intro vs ds ps hr h hlt hsp
   obtain⟨v,vs',d,ds',p,q,rfl,rfl,rfl,h1,h2⟩:=trodAll_cons h
   exact trodAll_cons_mk (WideElems.Trod_stays hl (hr t xK).1 (hr t xK).2 h1 (λx hx=>hb.same (hlt x xQ)) (λx hx=>hsp x xQ)) (ih (λu hu=>hr u (by simp[hu])) h2 (λx hx=>hlt x xQ) (λx hx=>hsp x xQ))
section
variable {Ht:Type} {enc:TypeId×Value->Ht} {P:Program}
theorem Rz_ {f:Func} {s:ChangeSpec} {apart fresh again:Bool} {W W':World} {args:Array Value} {ds:List (DataW Ht)} {before:List MemPlace} {tb:TypeId} (hvars:s.vars=[])
   (hW:DataW.Whole enc P f.params.toList s.vars apart W args.toList ds [] before) (hb:Below W.heap.size W W') (hl:laidOutB P=true) (hr:∀ t∈f.params.toList,P.readableRec t=true/\t<P.types.size)
   (hres:f.resultTypes = #[tb]) (hu:P.underlying tb=some .bool) (hfn:s.fn Ht (ds++[])={results:=[.lit (.bool true)],args:=ds}):s.post enc P f apart fresh false again W args (.bool true) W':=by
 have hlt:∀ p∈before,p.block<W.heap.size:=λp hp=>hW.lt p hp;have hold:∀ p∈before,(λb=>decide (b<W.heap.size)) p.block=true:=λp hp=>by simpa using hlt p hp
 have hW0:=hW;obtain⟨p,q,hA,hV,rfl,hz,hn⟩:=hW0;have hq:q=[]:=by
   rw[hvars] at hV
   exact (trodVars_none hV).2
 subst hq;rw[List.append_nil] at hlt hold hz hn hW;have hA0:DataW.TrodAll enc P W 0 (λ_=>true) true f.params.toList args.toList ds p:=hA;have hargs:∀ sp:Nat->Bool,(∀ x∈p,sp x.block=true)->DataW.TrodAll enc P W' 0 sp true f.params.toList args.toList ds p:=λsp hs=>Jh_ hl hb hr hA0 hlt hs;have hvs:∀ sp:Nat->Bool,DataW.TrodVars enc P W' sp s.vars ([]:List (DataW Ht)) []:=λsp=>by rw[hvars];rfl
 have hR:∀ (b:Nat) (sp:Nat->Bool) (hd:Bool),DataW.TrodAll enc P W' b sp hd f.resultTypes.toList ((Value.bool true).resultList f.resultTypes.size) [.lit (.bool true)] []:=λb sp hd=>by
   rw[hres]
   exact trodAll_mk1 (shut_bool hu true)
 have hok:∀ (j:Nat) (t:TypeId) (r:Value),f.resultTypes[j]? = some t->((Value.bool true).resultList f.resultTypes.size)[j]? = some r->Value.okWide P W' .any 0 t r:=ok_one hres Y (okWide_bool_mk hu true);refine⟨ds,[],p,[],p,[],hW,?_,?_,?_,World.keptBut_mono (λx hx=>⟨hx,Or.inr (by simpa using hx)⟩) (hb.frame (· ∈ p)),λ_=>?_⟩;rw[hfn];exact hR _ _ _;rw[hfn];exact hargs _ hold;rw[hfn];exact hvs _;refine⟨hok,_,_,([]++p)++[],⟨[]++p,[],trodAll_append (hargs _ (λ_ _=>rfl)) (hR _ _ _),hvs _,rfl,?_,?_⟩,?_⟩;intro b off hp;have hin:MemPlace.cell b off∈p:=by simpa using hp
 rw[hb.frozen (hlt _ hin)];exact hz b off hin;intro ha;have :=hn ha;exact yZ;intro x hx _;simpa using hx
theorem Iu_ {w:World} {g:Nat} {t:TypeId} {zero:Array Value} (h:w.ShapedOpen P) (hg:g<P.globals.size)
   (h0:((begin P (λ_ _=>0) default).world.heap[g]?).bind Obj.row?=some (zero,t)) (hz:zero.size=1)
   (hb:P.buildable t=true) (hc:P.cellTypes P.depth t=some [t]) (hu:P.underlying t=some (.int .i64)):GInt (hp w) g:=by
 obtain⟨cs,hh,hs,hr⟩:=h.1 g zero t hg h0;obtain⟨ts,hts,_,hall⟩:=hr hb;rw[hc] at hts
 cases hts
 have h1:0<cs.size:=by omega
 obtain⟨u,hu',hok⟩:=hall 0 cs[0] (by simp[h1]);have :u=t:=by simpa using hu'.symm
 subst this;unfold Cell.ok at hok;rw[hu] at hok;have hv:∃ m,cs[0] = .int .i64 m:=by
   cases hv:cs[0]<;>rw[hv] at hok<;>first|exact⟨_,by rw[hok.1]⟩|simp at hok
 obtain⟨m,hm⟩:=hv;refine⟨m,u,(0,0),?_⟩;show w.heap[g]? = _;rw[hh];have e:cs = #[.int .i64 m]:=by
   apply Array.ext
   . simp;omega
   . intro i hi1 hi2
     have :i=0:=by simp at hi2;omega
     subst this
     simpa using hm
 rw[e]
theorem Ov_ {w:World} {g n:Nat} {name:String} {k:IntKind} {zs:List Int} {rest:List (String×DataW Unit)} {t e:TypeId} (hg:P.globalNamed name=some g) (hty:(P.globals[g]?).map (·.type)=some t) (ht:P.underlying t=some (.array n e)) (he:P.underlying e=some (.int k)) (hce:P.cellsOf e=1) (hct:P.cellsOf t=n)
   (h:laidMet P ((name,Lib.tabData k zs)::rest) w):∃ T fr,hp w g=some (.cells (zs.map (Value.int k)).toArray T fr):=by
 have hT:=Lib.tabIs_of_head hg hty ht he hce hct h;unfold Lib.TabIs World.var? at hT;rw[hg] at hT;simp only[Option.bind_some] at hT
 split at hT
 . rename_i cs T fr hh
   cases hT
   exact⟨T,fr,hh⟩
 . cases hT
end
variable {P:Program}
theorem Oa_ {Ht:Type} {enc:TypeId×Value->Ht} {w:World} {base fuel:Nat} {spare:Nat->Bool} {held:Bool} {a:Option Addr} {l c:Nat} {x:DataW Ht×List MemPlace} {t e:TypeId} (ht:P.underlying t=some (.slice e))
   (h:DataW.trod enc P w base spare held fuel t [.slice a l c]=some x):x.1 = .nil/\l=0\/∃ el sp,x.1 = .slice el sp/\el.length=l:=by
 rcases Go.Deep.open_slice ht h with ⟨h1,h2⟩|⟨a',len,cap,m,nf,D,Pl,h1,_,hl,hm,hmm,hx,_⟩
 . cases h1;subst h2;exact .inl ⟨rfl,rfl⟩
 . cases h1;subst hx;exact .inr ⟨_,_,rfl,by simp⟩
theorem Ka_ {w:World} {r:Reach} {b0:Nat} {t e:TypeId} {v:Value} {a:Option Addr} {l c:Nat} (hs:P.underlying t=some (.slice e)) (hv:Value.okWide P w r b0 t v) (he:v.cells.toList=[.slice a l c]):v = .slice a l c:=by
 unfold Value.okWide at hv;rw[hs] at hv;simp only at hv;unfold Cell.okWide at hv;rw[hs] at hv
 cases v with
 |agg cs=>simp[Cell.ok,hs] at hv
 |_=>exact (List.cons.inj he).1
end Go.SW
namespace Go.SW
open Go.ChangeShapes Go.WideShapes Go.ChangeAt Go.RowKit
variable {P:Program}
def Rdv {α:Type} (P:Program) (t:TypeId) (en:α->List PV) (k:Nat):Prop:=
 ∀ (Ht:Type) (enc:TypeId×Value->Ht) (w:World) (base:Nat) (spare:Nat->Bool) (held:Bool) (fuel:Nat) (cs:List Value) (x:DataW Ht×List MemPlace),
   DataW.trod enc P w base spare held fuel t cs=some x->(∀ n∈x.1.weights P t,n<=reachBytes)->∃ r:α,RowE en k (hp w) r cs
theorem Sj_ {α:Type} {en:α->List PV} {H:Hp} {r:α} {p:PV} {v:Value} (he:en r=[p]) (h:Sim H p v) (ho:v.oneCell'=true):RowE en 1 H r [v]:=
 ⟨by rw[he];rfl,by rw[he];exact Sims.nil.cons h,λu hu=>by rw[List.mem_singleton.1 hu];exact ho⟩
theorem Bd_ {k:IntKind} {t:TypeId} (ht:P.underlying t=some (.int k)):Rdv P t (λz:Int=>[.int k z]) 1:=λ_ _ _ _ _ _ _ _ _ h _=>by
 obtain⟨z,rfl,h1,h2⟩:=rd_int ht h
 exact⟨z,Sj_ Y (.int h1 h2) Y⟩
theorem Qk_ {t:TypeId} (ht:P.underlying t=some .string):Rdv P t (λs:Bs=>[.str s]) 1:=λ_ _ _ _ _ _ _ _ _ h _=>by
 obtain⟨s,rfl,h1⟩:=rd_str ht h
 exact⟨s,Sj_ Y (.str h1) Y⟩
theorem Eq_ {H:Type} {e:TypeId}:∀ {ds:List (DataW H)} {d:DataW H} {n:Nat},d∈ds->n∈d.weights P e->n∈DataW.weightsAll P e ds
 |[],_,_,h,_=>by cases h
 |d0::r,d,n,h,hn=>by
   simp only[DataW.weightsAll,List.mem_append]
   rcases List.mem_cons.1 h with rfl|q
   . exact .inl hn
   . exact .inr (Eq_ q hn)
theorem E7_ {α:Type} {en:α->List PV} {k:Nat} {t e:TypeId} (ht:P.underlying t=some (.slice e)) (hk:P.cellsOf e=k) (h0:0<k) (hb:0<P.bytesOf e) (he:Rdv P e en k):Rdv P t (λxs:List α=>[.sl en xs]) 1:=λHt enc w base spare held fuel cs x h hw=>by
 have hlen:∀ {a:Option Addr} {l c:Nat},cs=[.slice a l c]->l<=140737488355328:=λ{a l c} hcs=>by
   subst hcs
   rcases Oa_ ht h with ⟨_,rfl⟩|⟨el,sp,hx,rfl⟩
   . exact Nat.zero_le _
   . have :=hw ((el.length+sp.length)*P.bytesOf e) (by rw[hx];simp[DataW.weights,ht])
     have h1:el.length<=(el.length+sp.length)*P.bytesOf e:=Nat.le_trans (Nat.le_add_right _ _) (Nat.le_mul_of_pos_right _ hb)
     have h2:reachBytes=140737488351232:=by decide
     omega
 rcases Go.Deep.open_slice ht h with ⟨h1,_⟩|⟨a,len,cap,m,nf,D,Pl,h1,_,hl,hm,hmm,hx,hi⟩
 . subst h1
   exact⟨[],Sj_ Y (Sim.of_slh (k:=0) Qv_ xK) rfl⟩
 . have hs0:0<len->a=⟨a.block,a.off,none⟩:=by
     intro hl0
     obtain⟨cs',hc,hT⟩:=hi 0 (by rw[hmm];split<;>omega)
     rw[hk,Nat.zero_mul] at hc
     obtain⟨_,hcl,hat⟩:=World.cells?_some hc
     have ha0:=hat 0 h0
     rw[List.getElem?_eq_getElem xI] at ha0
     obtain⟨ab,ao,asp⟩:=a
     cases asp with
     |none=>rfl
     |some z=>
       exfalso
       unfold World.cell? at ha0
       simp only[Addr.add] at ha0
       split at ha0<;>simp at ha0
   have hwD:∀ i,i<len->∀ n∈(D i).weights P e,n<=reachBytes:=λi hil n hn=>by
     refine hw n ?_
     rw[hx]
     simp only[DataW.weights,ht,List.mem_cons,List.mem_append]
     exact .inr (.inl (Eq_ (List.mem_map.2 ⟨i,List.mem_range.2 hil,rfl⟩) hn))
   have key:∀ i,i<len->∃ r:α,∃ cs',RowE en k (hp w) r cs'/\SlAt (hp w) (.slice (some a) len cap) k i cs':=by
     intro i hil
     have ha:=hs0 xI
     obtain⟨cs',hc,hT⟩:=hi i (by rw[hmm];split<;>omega)
     obtain⟨r,hr⟩:=he _ _ _ _ _ _ _ _ _ hT (hwD i hil)
     rw[hk] at hc
     obtain⟨_,hcl,hat⟩:=World.cells?_some hc
     refine⟨r,cs',hr,?_⟩
     generalize a.block=ab at ha
     generalize a.off=ao at ha
     subst ha
     simp only[J_] at hat
     have ha0:=hat 0 h0
     rw[List.getElem?_eq_getElem xI] at ha0
     unfold World.cell? at ha0
     simp only at ha0
     split at ha0
     . rename_i c T fr hb
       refine⟨ab,ao,len,cap,c,T,fr,rfl,hb,hcl,λj hj=>?_⟩
       have :=hat j hj
       unfold World.cell? at this
       simp only at this
       rw[hb] at this
       exact yZ
     . cases ha0
   obtain⟨rs,hlen',hr⟩:=Pf_ (Q:=λi (r:α)=>∃ cs',RowE en k (hp w) r cs'/\SlAt (hp w) (.slice (some a) len cap) k i cs') len key
   have hs:SlH (RowE en k) k (hp w) (.slice (some a) rs.length cap) rs:=⟨⟨some a,cap,rfl,by omega⟩,λi hi=>by rw[hlen'];exact hr i hi⟩
   subst h1
   have hle:=hlen (rfl :[Value.slice (some a) len cap]=_)
   refine⟨rs,Sj_ Y (v:= .slice (some a) len cap) (by rw[<- hlen'];exact Sim.of_slh hs xI) Y⟩
theorem Sk_ {ps qs:List PV} {H:Hp} {cs ds:List Value} {m n:Nat} (h:ps.length=m/\Sims H ps cs/\∀ u∈cs,u.oneCell'=true) (k:qs.length=n/\Sims H qs ds/\∀ u∈ds,u.oneCell'=true):(ps++qs).length=m+n/\Sims H (ps++qs) (cs++ds)/\∀ u∈cs++ds,u.oneCell'=true:=
 ⟨by simp[h.1,k.1],h.2.1.append k.2.1,λu hu=>by rcases List.mem_append.1 hu with q|q;exact h.2.2 u q;exact k.2.2 u q⟩
theorem An_ {Ht:Type} {enc:TypeId×Value->Ht} {w:World} {base:Nat} {spare:Nat->Bool} {held:Bool} {cs:List Value} {t:TypeId} {fs:Array Field} {xs:List (DataW Ht×List MemPlace)} {n i o k:Nat} {f:Field} {ft:TypeId} {α:Type} {en:α->List PV} (ht:P.underlying t=some (.struct fs))
   (hf:∀ (i:Nat) (f:Field),fs[i]? = some f->DataW.trod enc P w base spare held n f.type ((cs.drop f.offset).take (P.cellsOf f.type))=xs[i]?) (hl:xs.length=fs.size) (hw:∀ q∈(DataW.agg (xs.map (·.1)):DataW Ht).weights P t,q<=reachBytes)
   (hi:fs[i]? = some f) (ho:f.offset=o) (hft:f.type=ft) (hk:P.cellsOf ft=k) (hr:Rdv P ft en k):∃ r,RowE en k (hp w) r ((cs.drop o).take k):=by
 obtain⟨y,hy⟩:=rd_fld hf hl hi ho hft hk;refine hr _ _ _ _ _ _ _ _ _ hy λq hq=>hw q ?_;have h:=hf i f hi;rw[ho,hft,hk,hy] at h;simp only[DataW.weights,ht];refine DataW.weights_mem_each (j:=i) (t:=ft) (d:=y.1) ?_ ?_ q hq;rw[List.getElem?_map,Array.getElem?_toList,hi];simp[hft];rw[List.getElem?_map,<- h];rfl
theorem Bf_ {en:List PV} {H:Hp} {cs:List Value} {o k:Nat} {q:Nat} (h:en.length=k/\Sims H en ((cs.drop o).take k)/\∀ u∈(cs.drop o).take k,u.oneCell'=true) {es:List PV} (hr:es.length=q/\Sims H es (cs.drop (o+k))/\∀ u∈cs.drop (o+k),u.oneCell'=true):(en++es).length=k+q/\Sims H (en++es) (cs.drop o)/\∀ u∈cs.drop o,u.oneCell'=true:=by
 have :=Sk_ h hr;rw[<- List.drop_drop,List.take_append_drop] at this;exact this
theorem E9_ {en:List PV} {H:Hp} {cs:List Value} {o k:Nat} (hl:cs.length=o+k) (h:en.length=k/\Sims H en ((cs.drop o).take k)/\∀ u∈(cs.drop o).take k,u.oneCell'=true):en.length=k/\Sims H en (cs.drop o)/\∀ u∈cs.drop o,u.oneCell'=true:=by
 rw[List.take_of_length_le xN] at h;exact h
section
variable {Ht:Type} {enc:TypeId×Value->Ht} {w:World} {r:Reach} {b0 base:Nat} {spare:Nat->Bool} {held:Bool} {t:TypeId} {v:Value} {d:DataW Ht} {p:List MemPlace}
theorem Kk_ {k:IntKind} (hs:P.underlying t=some (.int k)) (hv:Value.okWide P w r b0 t v) (h:DataW.Trod enc P w base spare held t v d p):∃ z:Int,Sim (hp w) (.int k z) v:=by
 obtain⟨z,rfl,h1,h2⟩:=Nl_ hs hv h;exact⟨z, .int h1 h2⟩
theorem arg_rec {α:Type} {en:α->List PV} {k:Nat} {fs:Array Field} (hs:P.underlying t=some (.struct fs)) (hv:Value.okWide P w r b0 t v) (h:DataW.Trod enc P w base spare held t v d p) (hw:∀ q∈d.weights P t,q<=reachBytes) (hr:Rdv P t en k):∃ z:α,Sim (hp w) (.agg (en z)) v:=by
 obtain⟨l,fuel,rfl,h1⟩:=rd_agg hs hv h;obtain⟨z,h2⟩:=hr _ _ _ _ _ _ _ _ _ h1 hw;exact⟨z,Sim.toAgg h2.2.1⟩
theorem arg_sl {α:Type} {en:α->List PV} {e:TypeId} (hs:P.underlying t=some (.slice e)) (hv:Value.okWide P w r b0 t v) (h:DataW.Trod enc P w base spare held t v d p) (hw:∀ q∈d.weights P t,q<=reachBytes) (hr:Rdv P t (λxs:List α=>[.sl en xs]) 1):∃ z:List α,Sim (hp w) (.sl en z) v:=by
 obtain⟨fuel,h1⟩:=h;obtain⟨z,h2⟩:=hr _ _ _ _ _ _ _ _ _ h1 hw;obtain⟨u,us,e1,h3,h4⟩:=h2.2.1.inv_cons
 cases h4.inv_nil
 have :∃ a l c,u = .slice a l c:=by cases h3;exact⟨_,_,_,rfl⟩
 obtain⟨a,l,c,rfl⟩:=this;obtain rfl :=Ka_ hs hv e1;exact⟨z,h3⟩
theorem Uf_ {ts:List TypeId} {ds:List (DataW Ht)} {j:Nat} (hw:(DataW.weightsEach P ts ds).all (· <= reachBytes)=true) (ht:ts[j]? = some t) (hd:ds[j]? = some d):∀ q∈d.weights P t,q<=reachBytes:=λq hq=>by
 have :=List.all_eq_true.1 hw q (DataW.weights_mem_each ht hd q hq)
 exact yZ
end
theorem law_run {G:Gb} {f:FuncId} {args:List PV} {b:Bool} {vs:List Value} {W:World} (h:Fn P G f args (.bool b)) (hg:G.p (hp W)) (hs:Sims (hp W) args vs) (hb:b=true):Calls P f vs.toArray W λe W'=>e = .returned (.bool true)/\Mem (Qm_ W) (hp W) l0 W':=
 (h.run (Qm_ W) (hp W) l0 W vs hg hs (mem0 W)).mono λ_ _ ⟨v,H',h1,h2,h3,h4⟩=>⟨by rw[h1,h2.inv_bool,hb],h4.le h3⟩
end Go.SW
namespace Go.SW.V
open Go.SW
variable {P:Program} {n m:Nat} {N:Rest} {H0:Env} {all rest:List Oper} {Q:Qs} {ks:List Kt} {fF gF:Nat->PV} {fL gL:Nat->Blk} {T ty d:Nat} {pos:String} {af:Array Edge} {x y z:Operand}
end Go.SW.V
namespace Go.SW.V
open Go.SW
variable {P:Program} {n:Nat} {N:Rest} {H0:Env} {all rest:List Oper} {Q:Qs} {ks:List Kt} {fF:Nat->PV} {fL:Nat->Blk} {T ty d:Nat} {pos:String} {af:Array Edge} {x y z:Operand} {K:St->Prop}
end Go.SW.V
namespace Go.SW.V
open Go.SW
variable {P:Program} {n:Nat} {N:Rest} {H0:Env} {all rest:List Oper} {Q:Qs} {ks:List Kt} {fF:Nat->PV} {fL:Nat->Blk} {T ty d:Nat} {pos:String} {af:Array Edge} {x y z:Operand} {K:St->Prop}
structure A8 (α:Type) where
 (e0 e1 e2 e3 e4 e5 e6 e7:α)
deriving DecidableEq,Inhabited
structure A16 (α:Type) where
 (e0 e1 e2 e3 e4 e5 e6 e7 e8 e9 e10 e11 e12 e13 e14 e15:α)
deriving DecidableEq,Inhabited
def A8.get {α:Type} (a:A8 α):Nat->α
 |0=>a.e0|1=>a.e1|2=>a.e2|3=>a.e3|4=>a.e4|5=>a.e5|6=>a.e6|_=>a.e7
def A16.get {α:Type} (a:A16 α):Nat->α
 |0=>a.e0|1=>a.e1|2=>a.e2|3=>a.e3|4=>a.e4|5=>a.e5|6=>a.e6|7=>a.e7|8=>a.e8|9=>a.e9|10=>a.e10|11=>a.e11|12=>a.e12|13=>a.e13|14=>a.e14|_=>a.e15
def A8.set {α:Type} (a:A8 α) (v:α):Nat->A8 α
 |0=>{a with e0:=v}|1=>{a with e1:=v}|2=>{a with e2:=v}|3=>{a with e3:=v}|4=>{a with e4:=v}|5=>{a with e5:=v}|6=>{a with e6:=v}|_=>{a with e7:=v}
def A16.set {α:Type} (a:A16 α) (v:α):Nat->A16 α
 |0=>{a with e0:=v}|1=>{a with e1:=v}|2=>{a with e2:=v}|3=>{a with e3:=v}|4=>{a with e4:=v}|5=>{a with e5:=v}|6=>{a with e6:=v}|7=>{a with e7:=v}|8=>{a with e8:=v}|9=>{a with e9:=v}|10=>{a with e10:=v}|11=>{a with e11:=v}|12=>{a with e12:=v}|13=>{a with e13:=v}|14=>{a with e14:=v}|_=>{a with e15:=v}
end Go.SW.V
namespace Go.SW
structure Ax_ where
 A0_:Mail
 Pe_:Bool
 again:Bool
deriving DecidableEq,Inhabited
def Ax_.pc (x:Ax_):List PV:=[.int .u64 x.A0_.id, .str x.A0_.Dv_, .str x.A0_.key, .sl Pair.pc x.A0_.head, .str x.A0_.body, .int .u64 x.A0_.due, .int .u8 x.A0_.hops, .bool x.Pe_, .bool x.again]
structure Ap_ where
 level:Int
 Qt_:Int
deriving DecidableEq,Inhabited
def Ap_.pc (x:Ap_):List PV:=[.int .u8 x.level, .int .u32 x.Qt_]
structure Ad_ where
 name:Bs
 label:Ap_
 bytes:Int
 base:Int
deriving DecidableEq,Inhabited
def Ad_.pc (x:Ad_):List PV:=[.str x.name, .int .u8 x.label.level, .int .u32 x.label.Qt_, .int .i64 x.bytes, .int .u64 x.base]
structure T_ where
 frm:Int
 to':Int
 budget:Int
deriving DecidableEq,Inhabited
def T_.pc (x:T_):List PV:=[.int .i64 x.frm, .int .i64 x.to', .int .i64 x.budget]
structure A_ where
 work:Int
 give:Int
 places:List Ad_
 slots:List Int
 grants:List T_
deriving DecidableEq,Inhabited
def A_.pc (x:A_):List PV:=[.int .i64 x.work, .int .i64 x.give, .sl Ad_.pc x.places, .sl i64c x.slots, .sl T_.pc x.grants]
structure Ki_ where
 tick:Int
 kind:Int
 text:Bs
deriving DecidableEq,Inhabited
def Ki_.pc (x:Ki_):List PV:=[.int .u64 x.tick, .int .u8 x.kind, .str x.text]
structure El_ where
 total:Int
 kept:List Ki_
deriving DecidableEq,Inhabited
def El_.pc (x:El_):List PV:=[.int .u64 x.total, .sl Ki_.pc x.kept]
structure A3_ where
 items:List Ax_
deriving DecidableEq,Inhabited
def A3_.pc (x:A3_):List PV:=[.sl Ax_.pc x.items]
structure Ln_ where
 q:Ct_
 l:A3_
deriving DecidableEq,Inhabited
def Ln_.pc (x:Ln_):List PV:=[.str x.q.name, .int .u64 x.q.most, .int .u64 x.q.life, .str x.q.dead, .sl Ax_.pc x.l.items]
structure Jj_ where
 total:Int
 kept:List Mail
deriving DecidableEq,Inhabited
def Jj_.pc (x:Jj_):List PV:=[.int .u64 x.total, .sl Mail.pc x.kept]
abbrev A16_RiseR:=V.A16 Jj_
def A16_RiseR.pc (x:A16_RiseR):List PV:=[.int .u64 x.e0.total, .sl Mail.pc x.e0.kept, .int .u64 x.e1.total, .sl Mail.pc x.e1.kept, .int .u64 x.e2.total, .sl Mail.pc x.e2.kept, .int .u64 x.e3.total, .sl Mail.pc x.e3.kept, .int .u64 x.e4.total, .sl Mail.pc x.e4.kept, .int .u64 x.e5.total, .sl Mail.pc x.e5.kept, .int .u64 x.e6.total, .sl Mail.pc x.e6.kept, .int .u64 x.e7.total, .sl Mail.pc x.e7.kept, .int .u64 x.e8.total, .sl Mail.pc x.e8.kept, .int .u64 x.e9.total, .sl Mail.pc x.e9.kept, .int .u64 x.e10.total, .sl Mail.pc x.e10.kept, .int .u64 x.e11.total, .sl Mail.pc x.e11.kept, .int .u64 x.e12.total, .sl Mail.pc x.e12.kept, .int .u64 x.e13.total, .sl Mail.pc x.e13.kept, .int .u64 x.e14.total, .sl Mail.pc x.e14.kept, .int .u64 x.e15.total, .sl Mail.pc x.e15.kept]
abbrev A16_u64:=V.A16 Int
def A16_u64.pc (x:A16_u64):List PV:=[.int .u64 x.e0, .int .u64 x.e1, .int .u64 x.e2, .int .u64 x.e3, .int .u64 x.e4, .int .u64 x.e5, .int .u64 x.e6, .int .u64 x.e7, .int .u64 x.e8, .int .u64 x.e9, .int .u64 x.e10, .int .u64 x.e11, .int .u64 x.e12, .int .u64 x.e13, .int .u64 x.e14, .int .u64 x.e15]
structure Nt_ where
 round:Int
 count:Int
deriving DecidableEq,Inhabited
def Nt_.pc (x:Nt_):List PV:=[.int .u64 x.round, .int .i64 x.count]
abbrev A8_SpentR:=V.A8 Nt_
def A8_SpentR.pc (x:A8_SpentR):List PV:=[.int .u64 x.e0.round, .int .i64 x.e0.count, .int .u64 x.e1.round, .int .i64 x.e1.count, .int .u64 x.e2.round, .int .i64 x.e2.count, .int .u64 x.e3.round, .int .i64 x.e3.count, .int .u64 x.e4.round, .int .i64 x.e4.count, .int .u64 x.e5.round, .int .i64 x.e5.count, .int .u64 x.e6.round, .int .i64 x.e6.count, .int .u64 x.e7.round, .int .i64 x.e7.count]
structure W_ where
 next :Int
 bytes:Int
 rows:List Ln_
 rises:A16_RiseR
deriving DecidableEq,Inhabited
def W_.pc (x:W_):List PV:=[.int .u64 x.next, .int .i64 x.bytes, .sl Ln_.pc x.rows, .int .u64 x.rises.e0.total, .sl Mail.pc x.rises.e0.kept, .int .u64 x.rises.e1.total, .sl Mail.pc x.rises.e1.kept, .int .u64 x.rises.e2.total, .sl Mail.pc x.rises.e2.kept, .int .u64 x.rises.e3.total, .sl Mail.pc x.rises.e3.kept, .int .u64 x.rises.e4.total, .sl Mail.pc x.rises.e4.kept, .int .u64 x.rises.e5.total, .sl Mail.pc x.rises.e5.kept, .int .u64 x.rises.e6.total, .sl Mail.pc x.rises.e6.kept, .int .u64 x.rises.e7.total, .sl Mail.pc x.rises.e7.kept, .int .u64 x.rises.e8.total, .sl Mail.pc x.rises.e8.kept, .int .u64 x.rises.e9.total, .sl Mail.pc x.rises.e9.kept, .int .u64 x.rises.e10.total, .sl Mail.pc x.rises.e10.kept, .int .u64 x.rises.e11.total, .sl Mail.pc x.rises.e11.kept, .int .u64 x.rises.e12.total, .sl Mail.pc x.rises.e12.kept, .int .u64 x.rises.e13.total, .sl Mail.pc x.rises.e13.kept, .int .u64 x.rises.e14.total, .sl Mail.pc x.rises.e14.kept, .int .u64 x.rises.e15.total, .sl Mail.pc x.rises.e15.kept]
structure Lm_ where
 book:Ba_
 D_:W_
 notes:El_
 seen:A16_u64
 spent:A8_SpentR
deriving DecidableEq,Inhabited
def Lm_.pc (x:Lm_):List PV:=[.sl Bm_.pc x.book.Bn_, .sl Bg_.pc x.book.binds, .int .u64 x.D_.next, .int .i64 x.D_.bytes, .sl Ln_.pc x.D_.rows, .int .u64 x.D_.rises.e0.total, .sl Mail.pc x.D_.rises.e0.kept, .int .u64 x.D_.rises.e1.total, .sl Mail.pc x.D_.rises.e1.kept, .int .u64 x.D_.rises.e2.total, .sl Mail.pc x.D_.rises.e2.kept, .int .u64 x.D_.rises.e3.total, .sl Mail.pc x.D_.rises.e3.kept, .int .u64 x.D_.rises.e4.total, .sl Mail.pc x.D_.rises.e4.kept, .int .u64 x.D_.rises.e5.total, .sl Mail.pc x.D_.rises.e5.kept, .int .u64 x.D_.rises.e6.total, .sl Mail.pc x.D_.rises.e6.kept, .int .u64 x.D_.rises.e7.total, .sl Mail.pc x.D_.rises.e7.kept, .int .u64 x.D_.rises.e8.total, .sl Mail.pc x.D_.rises.e8.kept, .int .u64 x.D_.rises.e9.total, .sl Mail.pc x.D_.rises.e9.kept, .int .u64 x.D_.rises.e10.total, .sl Mail.pc x.D_.rises.e10.kept, .int .u64 x.D_.rises.e11.total, .sl Mail.pc x.D_.rises.e11.kept, .int .u64 x.D_.rises.e12.total, .sl Mail.pc x.D_.rises.e12.kept, .int .u64 x.D_.rises.e13.total, .sl Mail.pc x.D_.rises.e13.kept, .int .u64 x.D_.rises.e14.total, .sl Mail.pc x.D_.rises.e14.kept, .int .u64 x.D_.rises.e15.total, .sl Mail.pc x.D_.rises.e15.kept, .int .u64 x.notes.total, .sl Ki_.pc x.notes.kept, .int .u64 x.seen.e0, .int .u64 x.seen.e1, .int .u64 x.seen.e2, .int .u64 x.seen.e3, .int .u64 x.seen.e4, .int .u64 x.seen.e5, .int .u64 x.seen.e6, .int .u64 x.seen.e7, .int .u64 x.seen.e8, .int .u64 x.seen.e9, .int .u64 x.seen.e10, .int .u64 x.seen.e11, .int .u64 x.seen.e12, .int .u64 x.seen.e13, .int .u64 x.seen.e14, .int .u64 x.seen.e15, .int .u64 x.spent.e0.round, .int .i64 x.spent.e0.count, .int .u64 x.spent.e1.round, .int .i64 x.spent.e1.count, .int .u64 x.spent.e2.round, .int .i64 x.spent.e2.count, .int .u64 x.spent.e3.round, .int .i64 x.spent.e3.count, .int .u64 x.spent.e4.round, .int .i64 x.spent.e4.count, .int .u64 x.spent.e5.round, .int .i64 x.spent.e5.count, .int .u64 x.spent.e6.round, .int .i64 x.spent.e6.count, .int .u64 x.spent.e7.round, .int .i64 x.spent.e7.count]
structure Hz_ where
 x:Lm_
 Ab_:A_
 place:Int
deriving DecidableEq,Inhabited
def Hz_.pc (x:Hz_):List PV:=[.sl Bm_.pc x.x.book.Bn_, .sl Bg_.pc x.x.book.binds, .int .u64 x.x.D_.next, .int .i64 x.x.D_.bytes, .sl Ln_.pc x.x.D_.rows, .int .u64 x.x.D_.rises.e0.total, .sl Mail.pc x.x.D_.rises.e0.kept, .int .u64 x.x.D_.rises.e1.total, .sl Mail.pc x.x.D_.rises.e1.kept, .int .u64 x.x.D_.rises.e2.total, .sl Mail.pc x.x.D_.rises.e2.kept, .int .u64 x.x.D_.rises.e3.total, .sl Mail.pc x.x.D_.rises.e3.kept, .int .u64 x.x.D_.rises.e4.total, .sl Mail.pc x.x.D_.rises.e4.kept, .int .u64 x.x.D_.rises.e5.total, .sl Mail.pc x.x.D_.rises.e5.kept, .int .u64 x.x.D_.rises.e6.total, .sl Mail.pc x.x.D_.rises.e6.kept, .int .u64 x.x.D_.rises.e7.total, .sl Mail.pc x.x.D_.rises.e7.kept, .int .u64 x.x.D_.rises.e8.total, .sl Mail.pc x.x.D_.rises.e8.kept, .int .u64 x.x.D_.rises.e9.total, .sl Mail.pc x.x.D_.rises.e9.kept, .int .u64 x.x.D_.rises.e10.total, .sl Mail.pc x.x.D_.rises.e10.kept, .int .u64 x.x.D_.rises.e11.total, .sl Mail.pc x.x.D_.rises.e11.kept, .int .u64 x.x.D_.rises.e12.total, .sl Mail.pc x.x.D_.rises.e12.kept, .int .u64 x.x.D_.rises.e13.total, .sl Mail.pc x.x.D_.rises.e13.kept, .int .u64 x.x.D_.rises.e14.total, .sl Mail.pc x.x.D_.rises.e14.kept, .int .u64 x.x.D_.rises.e15.total, .sl Mail.pc x.x.D_.rises.e15.kept, .int .u64 x.x.notes.total, .sl Ki_.pc x.x.notes.kept, .int .u64 x.x.seen.e0, .int .u64 x.x.seen.e1, .int .u64 x.x.seen.e2, .int .u64 x.x.seen.e3, .int .u64 x.x.seen.e4, .int .u64 x.x.seen.e5, .int .u64 x.x.seen.e6, .int .u64 x.x.seen.e7, .int .u64 x.x.seen.e8, .int .u64 x.x.seen.e9, .int .u64 x.x.seen.e10, .int .u64 x.x.seen.e11, .int .u64 x.x.seen.e12, .int .u64 x.x.seen.e13, .int .u64 x.x.seen.e14, .int .u64 x.x.seen.e15, .int .u64 x.x.spent.e0.round, .int .i64 x.x.spent.e0.count, .int .u64 x.x.spent.e1.round, .int .i64 x.x.spent.e1.count, .int .u64 x.x.spent.e2.round, .int .i64 x.x.spent.e2.count, .int .u64 x.x.spent.e3.round, .int .i64 x.x.spent.e3.count, .int .u64 x.x.spent.e4.round, .int .i64 x.x.spent.e4.count, .int .u64 x.x.spent.e5.round, .int .i64 x.x.spent.e5.count, .int .u64 x.x.spent.e6.round, .int .i64 x.x.spent.e6.count, .int .u64 x.x.spent.e7.round, .int .i64 x.x.spent.e7.count, .int .i64 x.Ab_.work, .int .i64 x.Ab_.give, .sl Ad_.pc x.Ab_.places, .sl i64c x.Ab_.slots, .sl T_.pc x.Ab_.grants, .int .i64 x.place]
structure OutR where
 queue:Bs
 A0_:Mail
deriving DecidableEq,Inhabited
def OutR.pc (x:OutR):List PV:=[.str x.queue, .int .u64 x.A0_.id, .str x.A0_.Dv_, .str x.A0_.key, .sl Pair.pc x.A0_.head, .str x.A0_.body, .int .u64 x.A0_.due, .int .u8 x.A0_.hops]
structure Y_ where
 kind:Int
 place:Int
 client:Int
 chunk:Bs
 a:Int
 b:Int
deriving DecidableEq,Inhabited
def Y_.pc (x:Y_):List PV:=[.int .u8 x.kind, .int .i64 x.place, .int .u64 x.client, .str x.chunk, .int .i64 x.a, .int .i64 x.b]
end Go.SW
namespace Go.SW.V
open Go.SW
variable {P:Program} {n:Nat} {N:Rest} {H0:Env} {all rest:List Oper} {Q:Qs} {ks:List Kt} {fF:Nat->PV} {fL:Nat->Blk} {T ty d:Nat} {pos:String} {af:Array Edge} {x y z:Operand} {K:St->Prop}
theorem lo_sidx {F:Fr} {H:Hp} {L:Ls} {kk:IntKind} {k m b o len cap:Nat} {i:Int} {e:TypeId} (hx:ev F x = .slice (some ⟨b,o,none⟩) len cap) (hy:ev F y = .int kk i) (hT:P.underlying T=some (.slice e)) (hk:Sz P e k) (hi:i=m) (hm:m<len):SW.Lo P N (.indexAddr T x y) ty F H L (.pointer (some ⟨b,o+m*k,none⟩)):=λd pos af g w _=>by
 subst hi
 simp[execOp,hx,hy,Instr.indexAt,asIntOf,run_underlying hT,hk w,hm,J_]
theorem S5_ {α:Type} {s:St} {F:Fr} {H:Hp} {L:Ls} {i k e:Nat} {u:Value} {enc:α->List PV} {xs:List α} (ha:Abs H0 s F H L) (hb:s.L i = .arr u k e enc xs) (h0:0<xs.length) :
   ∃ b cap c f,u = .slice (some ⟨b,f.length,none⟩) xs.length cap/\L i=some (b,bx e (f++c))/\cap*k<=c.length/\xs.length<=cap/\Rl (RowE enc k) H xs (c.take (xs.length*k))/\xs.length<=140737488355328/\(k=1->f=[]):=by
 have h3:=ha.l i;rw[hb] at h3;obtain⟨cs,⟨hl,⟨_,h0',_⟩|⟨b,cap,c,f,rfl,hL,hcl,hle,htk,hff⟩⟩,hr,hm⟩:=h3;omega;exact⟨b,cap,c,f,rfl,hL,hcl,hle,by rw[htk];exact hr,hm,hff⟩
theorem eidx {α:Type} {tb:Tb} {ti te:TI} {kk:IntKind} {i e k:Nat} {z:Int} {u:Value} {enc:α->List PV} {xs:List α} (m:Nat) (ht:tbB P tb=true) (hx:evP fF x = .osl i) (hb:fL i = .arr u k e enc xs) (hy:evP fF y = .int kk z) (hti:lkT tb T=some ti) (htk:ti.k = .slc e) (hte:lkT tb e=some te) (hk:te.size=k) (hi:z=(m:Int)) (hm:m<xs.length) :
   Qy P N H0 ⟨fF,fL⟩ (.indexAddr T x y) ty (.val (.pointer (some ⟨sBlk u,sOff u+m*k,none⟩))):=λF H L ha=>by
 have h1:=A5_ ha.f x
 unfold Ok1 at h1
 simp only at h1
 rw[hx] at h1
 simp only[SimT,hb] at h1
 have h2:=(A5_ ha.f y).sim
 simp only at h2
 rw[hy] at h2
 obtain⟨b,cap,c,f,rfl,hL,_⟩:=S5_ ha (i:=i) hb xI
 have hsz:=(Bl_ ht hte).sz
 rw[hk] at hsz
 exact⟨_,Sim.val,λ_ _ _=>lo_sidx h1 h2.inv_int.1 ((Bl_ ht hti).slc htk) hsz hi hm⟩
theorem row_at {α:Type} {H:Hp} {enc:α->List PV} {k m:Nat} {xs:List α} {a:α} {c:List Value} (hr:Rl (RowE enc k) H xs (c.take (xs.length*k))) (ha:xs[m]? = some a):∃ ds,RowE enc k H a ds/\∀ j,j<k->c[m*k+j]? = ds[j]? :=by
 obtain⟨hm,rfl⟩:=List.getElem?_eq_some_iff.1 ha;obtain⟨ds,p,q⟩:=rl_at D6_ hr m hm;refine⟨ds,p,λj hj=>?_⟩;have :(m+1)*k<=xs.length*k:=Nat.mul_le_mul_right k xI;rw[Nat.add_mul] at this;rw[<- q j hj,List.getElem?_take,if_pos xI]
theorem elod1 {α:Type} {tb:Tb} {ti:TI} {i e k off:Nat} {u:Value} {enc:α->List PV} {xs:List α} {a:α} (p:PV) (m o:Nat) (ht:tbB P tb=true) (hx:evP fF x = .val (.pointer (some ⟨sBlk u,off,none⟩))) (hb:fL i = .arr u k e enc xs) (hti:lkT tb T=some ti) (hag:ti.k.isAgg=false) (ha':xs[m]? = some a) (hoff:off=sOff u+m*k+o) (hp:(enc a)[o]? = some p) (hn:p.noOsl=true) (hd:Nat.blt d n=true) (kk:p.wf->K ⟨updp fF d p,fL⟩):E1 P n N H0 all ⟨some d, .load T x,ty,pos,af,none⟩ none ⟨fF,fL⟩ K:=by
 intro F H L ha;have h1:=(A5_ ha.f x).sim;simp only at h1;rw[hx] at h1;have hm:m<xs.length:=(List.getElem?_eq_some_iff.1 ha').1;obtain⟨b,cap,c,f,rfl,hL,hcl,hle,hr,hbb,hff⟩:=S5_ ha (i:=i) hb xI;obtain⟨ds,⟨q1,q2,q3⟩,q4⟩:=row_at hr ha';have ho:o<k:=by rw[<- q1];exact (List.getElem?_eq_some_iff.1 hp).1
 obtain⟨v,hv⟩:∃ v,ds[o]? = some v:=⟨_,List.getElem?_eq_getElem (by rw[q2.1,q1];exact ho)⟩;have hs:=q2.2 o p v hp hv;have hg:=(Bl_ ht hti).ag;rw[hag] at hg;exact Fk_ hd (Bu_ h1.inv_val hg hL (by rw[hoff];show (f++c)[f.length+m*k+o]? = _;rw[Nat.add_assoc,List.getElem?_append_right xI,Nat.add_sub_cancel_left,q4 o ho];exact hv)) ⟨.refl H,λ_ _=>rfl,_,ha.put d (hs.simT hn),kk hs.wf⟩
end Go.SW.V
namespace Go.SW
variable {P:Program} {n:Nat} {N:Rest} {H0:Env} {Q:Qs} {ks:List Kt} {s:St}
theorem N5_ {α:Type} {i o b T0 k e:Nat} {cs:List PV} {c:Code} (j:Nat) (enc:α->List PV) (hb:C6_ j s.L i = .box b T0 cs) (hne:i≠j) (ho:cs[o]? = some (.val (.slice none 0 0))) (hno:s.L j = .no)
   (kk:Hd P n N H0 Q (.code c) ks ⟨Ft_ j s.F,lups (lups (C6_ j s.L) j (.arr (.slice none 0 0) k e enc [])) i (.box b T0 (cs.set o (.osl j)))⟩):Hd P n N H0 Q (.code c) ks s:=λF H L ha=>by
 have hL0:Abs H0 s F H (lupd L j none):=⟨ha.le,ha.g,ha.f,λq=>by
   by_cases e:q=j
   . subst e;rw[hno];trivial
   . rw[C_ _ _ _ _ e];exact ha.l q⟩
 have h2:=hL0.turn j (B:= .arr (.slice none 0 0) k e enc []) (x:=none) ⟨[],Ge_,Mt_,by simp⟩
 have e2:lupd (lupd L j none) j none=lupd L j none:=by funext q;simp only[lupd];cases Nat.beq q j<;>rfl
 rw[e2] at h2
 have h3:=h2.l i
 simp only[Di_ _ _ _ _ hne,hb] at h3
 obtain⟨vs,hL,hs1,hs2⟩:=h3
 have h4:=h2.turnB i (B:= .box b T0 (cs.set o (.osl j))) Z (x:=lupd L j none i) ⟨vs,hL,by simpa using hs1,λa p v hp hv=>by
   rw[List.getElem?_set] at hp
   by_cases z:o=a
   . subst z
     rw[if_pos rfl] at hp
     split at hp
     . cases hp
       have h5:=(hs2 o _ v ho hv).sim.inv_val
       simp only[SimT,Di_ _ _ _ _ hne.symm,Bh_]
       exact h5
     . cases hp
   . rw[if_neg z] at hp
     have h5:=hs2 a p v hp hv
     exact Gf_ (b:=b) (T:=T0) (cs:=cs) (by simp only[Di_ _ _ _ _ hne,hb]) h5⟩
 have e3:lupd (lupd L j none) i (lupd L j none i)=lupd L j none:=by funext q;by_cases e:q=i;(subst e;exact E_ _ _ _);exact C_ _ _ _ _ e
 rw[e3] at h4
 exact Jp_ (λw hm=>hm.clear j) (kk F H _ h4)
theorem Lf_ {α:Type} {all:List Oper} {T ty i j b b' off T0 k e:Nat} {pos:String} {af:Array Edge} {x y:Operand} {K:St->Prop} {tb:Tb} {ti:TI} {cs cs':List PV} {u:Value} {enc:α->List PV} {xs:List α} (ht:tbB P tb=true) (hx:evP s.F x = .own i b off) (hb:s.L i = .box b' T0 cs) (hti:lkT tb T=some ti) (hsz:ti.size=1) (hy:evP s.F y = .osl j) (hj:s.L j = .arr u k e enc xs) (hl:Nat.blt off cs.length=true) (hbb:b'=b) (hc:cs.set off (.osl j)=cs')
   (kk:K ⟨s.F,lups s.L i (.box b T0 cs')⟩):E1 P n N H0 all ⟨none, .store T x y,ty,pos,af,none⟩ (some i) s K:=by
 intro F H L ha;subst hbb hc;have h1:=(A5_ ha.f x).sim;rw[hx] at h1;have h2:=A5_ ha.f y;unfold Ok1 at h2;rw[hy] at h2;have h2':=h2;simp only[SimT,hj] at h2';have h3:=ha.l i;rw[hb] at h3;obtain⟨vs,hL,hs⟩:=h3;have h5:=ha.l j;rw[hj] at h5;obtain⟨cs0,ho,_,_⟩:=h5;have hone:(ev F y).oneCell'=true:=by
   rw[h2']
   obtain⟨_,⟨rfl,_,_⟩|⟨_,_,_,_,rfl,_⟩⟩:=ho<;>rfl
 have hsz':=(Bl_ ht hti).sz;rw[hsz] at hsz';refine C5_ h1.inv_own Y hone hsz' hL wL ?_;refine⟨.refl H,only,_,ha.turnB (B:= .box _ T0 (cs.set off (.osl j))) i Z ⟨_,rfl,?_⟩,kk⟩;have h4:=hs.set off h2;exact⟨h4.1,λq p v hq hv=>Gf_ hb (h4.2 q p v hq hv)⟩
end Go.SW
namespace Go.SW
variable {P:Program} {n:Nat} {N:Rest} {H0:Env} {all:List Oper} {Q:Qs} {ks:List Kt} {s:St}
end Go.SW
namespace Go.SW.V
open Go.SW
variable {P:Program} {n:Nat} {N:Rest} {H0:Env} {all:List Oper} {Q:Qs} {ks:List Kt} {fF:Nat->PV} {fL:Nat->Blk}
end Go.SW.V
namespace Go.SW
variable {P:Program} {n:Nat} {N:Rest} {H0:Env} {all:List Oper} {Q:Qs} {ks:List Kt} {s:St}
end Go.SW
namespace Go.SW.V
open Go.SW
variable {P:Program} {n:Nat} {N:Rest} {H0:Env} {all:List Oper} {Q:Qs} {ks:List Kt} {fF:Nat->PV} {fL:Nat->Blk}
end Go.SW.V
namespace Go.SW.V
open Go.SW
variable {P:Program} {n:Nat} {N:Rest} {H0:Env} {all:List Oper} {Q:Qs} {ks:List Kt} {fF:Nat->PV} {fL:Nat->Blk} {T ty:Nat} {x y:Operand}
end Go.SW.V
namespace Go.SW
variable {P:Program} {n:Nat} {N:Rest} {H0:Env} {all rest:List Oper} {Q:Qs} {ks:List Kt} {s:St} {T ty d:Nat} {pos:String} {af:Array Edge} {x y:Operand} {K:St->Prop} {op:Op} {p:PV}
end Go.SW
namespace Go.SW.V
open Go.SW
variable {P:Program} {n:Nat} {N:Rest} {H0:Env} {ks:List Kt} {fF:Nat->PV} {fL:Nat->Blk} {tb:Tb} {rs:List ResultVar} {res p q r t u:PV} {as0 bs:List Nat}
end Go.SW.V
namespace Go.SW.V
open Go.SW
def Ae_ (l:List Y_):List Y_->Bool
 |[]=>(decide ((l.length:Int)<=80))
 | x::t=>(bif decide (1200<((x.chunk).length:Int)) then
 false
 else Ae_ l t)
def B7_ (l:List Y_):Bool:=
 Ae_ l l
def rch (D:Int->Int->Bool):Nat->Int->Int->Bool
 |0,a,b=>decide (a=b)||D a b
 |k+1,a,b=>rch D k a b||(rch D k a k&&rch D k k b)
theorem I8_ (D:Int->Int->Bool) (a:Int):∀ k,rch D k a a=true
 |0=>by simp[rch]
 |k+1=>by simp[rch,I8_ D a k]
theorem Mq_ (D:Int->Int->Bool) (a b:Int) (h:D a b=true):∀ k,rch D k a b=true
 |0=>by simp[rch,h]
 |k+1=>by simp[rch,Mq_ D a b h k]
theorem Hd_ (D:Int->Int->Bool):∀ (k:Nat) (j:Nat),j<k->∀ a b,rch D k a j=true->rch D k j b=true->rch D k a b=true
 |0,j,h=>by omega
 |k+1,j,h=>by
   intro a b h1 h2
   have ih:=Hd_ D k
   by_cases e:j=k
   . subst e
     simp only[rch,Bool.or_eq_true,Bool.and_eq_true] at h1 h2 ⊢
     have h1':rch D j a j=true:=by
       rcases h1 with h|h
       . exact h
       . exact h.1
     have h2':rch D j j b=true:=by
       rcases h2 with h|h
       . exact h
       . exact h.2
     exact .inr ⟨h1',h2'⟩
   . have hj:j<k:=by omega
     simp only[rch,Bool.or_eq_true,Bool.and_eq_true] at h1 h2 ⊢
     rcases h1 with h1|⟨h1,h1'⟩<;>rcases h2 with h2|⟨h2,h2'⟩
     . exact .inl (ih j hj a b h1 h2)
     . exact .inr ⟨ih j hj a k h1 h2,h2'⟩
     . exact .inr ⟨h1,ih j hj k b h1' h2⟩
     . exact .inr ⟨h1,h2'⟩
theorem T2_ (D:Int->Int->Bool) (P:Int->Prop) (n:Nat) (hc:∀ a b:Int,P a->0<=b->b<n->D a b=true->P b):∀ (k:Nat),k<=n->∀ a b:Int,0<=b->b<n->P a->rch D k a b=true->P b
 |0,_,a,b,h0,h1,ha,h=>by
   simp only[rch,Bool.or_eq_true,decide_eq_true_eq] at h
   rcases h with h|h
   . exact h ▸ ha
   . exact hc a b ha h0 h1 h
 |k+1,hk,a,b,h0,h1,ha,h=>by
   simp only[rch,Bool.or_eq_true,Bool.and_eq_true] at h
   have ih:=T2_ D P n hc k xI
   rcases h with h|⟨h,h'⟩
   . exact ih a b h0 h1 ha h
   . exact ih k b h0 h1 (ih a k xI xI ha h) h'
def By_ (D:Int->Int->Bool) (n:Nat) (a b:Int):Bool:=(decide (0<=a) && decide (a<n))&&((decide (0<=b) && decide (b<n))&&rch D n a b)
theorem M5_ {D:Int->Int->Bool} {n:Nat} {a b c:Int} (h:rch D n a b=true) (hb:0<=b) (hb':b<n) (hd:D b c=true):rch D n a c=true:=by
 have :=Hd_ D n b.toNat xI a c (by rw[Int.toNat_of_nonneg hb];exact h) (by rw[Int.toNat_of_nonneg hb];exact Mq_ D b c hd n);exact this
theorem M4_ {D:Int->Int->Bool} {n:Nat} {a:Int} (h:0<=a) (h':a<n):By_ D n a a=true:=by
 simp[By_,h,h',I8_]
theorem Kl_ {D:Int->Int->Bool} {n:Nat} {a b c:Int} (h:By_ D n a b=true) (h':By_ D n b c=true):By_ D n a c=true:=by
 simp only[By_,Bool.and_eq_true,decide_eq_true_eq] at h h' ⊢;refine⟨h.1,h'.2.1,?_⟩;have e:((b.toNat:Nat):Int)=b:=Int.toNat_of_nonneg h'.1.1;exact Hd_ D n b.toNat xI a c (by rw[e];exact h.2.2) (by rw[e];exact h'.2.2)
theorem I2_:∀ (n:Nat) (l:List Int),l.Nodup->(∀ x∈l,0<=x/\x<n)->l.length<=n
 |0,l,_,h=>by
   cases l with
   |nil=>simp
   |cons x t=>have :=h x xK;omega
 |n+1,l,hn,h=>by
   have hl:(l.filter (λx=>decide (x≠(n:Int)))).length<=n:=I2_ n _ (hn.filter _) (λx hx=>by
     have :=List.mem_filter.1 hx
     have h1:=h x this.1
     have h2:x≠(n:Int):=by simpa using this.2
     omega)
   have h2:l.length<=(l.filter (λx=>decide (x≠(n:Int)))).length+1:=by
     clear hl h
     induction l with
     |nil=>simp
     |cons x t ih=>
       have hn':=List.nodup_cons.1 hn
       by_cases e:x=(n:Int)
       . have :t.filter (λx=>decide (x≠(n:Int)))=t:=by
           rw[List.filter_eq_self]
           intro y hy
           have :y≠(n:Int):=λhyn=>hn'.1 (by rw[e,<- hyn];exact hy)
           exact yZ
         rw[List.filter_cons];simp only[e];rw[if_neg xK];rw[this];simp
       . have :=ih hn'.2
         rw[List.filter_cons,if_pos (by simpa using e)]
         exact yS
   omega
theorem Pt_ (n:Nat) (l:List Int) (hn:l.Nodup) (h:∀ x∈l,0<=x/\x<n) (hl:l.length=n) (k:Int) (h0:0<=k) (h1:k<n):k∈l:=by
 apply Classical.byContradiction
 intro hk
 have :=I2_ n (k::l) (List.nodup_cons.2 ⟨hk,hn⟩) (λx hx=>by
   rcases List.mem_cons.1 hx with e|e
   . subst e;exact⟨h0,h1⟩
   . exact h x e)
 simp only[List.length_cons] at this;omega
end Go.SW.V
namespace Go.SW
variable {P:Program} {n:Nat} {N:Rest} {H0:Env} {all rest:List Oper} {Q:Qs} {ks:List Kt} {s:St} {T T' T2 ty d:Nat} {pos:String} {af:Array Edge} {x y z:Operand} {K:St->Prop} {op:Op} {p:PV}
end Go.SW
namespace Go.SW.V
open Go.SW
variable {P:Program} {n:Nat} {N:Rest} {H0:Env} {all rest:List Oper} {Q:Qs} {ks:List Kt} {fF:Nat->PV} {fL:Nat->Blk} {T T' T2 ty d:Nat} {pos:String} {af:Array Edge} {x y z:Operand} {K:St->Prop} {op:Op} {p:PV}
end Go.SW.V
namespace Go.SW
variable {P:Program} {n:Nat} {N:Rest} {H0:Env}
end Go.SW
namespace Go.SW.V
open Go.SW
variable {P:Program} {n:Nat} {N:Rest} {H0:Env} {fF:Nat->PV} {fL:Nat->Blk}
end Go.SW.V
namespace Go.SW
variable {P:Program}
end Go.SW
namespace Go.SW
variable {P:Program} {n:Nat} {N:Rest} {H0:Env}
end Go.SW
namespace Go.SW.V
open Go.SW
variable {P:Program} {n:Nat} {N:Rest} {H0:Env} {fF:Nat->PV} {fL:Nat->Blk}
end Go.SW.V
namespace Go.SW.V
open Go.SW
variable {P:Program} {n:Nat} {N:Rest} {H0:Env} {all rest:List Oper} {Q:Qs} {ks:List Kt} {fF:Nat->PV} {fL:Nat->Blk} {T ty d:Nat} {pos:String} {af:Array Edge} {x y z:Operand} {K:St->Prop}
end Go.SW.V
namespace Go.SW.V
open Go.SW
variable {P:Program} {N:Rest} {H0:Env} {s:St} {T T' ty:TypeId} {x:Operand}
end Go.SW.V
namespace Go.SW
open Go.RowKit
def cuts (p:UInt8):Bs->List Bs
 |[]=>[[]]
 |c::r=>if c=p then []::cuts p r else match cuts p r with
   |[]=>[[c]]
   |w::t=>(c::w)::t
theorem Hl_ (p:UInt8):∀ s:Bs,Lib.splitK [p] 0 (Lib.count s [p]) s=cuts p s
 |[]=>by rw[Lib.count_miss (by simp[Lib.index])];rfl
 |b::l=>by
   have ih:=Hl_ p l
   by_cases hb:b=p
   . subst hb
     rw[Lib.count_cons_eq,Nat.add_comm]
     have hix:Lib.index (b::l) [b]=0:=by rw[Lib.index];simp[List.isPrefixOf]
     unfold Lib.splitK cuts
     rw[hix]
     simp[ih]
   . rw[Lib.count_cons_ne _ _ _ hb]
     have hp:([p]:List UInt8).isPrefixOf (b::l)=false:=by simp[List.isPrefixOf,Ne.symm hb]
     have hix:Lib.index (b::l) [p] = if Lib.index l [p] == -1 then -1 else Lib.index l [p]+1:=by rw[Lib.index,hp];simp
     unfold cuts
     rw[if_neg hb,<- ih]
     cases hc:Lib.count l [p] with
     |zero=>rfl
     |succ k=>
       unfold Lib.splitK
       rw[hix]
       by_cases hm:Lib.index l [p] = -1
       . rw[Lib.count_miss hm] at hc;cases hc
       . have hge:=Lib.index_ge l [p]
         obtain⟨j,hj⟩:∃ j:Nat,Lib.index l [p]=j:=⟨(Lib.index l [p]).toNat,by omega⟩
         exact yK
theorem Hj_ (p:UInt8) (s:Bs):(Lib.splitB ⟨#[p]⟩ 0 (Lib.countB ⟨s.toArray⟩ ⟨#[p]⟩) ⟨s.toArray⟩).map Value.string=(cuts p s).map str:=by
 have h:=Lib.splitB_data ⟨#[p]⟩ 0 (Lib.countB ⟨s.toArray⟩ ⟨#[p]⟩) ⟨s.toArray⟩;have hc:Lib.countB ⟨s.toArray⟩ ⟨#[p]⟩=Lib.count s [p]:=by simp[Lib.countB]
 rw[hc] at h ⊢;have e:=Hl_ p s;exact yP
theorem Ld_ (p:UInt8) (s:Bs):Lib.countB ⟨s.toArray⟩ ⟨#[p]⟩+1=(cuts p s).length:=by
 have h:=congrArg List.length (Hj_ p s);rw[List.length_map,List.length_map,Lib.splitB_all ⟨#[p]⟩ (by simp[ByteArray.size]) 0 _ _ rfl] at h;exact h
theorem Fc_ (p:UInt8):∀ (s w:Bs),w∈cuts p s->w.length<=s.length
 |[],w,h=>by simp[cuts] at h;simp[h]
 |c::r,w,h=>by
   unfold cuts at h
   split at h
   . rcases List.mem_cons.1 h with rfl|h
     . simp
     . have :=Fc_ p r w h;simp;omega
   . split at h
     . simp at h;subst h;simp
     . rename_i x t e
       have ih:=Fc_ p r
       rw[e] at ih
       rcases List.mem_cons.1 h with rfl|h
       . have :=ih x xK;simp;omega
       . have :=ih w (by simp[h]);simp;omega
theorem Mem.addH {N:Rest} {H:Hp} {L:Ls} {w w':World} (h:Mem N H L w) (hb:Below w.heap.size w w') {g:Nat} {o:Obj} (hg:w.heap.size<=g) (ho:w'.heap[g]? = some o):Mem N (hadd H g o) L w'/\HLe H (hadd H g o):=by
 have hs:∀ (b:Nat) o',w.heap[b]? = some o'->b<w.heap.size:=λb o' x=>by
   by_cases q:b<w.heap.size
   . exact q
   . exact yE
 have hk:∀ (b:Nat) o',w.heap[b]? = some o'->w'.heap[b]? = some o':=λb o' x=>by rw[hb.block b (hs b o' x)];exact x
 have hH:H g=none:=by
   cases q:H g with
   |none=>rfl
   |some o1=>have :=hs _ _ (h.h _ _ q);omega
 refine⟨⟨hb.os.trans h.os,hb.tape.trans h.tape,hb.output.trans h.output,λb o' x=>hk _ _ (h.n b o' x),λb o' x=>?_,λi b o' x=>hk _ _ (h.l i b o' x),λb o' x=>?_,λi b o' x=>⟨(h.nl i b o' x).1,?_⟩,h.ll⟩,Iw_ hH⟩;by_cases e:b=g;subst e;simp[hadd] at x;subst x;exact ho;simp[hadd,e] at x;exact hk _ _ (h.h b o' x);have :=hs b o' (h.n b o' x);have e:b≠g:=by omega
 simp[hadd,e];exact h.nh b o' x;have :=hs b o' (h.l i b o' x);have e:b≠g:=by omega
 simp[hadd,e];exact (h.nl i b o' x).2
theorem ph_rowB {P:Program} {f:FuncId} {args:Array Value} {H:Hp} {T:TypeId} {xs:List Bs} {ys:List Value} (hy:ys=xs.map str) (hx:∀ s∈xs,s.length<=9223372036854775807)
   (h:∀ N L w,Mem N H L w->Calls P f args w λe w'=>∃ A,e = .returned (.slice (some ⟨A,0,none⟩) ys.length ys.length)/\w.heap.size<=A/\w'.ownsRow w.heap.size T 1 (.slice (some ⟨A,0,none⟩) ys.length ys.length) ys.length ys/\Below w.heap.size w w') :
   Ph P f args H (λv H'=>∃ (a:Option Addr) (c:Nat),v = .slice a xs.length c/\SlH strE 1 H' (.slice a xs.length c) xs):=by
 subst hy;intro N L w hm;refine (h N L w hm).mono λe w' ⟨A,he,hA,hr,hb⟩=>?_;simp only[List.length_map] at he hr
 rcases hr.2 with ⟨h0,_⟩|⟨g,cap,cur,hv,hg,ho,hn,_,hc,ht⟩
 . cases h0
 . cases hv
   obtain⟨hm',hl⟩:=hm.addH hb hA ho
   have hcur:cur=(xs.map str).toArray:=by
     apply Array.ext'
     rw[<- ht]
     have :cur.toList.length=xs.length*1:=by simpa using hc
     rw[List.take_of_length_le xI]
   refine⟨_,_,he,⟨_,_,rfl,⟨_,_,rfl,Nat.le_refl _⟩,λm hmm=>⟨[str xs[m]],⟨rfl,hx _ (List.getElem_mem hmm)⟩,A,0,xs.length,xs.length,cur,T,(0,0),rfl,?_,rfl,λj hj=>?_⟩⟩,hl,hm'⟩
   simp[hadd]
   obtain rfl :j=0:=by simpa using hj
   subst hcur
   simp[hmm]
def flds (s:Bs):List Bs:=(Lib.goFieldsP (λx=>decide ((x:Int)=32)) ⟨s.toArray⟩).map λb=>b.data.toList
theorem Rq_ (s:Bs):(Lib.goFieldsP (λx=>decide ((x:Int)=32)) ⟨s.toArray⟩).map Value.string=(flds s).map str:=by
 unfold flds;rw[List.map_map]
 congr 1
theorem M6_ (s w:Bs) (h:w∈flds s):w.length<=s.length:=by
 simp only[flds,Lib.goFieldsP,List.map_map,List.mem_map,Function.comp] at h;obtain⟨x,_,rfl⟩:=h;simp only[Array.length_toList];show ((⟨s.toArray⟩:ByteArray).extract x.1 x.2).size<=s.length;rw[ByteArray.size_extract];have :(⟨s.toArray⟩:ByteArray).size=s.length:=by simp[ByteArray.size]
 omega
def dec (s:Bs):Nat:=match Lib.parseUintB 64 s with| .ok n=>n|_=>0
def Ex_ (s:Bs):Bool:=s.all λc=>decide (48<=c.toNat) && decide (c.toNat<=57)
theorem pu_ok:∀ (s:Bs) (a k:Nat),a<10 ^ k->k+s.length<=19->Ex_ s=true->∃ n,Lib.parseUintM 18446744073709551615 a s = .ok n/\n<10 ^ 19
 |[],a,k,ha,hk,_=>⟨a,rfl,Nat.lt_of_lt_of_le ha (Nat.pow_le_pow_right xL (by simpa using hk))⟩
 |c::r,a,k,ha,hk,hd=>by
   simp only[Ex_,List.all_cons,Bool.and_eq_true,decide_eq_true_eq,List.length_cons] at hd hk
   have h18:10 ^ k<=10 ^ 18:=Nat.pow_le_pow_right xL xI
   have h19:a*10+(c.toNat-48)<10 ^ (k+1):=by rw[Nat.pow_succ];omega
   have e18:(10:Nat) ^ 18=1000000000000000000:=by decide
   unfold Lib.parseUintM
   rw[if_pos hd.1,if_neg xI,if_neg xI]
   exact pu_ok r _ (k+1) h19 xI hd.2
theorem dec_ok {s:Bs} (hl:s.length<=19) (h0:0<s.length) (hd:Ex_ s=true):Lib.parseUintB 64 s = .ok (dec s)/\(dec s:Int)<=18446744073709551615:=by
 obtain⟨n,h,hn⟩:=pu_ok s 0 0 xL xY hd;have h:Lib.parseUintB 64 s = .ok n:=by
   unfold Lib.parseUintB
   rw[if_neg (by intro q;subst q;cases h0)]
   exact h
 have e19:(10:Nat) ^ 19=10000000000000000000:=by decide
 have e:dec s=n:=by unfold dec;rw[h]
 rw[e];exact⟨h,by omega⟩
theorem Mem.below {N:Rest} {H:Hp} {L:Ls} {w w':World} (hm:Mem N H L w) (hb:Below w.heap.size w w'):Mem N H L w':=
 hm.of_same hb.os hb.tape hb.output λc o ho=>by
   exact yJ
end Go.SW
namespace Go.SW
end Go.SW
namespace Go.SW
open Go.MapKept
variable {P:Program} {n:Nat} {N:Rest} {ops:List Oper} {F:Fr} {H:Hp} {L:Ls} {K:Fr->Hp->Ls->Prop} {T ty d:Nat} {pos:String} {af:Array Edge} {x y z:Operand} {κ ν:Type}
theorem P5_ (i:Nat) (hd:Nat.blt d n=true) (k:∀ b,K (upd F d (.map (some b))) H (lupd L i (some (b, .map #[] 0)))):Op1 P n N ops ⟨some d, .makeMap T none,ty,pos,af,none⟩ K F H L:=by
 intro a w ha hm;rw[if_pos xM];unfold Oper.wp;have :(execOp a.eval ⟨some d, .makeMap T none,ty,pos,af,none⟩).run P w = .ok (.value (.map (some w.heap.size))) {w with heap:=w.heap.push (.map #[] 0)}:=by
   rw[ha.eval]
   simp[execOp,Instr.makeMap,Result.andThen]
 exact yM
end Go.SW
namespace Go.SW.V
open Go.SW
variable {P:Program} {n:Nat} {N:Rest} {H0:Env} {all rest:List Oper} {Q:Qs} {ks:List Kt} {fF:Nat->PV} {fL:Nat->Blk} {T ty d:Nat} {pos:String} {af:Array Edge} {x y z:Operand} {K:St->Prop} {κ ν:Type}
end Go.SW.V
namespace Go.SW
def MlOk (m:Mail):Prop:=m.head.length<=8/\0<=m.hops/\m.hops<=4/\m.key.length<=64
def Rising (l:List Ax_):Prop:=(l.map λx=>x.A0_.id).Pairwise (· < ·)
def LnOk (l:A3_):Prop:=l.items.length<=64/\(∀ x∈l.items,MlOk x.A0_)/\Rising l.items
def RiOk (x:Jj_):Prop:=x.kept.length<=16/\∀ m∈x.kept,m.head.length<=8
def RwsOk (l:List Ln_):Prop:=l.length<=8/\(∀ r∈l,LnOk r.l)/\(l.map (·.q.name)).Nodup
def Nu_ (s:W_):Prop:=RwsOk s.rows/\(∀ i,i<16->RiOk (s.rises.get i))/\0<=s.bytes/\s.bytes<=1000000
def BkOk (b:Ba_):Prop:=b.Bn_.length<=8/\b.binds.length<=32/\∀ y∈b.binds,y.key.length<=1000
def PoOk (p:A_):Prop:=0<p.places.length/\p.places.length<=16/\0<p.slots.length/\p.slots.length<=32/\p.grants.length<=8/\(∀ g∈p.grants,0<=g.frm/\g.frm<p.places.length/\0<=g.to'/\g.to'<p.places.length/\0<=g.budget/\g.budget<=16)/\∀ x∈p.places,0<=x.bytes/\x.bytes<=65536
def PrOk (x:Lm_):Prop:=BkOk x.book/\Nu_ x.D_/\x.notes.kept.length<=32/\∀ i,i<8->0<=(x.spent.get i).count/\(x.spent.get i).count<=16
def StOk (s:Hz_):Prop:=PrOk s.x/\PoOk s.Ab_/\0<=s.place/\s.place<s.Ab_.places.length
end Go.SW
namespace Go.SW.V
open Go.SW
def Hg_ (b:Ba_) (x:Bm_):Ba_×Int:=
 (bif !decide ((shopE x)=0) then
 (b,shopE x)
 else (bif (((Hi_ b.Bn_ x.name).isSome)&&(decide (x=((Hi_ b.Bn_ x.name).getD Bm_.zero)))) then
 (b,0)
 else (bif (Hi_ b.Bn_ x.name).isSome then
 (b,9)
 else (bif decide (8<=(b.Bn_.length:Int)) then
 (b,12)
 else ((⟨[b.Bn_,[x]].flatten,b.binds⟩:Ba_),0)))))
def Do_ (b:Ba_) (x:Bg_):Int:=
 (idxP (λz_4:Bg_=>decide (x=z_4)) b.binds)
def He_ (b:Ba_) (x:Bg_):Ba_×Int:=
 (bif !((Hi_ b.Bn_ x.Dv_).isSome) then
 (b,10)
 else (bif decide ((((Hi_ b.Bn_ x.Dv_).getD Bm_.zero).sort)=4) then
 (b,8)
 else (bif !decide ((Dj_ x.to')=0) then
 (b,Dj_ x.to')
 else (bif !decide ((ruleE (Lr_ x (((Hi_ b.Bn_ x.Dv_).getD Bm_.zero).sort)))=0) then
 (b,ruleE (Lr_ x (((Hi_ b.Bn_ x.Dv_).getD Bm_.zero).sort)))
 else lt (Do_ b x) λr=>
 (bif decide (0<=r) then
 (b,0)
 else (bif decide (32<=(b.binds.length:Int)) then
 (b,12)
 else ((⟨b.Bn_,[b.binds,[x]].flatten⟩:Ba_),0)))))))
def At_ (n:Int) (least:Int) (most:Int):Bool:=
 ((decide (least<=n))&&(decide (n<=most)))
def Dg_ (a:Ap_) (b:Ap_):Bool:=
 ((decide (a.level<=b.level))&&(decide ((IntKind.wrap .u32 ((BitVec.ofInt (IntKind.bits .u32) a.Qt_ &&& ~~~ BitVec.ofInt (IntKind.bits .u32) b.Qt_).toNat))=0)))
def O_ (p:A_) (i:Int):Bool:=
 (At_ i 0 ((p.places.length:Int)-1))
def Bz_ (x:T_) (x1:Int) (x2:Int):Bool:=
 ((decide (x.frm=x1))&&(decide (x.to'=x2)))
def G7_ (m:Mail):Mail:=
 m
def E2_ (m:Mail):Int:=
 ((Pp_ m).length:Int)
def B8_ (x:Ax_):Ax_:=
 lt (G7_ x.A0_) λr=>
 (⟨r,x.Pe_,x.again⟩:Ax_)
def R4_ (x0:Mail):Bool:=
 true
def R5_ (x:Ax_) (x1:Int):Bool:=
 (decide (x.A0_.id=x1))
def Iy_ (l:A3_):Int:=
 (l.items.length:Int)
def Na_ (m:Mail) (x1:Int):Bool:=
 ((!decide (m.due=0))&&(decide (m.due<=x1)))
def G1_ (x:Ax_):Bool:=
 ((!x.Pe_)&&(R4_ x.A0_))
def F1_ (x:Ax_) (x1:Int):Bool:=
 ((!x.Pe_)&&(Na_ x.A0_ x1))
def Bb_ (p:A_) (from_:Int) (to_:Int):Bool:=
 ((((!decide (from_=to_))&&(O_ p from_))&&(O_ p to_))&&(Dg_ ((gt p.places ((from_).toNat)).label) ((gt p.places ((to_).toNat)).label)))
def Bc_ (p:A_) (from_:Int) (to_:Int):Int:=
 (idxP (λz_5:T_=>(Bz_ z_5 from_ to_)) p.grants)
def D0_ (n:El_) (x:Ki_):El_×Int:=
 (bif decide (64<(x.text.length:Int)) then
 (n,5)
 else (bif decide (n.total=18446744073709551615) then
 (n,18)
 else ((⟨(IntKind.wrap .u64 (n.total+1)),(([n.kept,[x]].flatten).drop ((max 0 ((([n.kept,[x]].flatten).length:Int)-32))).toNat)⟩:El_),0)))
def Fp_ (l:A3_) (id:Int):Int:=
 (idxP (λz_4:Ax_=>(R5_ z_4 id)) l.items)
def G0_ (l:A3_) (m:Mail):Int:=
 (bif !decide ((Kz_ m)=0) then
 (Kz_ m)
 else (bif ((decide (0<(l.items.length:Int)))&&(decide (m.id<=((gt l.items ((((l.items.length:Int)-1)).toNat)).A0_.id)))) then
 13
 else (bif decide (64<=(l.items.length:Int)) then
 12
 else 0)))
def Eo_ (l:A3_):Int:=
 (idxP (λz_4:Ax_=>(G1_ z_4)) l.items)
def G2_ (l:A3_) (so:Int):Int:=
 (idxP (λz_4:Ax_=>(F1_ z_4 so)) l.items)
end Go.SW.V
namespace Go.SW.V
open Go.SW
end Go.SW.V
namespace Go.SW.V
open Go.SW
def Iz_ (l:A3_) (x:Ax_):A3_×Int:=
 lt (G0_ l x.A0_) λr=>
 (bif !decide (r=0) then
 (l,r)
 else lt (B8_ x) λr1=>
 ((⟨[l.items,[r1]].flatten⟩:A3_),0))
def Ix_ (l:A3_) (m:Mail):A3_×Int:=
 lt (Iz_ l (⟨m,false,false⟩:Ax_)) λr=>
 (r.1,r.2)
def Dm_ (l:A3_) (id:Int):A3_×Ax_×Int:=
 lt (Fp_ l id) λr=>
 (bif decide (r<0) then
 (l,(⟨(⟨0,[],[],[],[],0,0⟩:Mail),false,false⟩:Ax_),10)
 else lt (B8_ (gt l.items ((r).toNat))) λr1=>
 ((⟨[(l.items.take (r).toNat),(l.items.drop ((r+1)).toNat)].flatten⟩:A3_),r1,0))
def En_ (l:A3_) (k:Int):Mail×Bool:=
 (bif decide (k<0) then
 ((⟨0,[],[],[],[],0,0⟩:Mail),false)
 else lt (G7_ ((gt l.items ((k).toNat)).A0_)) λr=>
 (r,true))
def Cx_:List Ax_->Int->Int
 |[],n=>n
 |x::t,n=>lt (E2_ (x.A0_)) λr=>
 Cx_ t (n+r)
def Hx_ (l:A3_):Int:=
 Cx_ l.items 0
def Hw_ (l:A3_):A3_×Ax_×Bool:=
 lt (Eo_ l) λr=>
 (bif decide (r<0) then
 (l,(⟨(⟨0,[],[],[],[],0,0⟩:Mail),false,false⟩:Ax_),false)
 else lt (B8_ (gt (l.items.set ((r).toNat) (⟨(gt l.items ((r).toNat)).A0_,true,(gt l.items ((r).toNat)).again⟩:Ax_)) ((r).toNat))) λr1=>
 ((⟨(l.items.set ((r).toNat) (⟨(gt l.items ((r).toNat)).A0_,true,(gt l.items ((r).toNat)).again⟩:Ax_))⟩:A3_),r1,true))
def Hu_ (l:A3_) (id:Int):A3_×Int:=
 lt (Fp_ l id) λr=>
 (bif decide (r<0) then
 (l,10)
 else (bif !((gt l.items ((r).toNat)).Pe_) then
 (l,13)
 else ((⟨((l.items.set ((r).toNat) (⟨(gt l.items ((r).toNat)).A0_,false,(gt l.items ((r).toNat)).again⟩:Ax_)).set ((r).toNat) (⟨(gt (l.items.set ((r).toNat) (⟨(gt l.items ((r).toNat)).A0_,false,(gt l.items ((r).toNat)).again⟩:Ax_)) ((r).toNat)).A0_,(gt (l.items.set ((r).toNat) (⟨(gt l.items ((r).toNat)).A0_,false,(gt l.items ((r).toNat)).again⟩:Ax_)) ((r).toNat)).Pe_,true⟩:Ax_))⟩:A3_),0)))
def Br_:List Ax_->Nat->A3_->A3_
 |[],k,x=>x
 | x1::t,k,x=>(bif x1.Pe_ then
 Br_ t (k+1) (⟨((x.items.set k (⟨(gt x.items k).A0_,false,(gt x.items k).again⟩:Ax_)).set k (⟨(gt (x.items.set k (⟨(gt x.items k).A0_,false,(gt x.items k).again⟩:Ax_)) k).A0_,(gt (x.items.set k (⟨(gt x.items k).A0_,false,(gt x.items k).again⟩:Ax_)) k).Pe_,true⟩:Ax_))⟩:A3_)
 else Br_ t (k+1) x)
def Hy_ (l:A3_):A3_:=
 Br_ l.items 0 l
def Gz_ (l:A3_):Mail×Bool:=
 lt (En_ l (Eo_ l)) λr=>
 (r.1,r.2)
def Hv_ (l:A3_) (tick:Int):Mail×Bool:=
 lt (En_ l (G2_ l tick)) λr=>
 (r.1,r.2)
def Ja_ (x:Jj_) (m:Mail):Jj_×Int:=
 (bif !decide ((Kz_ m)=0) then
 (x,Kz_ m)
 else (bif decide (x.total=18446744073709551615) then
 (x,18)
 else lt (G7_ m) λr=>
 ((⟨(IntKind.wrap .u64 (x.total+1)),(([x.kept,[r]].flatten).drop ((max 0 ((([x.kept,[r]].flatten).length:Int)-16))).toNat)⟩:Jj_),0)))
def C7_:List Mail->Int->Int
 |[],n=>n
 |x1::t,n=>lt (E2_ x1) λr=>
 C7_ t (n+r)
def Cs_ (x:Jj_):Int:=
 C7_ x.kept 0
def Fn_ (q:Ct_):Int:=
 (bif !decide ((Dj_ q.name)=0) then
 (Dj_ q.name)
 else (bif ((decide (q.most<1))||(decide (64<q.most))) then
 7
 else (bif !decide (q.dead=[]) then
 (Dj_ q.dead)
 else 0)))
def Qx_ (x:Ln_) (x1:Bs):Bool:=
 (decide (x.q.name=x1))
def Aw_ (s:W_) (name:Bs):Int:=
 (idxP (λz_4:Ln_=>(Qx_ z_4 name)) s.rows)
theorem bt {α:Type} {b:Bool} {x y:α} {P:α->Prop} (h1:b=true->P x) (h2:b=false->P y):P (bif b then x else y):=by
 cases b
 exact h2 Y;exact h1 Y
def F6_ (s:W_) (q:Ct_):W_×Int:=
 lt (Fn_ q) λr=>
 (bif !decide (r=0) then
 (s,r)
 else lt (Aw_ s q.name) λr1=>
 (bif ((decide (0<=r1))&&(decide ((gt s.rows ((r1).toNat)).q=q))) then
 (s,0)
 else (bif decide (0<=r1) then
 (s,9)
 else (bif decide (8<=(s.rows.length:Int)) then
 (s,12)
 else ((⟨s.next,s.bytes,[s.rows,[(⟨q,(⟨[]⟩:A3_)⟩:Ln_)]].flatten,s.rises⟩:W_),0)))))
def F4_ (s:W_) (name:Bs):W_×Int:=
 lt (Aw_ s name) λr=>
 (bif decide (r<0) then
 (s,10)
 else ((⟨s.next,s.bytes,[(s.rows.take (r).toNat),(s.rows.drop ((r+1)).toNat)].flatten,s.rises⟩:W_),0))
def Av_ (s:W_) (k:Int) (l:A3_):W_:=
 (⟨s.next,s.bytes,(s.rows.set ((k).toNat) (⟨(gt s.rows ((k).toNat)).q,l⟩:Ln_)),s.rises⟩:W_)
def Cd_ (s:W_):Nat->Int->Nat->Int
 |0,_,_=>default
 | f2+1,n1,v=>(bif decide ((v:Int)<16) then
 lt (Cs_ (A16.get s.rises v)) λr1=>
 Cd_ s f2 (n1+r1) (v+1)
 else n1)
def Cc_ (s:W_):List Ln_->Int->Int
 |[],n=>Cd_ s (16-0+1) n 0
 |x::t,n=>lt (Hx_ (x.l)) λr=>
 Cc_ s t (n+r)
def Dr_ (s:W_):Int:=
 Cc_ s s.rows 0
end Go.SW.V
namespace Go.SW.V
open Go.SW
def F7_ (s:W_):Int:=
 (s.bytes-(Dr_ s))
def Cb_ (s:W_) (name:Bs) (m:Mail):W_×Int×Mail×Int:=
 lt (Aw_ s name) λr=>
 (bif decide (r<0) then
 (s,0,(⟨0,[],[],[],[],0,0⟩:Mail),10)
 else (bif !decide ((Kz_ m)=0) then
 (s,0,(⟨0,[],[],[],[],0,0⟩:Mail),Kz_ m)
 else (bif decide (s.next = 0) then
 (s,0,(⟨0,[],[],[],[],0,0⟩:Mail),18)
 else (lp2 ((bif decide (((gt s.rows ((r).toNat)).q.most)<=(IntKind.wrap .u64 (Iy_ ((gt s.rows ((r).toNat)).l)))) then
 lt (Gz_ ((gt s.rows ((r).toNat)).l)) λr1=>
 (bif !r1.2 then
 .ret (s,0,(⟨0,[],[],[],[],0,0⟩:Mail),12)
 else lt (Dm_ ((gt s.rows ((r).toNat)).l) r1.1.id) λr2=>
 .fin (r2.1,r1.1))
 else .fin ((gt s.rows ((r).toNat)).l,(⟨0,[],[],[],[],0,0⟩:Mail)))) (λx x1=>
 (bif decide (((F7_ s)+(E2_ x1))<(E2_ (⟨s.next,m.Dv_,m.key,m.head,m.body,m.due,m.hops⟩:Mail))) then
 (s,0,(⟨0,[],[],[],[],0,0⟩:Mail),12)
 else lt (Ix_ x (⟨s.next,m.Dv_,m.key,m.head,m.body,m.due,m.hops⟩:Mail)) λr3=>
 (bif !decide (r3.2=0) then
 (s,0,(⟨0,[],[],[],[],0,0⟩:Mail),r3.2)
 else lt (Av_ s r r3.1) λr4=>
 ((⟨(IntKind.wrap .u64 (r4.next + 1)),r4.bytes,r4.rows,r4.rises⟩:W_),s.next,x1,0)))) (λr=>r)))))
def Dq_ (s:W_) (name:Bs):W_×Ax_×Bool:=
 lt (Aw_ s name) λr=>
 (bif decide (r<0) then
 (s,(⟨(⟨0,[],[],[],[],0,0⟩:Mail),false,false⟩:Ax_),false)
 else lt (Hw_ ((gt s.rows ((r).toNat)).l)) λr1=>
 lt (Av_ s r r1.1) λr2=>
 (r2,r1.2.1,r1.2.2))
def Dp_ (s:W_) (name:Bs) (id:Int):W_×Int:=
 lt (Aw_ s name) λr=>
 (bif decide (r<0) then
 (s,10)
 else lt (Hu_ ((gt s.rows ((r).toNat)).l) id) λr1=>
 lt (Av_ s r r1.1) λr2=>
 (r2,r1.2))
def Bk_ (s:W_) (name:Bs) (id:Int):W_×Ax_×Int:=
 lt (Aw_ s name) λr=>
 (bif decide (r<0) then
 (s,(⟨(⟨0,[],[],[],[],0,0⟩:Mail),false,false⟩:Ax_),10)
 else lt (Dm_ ((gt s.rows ((r).toNat)).l) id) λr1=>
 lt (Av_ s r r1.1) λr2=>
 (r2,r1.2.1,r1.2.2))
def C8_ (s:W_) (place:Int) (m:Mail):W_×Int:=
 (bif ((decide (place<0))||(decide (16<=place))) then
 (s,7)
 else lt (Ja_ (A16.get s.rises ((place).toNat)) m) λr=>
 (bif !decide (r.2=0) then
 (s,r.2)
 else (bif decide (s.bytes<(((Dr_ s)-(Cs_ (A16.get s.rises ((place).toNat))))+(Cs_ (r.1)))) then
 (s,12)
 else ((⟨s.next,s.bytes,s.rows,(A16.set s.rises (r.1) ((place).toNat))⟩:W_),0))))
def Ca_ (tick:Int):List Ln_->Bs×Mail×Bool
 |[]=>([],(⟨0,[],[],[],[],0,0⟩:Mail),false)
 |x::t=>lt (Hv_ (x.l) tick) λr=>
 (bif r.2 then
 (x.q.name,r.1,true)
 else Ca_ tick t)
def F5_ (s:W_) (tick:Int):Bs×Mail×Bool:=
 Ca_ tick s.rows
def Ce_:List Ln_->Nat->W_->W_
 |[],k,x=>x
 |x1::t,k,x=>lt (Hy_ (x1.l)) λr=>
 lt (Av_ x (k:Int) r) λr1=>
 Ce_ t (k+1) r1
def Ds_ (s:W_):W_:=
 Ce_ s.rows 0 s
def LoP {σ ρ:Type} (I:σ->Prop) (R:ρ->Prop):Lo σ ρ->Prop
 | .fin s=>I s
 | .ret r=>R r
def Bi_ (so_p:Bg_->Bool):List Bg_->List Bg_->(List Bg_)
 |[],out=>out
 | x::t,out=>(bif so_p x then
 Bi_ so_p t (out++[x])
 else Bi_ so_p t out)
def D5_ (b:Ba_) (so_p:Bg_->Bool):(List Bg_):=
 Bi_ so_p b.binds []
def Jk_ (x:Bg_) (x1:Bs):Bool:=
 (x.up||(!decide (x.to'=x1)))
def Fl_ (b:Ba_) (queue:Bs):Ba_:=
 lt (D5_ b (λz_5:Bg_=>(Jk_ z_5 queue))) λr=>
 (⟨b.Bn_,r⟩:Ba_)
def Cu_ (x:Bm_) (x1:Bs):Bool:=
 (decide (x.name=x1))
def M3_ (x:Bg_) (x1:Bs):Bool:=
 (!decide (x.Dv_=x1))
def Hf_ (b:Ba_) (name:Bs):Ba_×Int:=
 (bif decide ((idxP (λz_5:Bm_=>(Cu_ z_5 name)) b.Bn_)<0) then
 (b,10)
 else lt (D5_ (⟨[(b.Bn_.take (idxP (λz_5:Bm_=>(Cu_ z_5 name)) b.Bn_).toNat),(b.Bn_.drop (((idxP (λz_5:Bm_=>(Cu_ z_5 name)) b.Bn_)+1)).toNat)].flatten,b.binds⟩:Ba_) (λz_18:Bg_=>(M3_ z_18 name))) λr=>
 ((⟨[(b.Bn_.take (idxP (λz_5:Bm_=>(Cu_ z_5 name)) b.Bn_).toNat),(b.Bn_.drop (((idxP (λz_5:Bm_=>(Cu_ z_5 name)) b.Bn_)+1)).toNat)].flatten,r⟩:Ba_),0))
def Fm_ (b:Ba_) (x:Bg_):Ba_×Int:=
 lt (Do_ b x) λr=>
 (bif decide (r<0) then
 (b,10)
 else ((⟨b.Bn_,[(b.binds.take (r).toNat),(b.binds.drop ((r+1)).toNat)].flatten⟩:Ba_),0))
def Qy_ (own:Int) (tick:Int) (life:Int):Int:=
 (bif ((decide (life=0))||(decide ((IntKind.wrap .u64 (18446744073709551615-tick))<life))) then
 own
 else (bif decide (own=0) then
 (IntKind.wrap .u64 (tick+life))
 else (min own (IntKind.wrap .u64 (tick+life)))))
end Go.SW.V
namespace Go.SW.V
open Go.SW
section
variable {gone more:List OutR} {lost:Int} {x y:Hz_} {f:Nat} {m:Mail} {e:Int}
end
instance {σ ρ:Type} [Inhabited ρ]:Inhabited (Lo σ ρ):=⟨.ret default⟩
theorem has_fd (a:Ap_) (i:Int) (h:0<=a.Qt_):0<=a.Qt_.fdiv (2 ^ min i.toNat IntKind.u32.bits):=
 Int.fdiv_nonneg h (Int.le_of_lt (Int.pow_pos xL))
theorem poOk_l {p:A_} (h:PoOk p):p.places.length<=100000/\p.slots.length<=100000/\p.grants.length<=100000:=by
 obtain⟨_,h2,_,h4,h5,_⟩:=h;omega
def I7_ (a:Ap_) (i:Int):Bool:=
 (decide (((Int.fdiv a.Qt_ (2 ^ (min (i:Int).toNat (IntKind.bits .u32))))%2)=1))
def Cp_ (a:Ap_) (b:Ap_):Nat->Nat->Bool
 |0,_=>default
 | f2+1,i=>(bif decide ((i:Int)<32) then
 (bif ((I7_ a (i:Int))&&(!(I7_ b (i:Int)))) then
 false
 else Cp_ a b f2 (i+1))
 else true)
def E6_ (a:Ap_) (b:Ap_):Bool:=
 (bif decide (b.level<a.level) then
 false
 else Cp_ a b (32-0+1) 0)
def Ak_ (y:Ad_):List Ad_->Lo Unit Int
 |[]=> .fin ()
 | x::t=>(bif ((decide ((x.name)=(y.name)))||(decide (x.label=y.label))) then
 .ret 9
 else Ak_ y t)
def Al_ (y1:T_):List T_->Lo Unit Int
 |[]=> .fin ()
 | x1::t1=>(bif ((decide ((x1.frm)=(y1.frm)))&&(decide ((x1.to')=(y1.to')))) then
 .ret 9
 else Al_ y1 t1)
def A1_ (i:Nat):List Int->Bool->Lo Unit Int
 | [],has=>(bif !has then
 .ret 15
 else .fin ())
 |x2::t2,has=>A1_ i t2 (has||(decide (x2=(i:Int))))
def Cq_ (p:A_):Nat->Nat->Int
 |0,_=>default
 | f2+1,i=>(bif decide ((i:Int)<(p.places.length:Int)) then
 (lp0 (A1_ i p.slots false) (
 Cq_ p f2 (i+1)) (λr=>r))
 else 0)
def Ag_ (p:A_):List T_->Nat->Int
 |[],k3=>Cq_ p (p.places.length-0+1) 0
 | x3::t3,k3=>(lp0 ((bif ((((decide ((x3.frm)<0))||(decide ((p.places.length:Int)<=(x3.frm))))||(decide ((x3.to')<0)))||(decide ((p.places.length:Int)<=(x3.to')))) then
 .ret 10
 else (bif (E6_ ((gt p.places ((x3.frm).toNat)).label) ((gt p.places ((x3.to').toNat)).label)) then
 .ret 11
 else (bif ((decide ((x3.budget)<0))||(decide (16<(x3.budget)))) then
 .ret 7
 else Al_ x3 (p.grants.take k3))))) (
 Ag_ p t3 (k3+1)) (λr=>r))
def Z_ (p:A_):List Int->Int
 | []=>(bif decide (8<(p.grants.length:Int)) then
 6
 else Ag_ p p.grants 0)
 | x4::t4=>(bif ((decide (x4<0))||(decide ((p.places.length:Int)<=x4))) then
 10
 else Z_ p t4)
def Af_ (p:A_):List Ad_->Nat->Int
 | [],k=>(bif decide ((p.slots.length:Int)=0) then
 15
 else (bif decide (32<(p.slots.length:Int)) then
 6
 else Z_ p p.slots))
 | x5::t5,k=>(lp0 ((bif !decide ((Dj_ (x5.name))=0) then
 .ret (Dj_ (x5.name))
 else (bif ((((decide (15<(x5.label.level)))||(decide ((x5.bytes)<0)))||(decide (65536<(x5.bytes))))||(decide ((x5.base)=0))) then
 .ret 7
 else Ak_ x5 (p.places.take k)))) (
 Af_ p t5 (k+1)) (λr=>r))
def D4_ (p:A_):Int:=
 (bif ((((decide (p.work<1))||(decide (16<p.work)))||(decide (p.give<1)))||(decide (16<p.give))) then
 7
 else (bif decide ((p.places.length:Int)=0) then
 15
 else (bif decide (16<(p.places.length:Int)) then
 6
 else Af_ p p.places 0)))
def Az_:List Ad_->Bool
 |[]=>true
 | x::t=>(bif decide (40<((x.name).length:Int)) then
 false
 else Az_ t)
def Cw_ (p:A_):Bool:=
 (bif (((decide (20<(p.places.length:Int)))||(decide (40<(p.slots.length:Int))))||(decide (10<(p.grants.length:Int)))) then
 false
 else Az_ p.places)
def A7_:List T_->Int->Int->List Ad_->List Int->List T_->A_
 |[],work1,give_1,places1,slots1,grants1=>(⟨work1,give_1,places1,slots1,grants1⟩:A_)
 |x::t,work1,give_1,places1,slots1,grants1=>A7_ t work1 give_1 places1 slots1 (grants1++[x])
def A6_ (p:A_):List Ad_->Int->Int->List Ad_->List Int->List T_->A_
 |[],work,give_,places,slots,grants=>A7_ p.grants work give_ places (slots++p.slots) grants
 |x1::t1,work,give_,places,slots,grants=>A6_ p t1 work give_ (places++[x1]) slots grants
def Gy_ (p:A_):A_:=
 A6_ p p.places p.work p.give [] [] []
theorem O8_ {p:A_} (h:Cw_ p=true):p.places.length<=100000/\p.slots.length<=100000/\p.grants.length<=100000:=by
 unfold Cw_ at h
 cases e:(decide (20<(p.places.length:Int)) || decide (40<(p.slots.length:Int)) || decide (10<(p.grants.length:Int))) with
 |true=>rw[e] at h;cases h
 |false=>
   simp only[Bool.or_eq_false_iff,decide_eq_false_iff_not] at e
   omega
def Eu_ (p:A_):Bool:=
 ((Cw_ p)&&(decide ((D4_ (Gy_ p))=0)))
def Aq_ (s:List Int) (v:Int):Bool:=
 lt (idxP (λy=>decide (v=y)) s) λr=>
 (decide (0<=r))
theorem Dx_ (l:List Int) (v:Int):Aq_ l v = decide (v∈l):=by
 have hb:=idxP_b (λy=>decide (v=y)) l;simp only[Aq_,lt];by_cases h:0<=idxP (λy=>decide (v=y)) l;have hg:=getG (xs:=l) (k:=(idxP (λy=>decide (v=y)) l).toNat) xI;have h1:=(Rt_ (p:=λy=>decide (v=y)) xI hg).1;have h2:=List.mem_of_getElem? hg;have h1:v=gt l (idxP (λy=>decide (v=y)) l).toNat:=by simpa using h1
 rw[<- h1] at h2;simp[h,h2];have h1:=Ru_ (p:=λy=>decide (v=y)) (l:=l) xI;rw[List.find?_eq_none] at h1;have :v∉l:=λhm=>h1 v hm xK;simp[h,this]
structure CI (D:Int->Int->Bool) (n:Nat) (a:Int) (R:List Int) (i k:Nat):Prop where
 hd:a∈R
 nd:R.Nodup
 rg:∀ x∈R,0<=x/\x<n
 ok:∀ x∈R,rch D n a x=true
 cl:∀ j,j<i->∀ b:Int,0<=b->b<n->D (gt R j) b=true->b∈R
 cu:∀ b:Int,0<=b->b<k->D (gt R i) b=true->b∈R
theorem CI.start {D:Int->Int->Bool} {n:Nat} {a:Int} (h0:0<=a) (h1:a<n):CI D n a [a] 0 0:=
 ⟨by simp,by simp,by simpa using ⟨h0,h1⟩,by simpa using I8_ D a n,λj h=>by omega,λb h h'=>by omega⟩
theorem CI.len {D:Int->Int->Bool} {n:Nat} {a:Int} {R:List Int} {i k:Nat} (h:CI D n a R i k):R.length<=n:=I2_ n R h.nd h.rg
theorem CI.skip {D:Int->Int->Bool} {n:Nat} {a:Int} {R:List Int} {i k:Nat} (h:CI D n a R i k) (q:Aq_ R k=true\/D (gt R i) k=false):CI D n a R i (k+1):=
 ⟨h.hd,h.nd,h.rg,h.ok,h.cl,λb h0 h1 h2=>by
   by_cases e:b=(k:Int)
   . subst e
     rcases q with q|q
     . rw[Dx_] at q;simpa using q
     . rw[q] at h2;cases h2
   . exact h.cu b h0 xI h2⟩
theorem Tf_ {R:List Int} {j:Nat} {x:Int} (h:j<R.length):gt (R++[x]) j=gt R j:=by
 simp[gt,List.getD,List.getElem?_append_left h]
theorem CI.push {D:Int->Int->Bool} {n:Nat} {a:Int} {R:List Int} {i k:Nat} (h:CI D n a R i k) (hi:i<R.length) (hk:k<n) (q:Aq_ R k=false) (d:D (gt R i) k=true):CI D n a (R++[(k:Int)]) i (k+1):=by
 rw[Dx_] at q;have q:(k:Int)∉R:=by simpa using q
 have hg:gt R i∈R:=List.mem_of_getElem? (getG hi);have hr:=h.rg _ hg;refine⟨by simp[h.hd],?_,?_,?_,?_,?_⟩;refine List.nodup_append.2 ⟨h.nd,by simp,?_⟩;intro x hx y hy e;simp only[List.mem_singleton] at hy;exact q (by rw[<- hy,<- e];exact hx)
 . intro x hx
   rcases List.mem_append.1 hx with e|e
   exact h.rg x e
   simp only[List.mem_singleton] at e;subst e;omega
 . intro x hx
   rcases List.mem_append.1 hx with e|e
   exact h.ok x e
   simp only[List.mem_singleton] at e;subst e;exact M5_ (h.ok _ hg) hr.1 hr.2 d
 intro j hj b h0 h1 h2;rw[Tf_ xI] at h2;exact List.mem_append_left _ (h.cl j hj b h0 h1 h2);intro b h0 h1 h2;rw[Tf_ hi] at h2;by_cases e:b=(k:Int);simp[e];exact List.mem_append_left _ (h.cu b h0 xI h2)
theorem CI.next {D:Int->Int->Bool} {n:Nat} {a:Int} {R:List Int} {i k:Nat} (h:CI D n a R i k) (hk:n<=k):CI D n a R (i+1) 0:=
 ⟨h.hd,h.nd,h.rg,h.ok,λj hj b h0 h1 h2=>by
   by_cases e:j=i
   . subst e;exact h.cu b h0 xI h2
   . exact h.cl j xI b h0 h1 h2,λb h0 h1=>by omega⟩
theorem CI.fin {D:Int->Int->Bool} {n:Nat} {a b:Int} {R:List Int} {i k:Nat} (h:CI D n a R i k) (hf:R.length=n\/R.length<=i) (hb:(((decide (a<0) || decide ((n:Int)<=a)) || decide (b<0)) || decide ((n:Int)<=b))=false):PV.bool (Aq_ R b)=PV.bool (By_ D n a b):=by
 simp only[Bool.or_eq_false_iff,decide_eq_false_iff_not] at hb;have e:Aq_ R b=By_ D n a b:=by
   rw[Dx_,Bool.eq_iff_iff]
   simp only[By_,Bool.and_eq_true,decide_eq_true_eq]
   constructor
   . intro hm;exact⟨by omega,by omega,h.ok b hm⟩
   . rintro⟨_,⟨h0,h1⟩,hr⟩
     rcases hf with hf|hf
     . exact Pt_ n R h.nd h.rg hf b h0 h1
     . exact T2_ D (· ∈ R) n (λx y hx hy0 hy1 hd=>by
         obtain⟨j,hj⟩:=List.getElem?_of_mem hx
         have hl:j<R.length:=by
           apply Classical.byContradiction;intro hn
           rw[List.getElem?_eq_none xI] at hj;cases hj
         have hg:gt R j=x:=by simp[gt,List.getD,hj]
         exact h.cl j xI y hy0 hy1 (by rw[hg];exact hd)) n (Nat.le_refl n) a b h0 h1 h.hd hr
 rw[e]
theorem CI.out {D:Int->Int->Bool} {n:Nat} {a b:Int} (hb:(((decide (a<0) || decide ((n:Int)<=a)) || decide (b<0)) || decide ((n:Int)<=b))=true):PV.bool false=PV.bool (By_ D n a b):=by
 have :By_ D n a b=false:=by
   simp only[Bool.or_eq_true,decide_eq_true_eq] at hb
   simp only[By_,Bool.and_eq_false_iff,decide_eq_false_iff_not]
   omega
 rw[this]
def P_ (p:A_) (from_:Int) (to_:Int):Bool:=
 (((decide (from_=to_))||(Bb_ p from_ to_))||(decide (0<=(Bc_ p from_ to_))))
def R_ (p:A_) (place:Int):List Y_->List Y_->(List Y_)
 |[],out=>out
 | x::t,out=>(bif ((decide ((x.kind)=3))||(By_ (P_ p) p.places.length (x.place) place)) then
 R_ p place t (out++[x])
 else R_ p place t out)
def X_ (p:A_) (place:Int) (l:List Y_):(List Y_):=
 R_ p place l []
theorem I6_ (p:A_) (place:Int):∀ (l out:List Y_),R_ p place l out=out++l.filter (λx=>decide (x.kind=3)||By_ (P_ p) p.places.length x.place place)
 |[],out=>by simp[R_]
 |x::t,out=>by
   simp only[R_,List.filter_cons]
   cases h:(decide (x.kind=3)||By_ (P_ p) p.places.length x.place place) with
   |true=>simp only[cond_true,if_true];rw[I6_ p place t];simp
   |false=>simp only[cond_false,if_neg Bool.false_ne_true];exact I6_ p place t out
theorem Fu_ (p:A_) (place:Int) (l:List Y_):X_ p place l=l.filter (λx=>decide (x.kind=3)||By_ (P_ p) p.places.length x.place place):=by
 rw[X_,I6_];simp
theorem Hc_ (p:A_) (place:Int) (l:List Y_):(X_ p place l).length<=l.length:=by
 rw[Fu_];exact List.length_filter_le _ _
theorem K7_ (p:A_) (place:Int) (l:List Y_):X_ p place (X_ p place l)=X_ p place l:=by
 simp only[Fu_,List.filter_filter,Bool.and_self]
end Go.SW.V
