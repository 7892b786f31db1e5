/-
  A part of the proof of PurgeOrder: Deeds that may be gone through; policies that may be; the chapters' examples: what the walks ask. Plain; each
-/
import Derived.Test.YtlemlalknchmcaaGreatDoorPurgeOrderP2
import Derived.KernelRfl
import Derived.Lib.ItoaLen
import Derived.Lib.Join
import Derived.Lib.LaidTab
import Derived.Test.YtlemlalknchmcaaGreatDoorProg
import Derived.Shelf.LaysM
import Derived.Shelf.Strings.Split
import Derived.Shelf.Strings.Repeat
import Derived.Test.YtlemlalknchmcaaGreatDoorPurgeOrderP1
set_option linter.unusedVariables false
set_option linter.unusedSimpArgs false
set_option maxRecDepth 100000
set_option maxHeartbeats 4000000
open Go.Proofs.Tryz
namespace Go.SW.V
open Go.SW
theorem T8_:∀ (l:List T_) (w g:Int) (p:List Ad_) (s:List Int) (o:List T_),A7_ l w g p s o=⟨w,g,p,s,o++l⟩
 |[],w,g,p,s,o=>by simp[A7_]
 |x::l,w,g,p,s,o=>by simp[A7_,T8_ l]
theorem T7_ (q:A_):∀ (l:List Ad_) (w g:Int) (p:List Ad_) (s:List Int) (o:List T_),A6_ q l w g p s o=⟨w,g,p++l,s++q.slots,o++q.grants⟩
 |[],w,g,p,s,o=>by simp[A6_,T8_]
 |x::l,w,g,p,s,o=>by simp[A6_,T7_ q l]
theorem to_eq (p:A_):Gy_ p=p:=by simp[Gy_,T7_]
theorem chk1 (y:Ad_):∀ l:List Ad_,LoP (λ_=>True) (λr:Int=>r≠0) (Ak_ y l)
 |[]=>trivial
 |x::l=>by
   unfold Ak_
   exact bt (P:=LoP _ _) (λ_=>by show (9:Int)≠0;decide) λ_=>chk1 y l
theorem chk4 (y:T_):∀ l:List T_,LoP (λ_=>True) (λr:Int=>r≠0) (Al_ y l)
 |[]=>trivial
 |x::l=>by
   unfold Al_
   exact bt (P:=LoP _ _) (λ_=>by show (9:Int)≠0;decide) λ_=>chk4 y l
theorem lp0Z {σ:Type} {I:Prop} {o:Lo Unit Int} {f:Int} (h:lp0 o f (λr=>r)=0) (ho:LoP (λ_=>I) (λr:Int=>r≠0) o):I/\f=0:=by
 cases o with
 |fin u=>exact⟨ho,h⟩
 |ret r=>exact absurd h ho
theorem LoP.imp {σ ρ:Type} {I J:σ->Prop} {R:ρ->Prop} {o:Lo σ ρ} (h:LoP I R o) (k:∀ s,I s->J s):LoP J R o:=by
 cases o with
 |fin s=>exact k s h
 |ret r=>exact h
theorem chk3 (p:A_):∀ (l:List T_) (k:Nat),Ag_ p l k=0->∀ g∈l,0<=g.frm/\g.frm<p.places.length/\0<=g.to'/\g.to'<p.places.length/\0<=g.budget/\g.budget<=16
 |[],_,_,_,h=>by cases h
 |x::l,k,h,g,hg=>by
   unfold Ag_ at h
   obtain ⟨hx,h2⟩:=lp0Z (σ:=Unit) (I:=0<=x.frm/\x.frm<p.places.length/\0<=x.to'/\x.to'<p.places.length/\0<=x.budget/\x.budget<=16) h (by
     refine bt (P:=LoP _ _) (λ_=>by show (10:Int)≠0;decide) λe=>?_
     refine bt (P:=LoP _ _) (λ_=>by show (11:Int)≠0;decide) λ_=>?_
     refine bt (P:=LoP _ _) (λ_=>by show (7:Int)≠0;decide) λe2=>?_
     simp only[Bool.or_eq_false_iff,decide_eq_false_iff_not] at e e2
     exact (chk4 x _).imp λ_ _=>⟨by omega,by omega,by omega,by omega,by omega,by omega⟩)
   rcases List.mem_cons.1 hg with rfl|q
   . exact hx
   . exact chk3 p l (k+1) h2 g q
theorem chk2 (p:A_):∀ l:List Int,Z_ p l=0->p.grants.length<=8/\Ag_ p p.grants 0=0
 |[],h=>by
   unfold Z_ at h
   cases e:decide (8<(p.grants.length:Int)) with
   |true=>rw[e] at h;cases h
   |false=>rw[e] at h;simp only[decide_eq_false_iff_not] at e;exact⟨by omega,h⟩
 |x::l,h=>by
   unfold Z_ at h
   cases e:(decide (x<0) || decide ((p.places.length:Int)<=x)) with
   |true=>rw[e] at h;cases h
   |false=>rw[e] at h;exact chk2 p l h
theorem chk0 (p:A_):∀ (l:List Ad_) (k:Nat),Af_ p l k=0->(∀ x∈l,0<=x.bytes/\x.bytes<=65536)/\0<p.slots.length/\p.slots.length<=32/\Z_ p p.slots=0
 |[],k,h=>by
   unfold Af_ at h
   cases e:decide ((p.slots.length:Int)=0) with
   |true=>rw[e] at h;cases h
   |false=>
     rw[e] at h
     cases e2:decide (32<(p.slots.length:Int)) with
     |true=>rw[e2] at h;cases h
     |false=>
       rw[e2] at h
       simp only[decide_eq_false_iff_not] at e e2
       exact⟨λ_ hx=>by (cases hx),by omega,by omega,h⟩
 |x::l,k,h=>by
   unfold Af_ at h
   obtain ⟨hx,h2⟩:=lp0Z (σ:=Unit) (I:=0<=x.bytes/\x.bytes<=65536) h (by
     refine bt (P:=LoP _ _) (λe=>?_) λ_=>?_
     . show Dj_ x.name≠0
       simpa using e
     refine bt (P:=LoP _ _) (λ_=>by show (7:Int)≠0;decide) λe=>?_
     simp only[Bool.or_eq_false_iff,decide_eq_false_iff_not] at e
     exact (chk1 x _).imp λ_ _=>⟨by omega,by omega⟩)
   obtain⟨h3,h4⟩:=chk0 p l (k+1) h2
   exact⟨λy hy=>by rcases List.mem_cons.1 hy with rfl|q;exact hx;exact h3 y q,h4⟩
theorem l05_ok {p:A_} (h:Eu_ p=true):PoOk p:=by
 simp only[Eu_,Bool.and_eq_true,decide_eq_true_eq,to_eq] at h;have h1:=h.2;unfold D4_ at h1
 cases e0:(decide (p.work<1) || decide (16<p.work) || decide (p.give<1) || decide (16<p.give)) with
 |true=>rw[e0] at h1;cases h1
 |false=>
   rw[e0] at h1
   cases e1:decide ((p.places.length:Int)=0) with
   |true=>rw[e1] at h1;cases h1
   |false=>
     rw[e1] at h1
     cases e2:decide (16<(p.places.length:Int)) with
     |true=>rw[e2] at h1;cases h1
     |false=>
       rw[e2] at h1
       simp only[decide_eq_false_iff_not] at e1 e2
       obtain⟨a1,a2,a3,a4⟩:=chk0 p p.places 0 h1
       obtain⟨b1,b2⟩:=chk2 p p.slots a4
       exact⟨by omega,by omega,a2,a3,b1,chk3 p p.grants 0 b2,a1⟩
theorem O9_ {p:A_} (h:Eu_ p=true):PoOk p/\0<p.places.length/\p.places.length<=16/\0<p.slots.length/\p.slots.length<=32/\p.grants.length<=8:=by
 have q:=l05_ok h;obtain⟨h1,h2,h3,h4,h5,_⟩:=id q;exact⟨q,h1,h2,h3,h4,h5⟩
theorem light_l {l:List Y_} (h:B7_ l=true):l.length<=80:=by
 unfold B7_ at h;have :∀ t:List Y_,Ae_ l t=true->l.length<=80:=λt=>by
   induction t with
   |nil=>intro h;simp only[Ae_,decide_eq_true_eq] at h;omega
   |cons x t ih=>
     intro h
     simp only[Ae_] at h
     cases q:decide (1200<(x.chunk.length:Int)) with
     |true=>rw[q] at h;cases h
     |false=>rw[q] at h;exact ih h
 exact this l h
def A8_ (p:A_) (a:Int) (b:Int) (c:Int) (l:List Y_):Bool:=
 (bif ((!(Eu_ p))||(!(B7_ l))) then
 true
 else (bif ((!(By_ (P_ p) p.places.length (a%(p.places.length:Int)) (a%(p.places.length:Int))))||(((By_ (P_ p) p.places.length (a%(p.places.length:Int)) (b%(p.places.length:Int)))&&(By_ (P_ p) p.places.length (b%(p.places.length:Int)) (c%(p.places.length:Int))))&&(!(By_ (P_ p) p.places.length (a%(p.places.length:Int)) (c%(p.places.length:Int)))))) then
 false
 else lt (X_ p (a%(p.places.length:Int)) l) λr=>
 lt (X_ p (a%(p.places.length:Int)) r) λr1=>
 ((decide ((r1.length:Int)=(r.length:Int)))&&(decide ((r.length:Int)<=(l.length:Int))))))
variable {P:Program} {n:Nat} {N:Rest} {H0:Env} {all rest:List Oper} {Q:Qs} {ks:List Kt} {fF:Nat->PV} {fL:Nat->Blk} {T ty d:Nat} {pos:String} {af:Array Edge} {x y z:Operand} {K:St->Prop}
structure EfR where
 F:Nat->PV
 L:Nat->Blk
 eq:Option (Nat×Nat)
def mkE (tb:Tb) (n:Nat) (i b:Nat) (F:Nat->PV) (L:Nat->Blk) (o:Oper):Option EfR:=
 match o.guard with
 |some _=>none
 |none=>match o.dst with
   |none=>none
   |some d=>match Nat.blt d n with
     |false=>none
     |true=>match o.op with
       | .alloc T=>match lkT tb T with
         |some ti=>match evL ti.zero with
           |some zs=>match Ay_ zs with
             |true=>some ⟨updp F d (.own i b 0),lups L i (.box b T zs),none⟩
             |false=>none
           |none=>none
         |none=>none
       | .box T x=>match evP F x with
         | .agg cs=>match Ay_ cs with
           |true=>some ⟨updp F d (.own i b 0),lups L i (.box b T cs),none⟩
           |false=>none
         |v=>match evS v with
           |some p=>match p.one with
             |true=>some ⟨updp F d (.own i b 0),lups L i (.box b T [p]),none⟩
             |false=>none
           |none=>none
       |_=>none
def stE (tb:Tb) (F:Nat->PV) (L:Nat->Blk) (o:Oper):Option EfR:=
 match o.guard with
 |some _=>none
 |none=>match o.dst with
   |some _=>none
   |none=>match o.op with
     | .store T x y=>match evP F x with
       | .own i b off=>match L i with
         | .box b' T0 cs=>match lkT tb T with
           |some ti=>match evP F y with
             | .agg ps=>match Ay_ ps with
               |true=>match all1 ps with
                 |true=>match Nat.beq ps.length ti.size with
                   |true=>match Nat.ble (off+ti.size) cs.length with
                     |true=>match evL (cs.take off++(ps++cs.drop (off+ti.size))) with
                       |some cs'=>some ⟨F,lups L i (.box b T0 cs'),some (b',b)⟩
                       |none=>none
                     |false=>none
                   |false=>none
                 |false=>none
               |false=>none
             |v=>match Nat.beq ti.size 1 with
               |true=>match evS v with
                 |some p=>match p.one with
                   |true=>match Nat.blt off cs.length with
                     |true=>match evL (cs.set off p) with
                       |some cs'=>some ⟨F,lups L i (.box b T0 cs'),some (b',b)⟩
                       |none=>none
                     |false=>none
                   |false=>none
                 |none=>none
               |false=>none
           |none=>none
         |_=>none
       |_=>none
     |_=>none
def kindE (o:Op):Nat:=
 match o with
 | .alloc _=>0
 | .box _ _=>0
 | .store _ _ _=>1
 |_=>2
def runE (tb:Tb) (n:Nat):Nat->List Nat->(Nat->Nat)->Cf->List Kt->(Nat->PV)->(Nat->Blk)->List Prop->List Nat->List Nat->Option RR
 |0,_,_,c,ks,F,L,ps,as0,bs=>frcP ps λps=>frcN as0 λas0=>frcN bs λbs=>some ⟨c,ks,F,L,ps,as0,bs⟩
 |k+1,is,B,c,ks,F,L,ps,as0,bs=>
   match c with
   | .ops all (o::rest)=>match kindE o.op with
     |0=>match is with
       |[]=>none
       |i::is=>match mkE tb n i (B 0) F L o with
         |some ⟨F,L,_⟩=>runE tb n k is (λi=>B (i+1)) (.ops all rest) ks F L ps as0 bs
         |none=>none
     |1=>match stE tb F L o with
       |some ⟨F,L,e⟩=>match e with
         |some (a,b)=>runE tb n k is B (.ops all rest) ks F L ps (a::as0) (b::bs)
         |none=>none
       |none=>none
     |_=>match run tb n 1 (.ops all (o::rest)) ks F L ps as0 bs with
       |some ⟨c,ks,F,L,ps,as0,bs⟩=>runE tb n k is B c ks F L ps as0 bs
       |none=>none
   |c=>match run tb n 1 c ks F L ps as0 bs with
     |some ⟨c,ks,F,L,ps,as0,bs⟩=>runE tb n k is B c ks F L ps as0 bs
     |none=>none
theorem mkE_ok {tb:Tb} (ht:tbB P tb=true) {i:Nat} {F:Nat->PV} {L:Nat->Blk} {o:Oper} (h:∀ b,∃ r,mkE tb n i b F L o=some r/\Hd P n N H0 Q (.ops all rest) ks ⟨r.F,r.L⟩):Hd P n N H0 Q (.ops all (o::rest)) ks ⟨F,L⟩:=by
 obtain⟨dst,op,ty,pos,af,g⟩:=o;have h0:=h 0
 cases g with
 |some q=>obtain⟨r,h1,_⟩:=h0;simp[mkE] at h1
 |none=>
   cases dst with
   |none=>obtain⟨r,h1,_⟩:=h0;simp[mkE] at h1
   |some d=>
     cases hd:Nat.blt d n with
     |false=>obtain⟨r,h1,_⟩:=h0;simp[mkE,hd] at h1
     |true=>
       cases op with
       |alloc T=>
         simp only[mkE,hd] at h
         cases hti:lkT tb T with
         |none=>rw[hti] at h;obtain⟨r,h1,_⟩:=h 0;simp at h1
         |some ti=>
           rw[hti] at h
           simp only at h
           cases hz:evL ti.zero with
           |none=>rw[hz] at h;obtain⟨r,h1,_⟩:=h 0;simp at h1
           |some zs=>
             rw[hz] at h
             simp only at h
             cases hn:Ay_ zs with
             |false=>rw[hn] at h;obtain⟨r,h1,_⟩:=h 0;simp at h1
             |true=>
               rw[hn] at h
               refine ef (alloc ht i hti hz hn hd λb=>?_)
               obtain⟨r,h1,h2⟩:=h b
               simp only[Option.some.injEq] at h1
               subst h1;exact h2
       |box T x=>
         simp only[mkE,hd] at h
         split at h
         . rename_i cs hx
           cases hn:Ay_ cs with
           |false=>rw[hn] at h;obtain⟨r,h1,_⟩:=h 0;simp at h1
           |true=>
             rw[hn] at h
             refine ef (boxA i hx hn hd λb=>?_)
             obtain⟨r,h1,h2⟩:=h b
             simp only[Option.some.injEq] at h1
             subst h1;exact h2
         . cases hs:evS (evP F x) with
           |none=>rw[hs] at h;obtain⟨r,h1,_⟩:=h 0;simp at h1
           |some p=>
             rw[hs] at h
             simp only at h
             cases ho:p.one with
             |false=>rw[ho] at h;obtain⟨r,h1,_⟩:=h 0;simp at h1
             |true=>
               rw[ho] at h
               refine ef (box1 i hs ho hd λb=>?_)
               obtain⟨r,h1,h2⟩:=h b
               simp only[Option.some.injEq] at h1
               subst h1;exact h2
       |_=>obtain⟨r,h1,_⟩:=h0;simp[mkE,hd] at h1
theorem stE_ok {tb:Tb} (ht:tbB P tb=true) {F:Nat->PV} {L:Nat->Blk} {o:Oper} {r:EfR} (h:stE tb F L o=some r) (he:∀ q,r.eq=some q->q.1=q.2) (k:Hd P n N H0 Q (.ops all rest) ks ⟨r.F,r.L⟩):Hd P n N H0 Q (.ops all (o::rest)) ks ⟨F,L⟩:=by
 obtain⟨dst,op,ty,pos,af,g⟩:=o
 cases g with
 |some q=>simp[stE] at h
 |none=>
   cases dst with
   |some d=>simp[stE] at h
   |none=>
     cases op with
     |store T x y=>
       simp only[stE] at h
       split at h
       . rename_i i b off hx
         split at h
         . rename_i b' T0 cs hb
           split at h
           . rename_i ti hti
             split at h
             . rename_i ps hy
               split at h
               . rename_i hn
                 split at h
                 . rename_i ho
                   split at h
                   . rename_i hsz
                     split at h
                     . rename_i hl
                       split at h
                       . rename_i cs' hc
                         simp only[Option.some.injEq] at h
                         subst h
                         exact ef (storeA ht hx hb hti hy hn ho (Nat.eq_of_beq_eq_true hsz) hl (he _ Y) hc k)
                       . cases h
                     . cases h
                   . cases h
                 . cases h
               . cases h
             . split at h
               . rename_i hsz
                 split at h
                 . rename_i p hs
                   split at h
                   . rename_i ho
                     split at h
                     . rename_i hl
                       split at h
                       . rename_i cs' hc
                         simp only[Option.some.injEq] at h
                         subst h
                         exact ef (store1 ht hx hb hti (Nat.eq_of_beq_eq_true hsz) hs ho hl (he _ Y) hc k)
                       . cases h
                     . cases h
                   . cases h
                 . cases h
               . cases h
           . cases h
         . cases h
       . cases h
     |_=>simp[stE] at h
def okR (P:Program) (n:Nat) (N:Rest) (H0:Env) (Q:Qs) (r:RR):Prop:=AllP r.ps/\r.as0=r.bs/\Hd P n N H0 Q r.c r.ks ⟨r.F,r.L⟩
theorem La_ {tb:Tb} (ht:tbB P tb=true):∀ (k:Nat) (is:List Nat) (c:Cf) (ks:List Kt) (F:Nat->PV) (L:Nat->Blk) (ps:List Prop) (as0 bs:List Nat),(∀ B:Nat->Nat,∃ r,runE tb n k is B c ks F L ps as0 bs=some r/\okR P n N H0 Q r)->AllP ps/\as0=bs/\Hd P n N H0 Q c ks ⟨F,L⟩:=by
 intro k
 induction k with
 |zero=>
   intro is c ks F L ps as0 bs h
   obtain⟨r,h1,h2,h3,h4⟩:=h (λ_=>0)
   simp only[runE,Gu_,It_,Option.some.injEq] at h1
   subst h1
   exact⟨h2,h3,h4⟩
 |succ k ih=>
   intro is c ks F L ps as0 bs h
   have one:(∀ B:Nat->Nat,∃ r,(match run tb n 1 c ks F L ps as0 bs with
       |some ⟨c,ks,F,L,ps,as0,bs⟩=>runE tb n k is B c ks F L ps as0 bs
       |none=>none)=some r/\okR P n N H0 Q r)->AllP ps/\as0=bs/\Hd P n N H0 Q c ks ⟨F,L⟩:=by
     intro h
     cases hr:run tb n 1 c ks F L ps as0 bs with
     |none=>obtain⟨r,h1,_⟩:=h (λ_=>0);rw[hr] at h1;cases h1
     |some q=>
       obtain⟨c',ks',F',L',ps',as',bs'⟩:=q
       obtain⟨i1,i2,i3⟩:=ih is c' ks' F' L' ps' as' bs' (λB=>by obtain⟨r,h1,h2⟩:=h B;rw[hr] at h1;exact⟨r,h1,h2⟩)
       obtain⟨j1,j2,j3⟩:=Qr_ ht (Q:=Q) (N:=N) (H0:=H0) 1 c ks F L ps as0 bs _ hr i1 i2
       exact⟨j1,j2,j3 i3⟩
   cases c with
   |code c=>exact one h
   |ex e=>exact one h
   |ops all l=>
     cases l with
     |nil=>exact one h
     |cons o rest=>
       simp only[runE] at h
       split at h
       . cases is with
         |nil=>obtain⟨r,h1,_⟩:=h (λ_=>0);cases h1
         |cons i is=>
           have hb:∀ b,∃ r,mkE tb n i b F L o=some r/\AllP ps/\as0=bs/\Hd P n N H0 Q (.ops all rest) ks ⟨r.F,r.L⟩:=by
             intro b
             cases hm:mkE tb n i b F L o with
             |none=>obtain⟨r,h1,_⟩:=h (λ_=>b);simp only[hm] at h1;cases h1
             |some q=>
               obtain⟨F',L',e⟩:=q
               refine⟨_,rfl,ih is (.ops all rest) ks F' L' ps as0 bs λB=>?_⟩
               obtain⟨r,h1,h2⟩:=h (λj=>match j with|0=>b|j+1=>B j)
               simp only[hm] at h1
               exact⟨r,h1,h2⟩
           obtain⟨_,_,q1,q2,_⟩:=hb 0
           exact⟨q1,q2,mkE_ok ht λb=>by obtain⟨r,h1,_,_,h2⟩:=hb b;exact⟨r,h1,h2⟩⟩
       . cases hs:stE tb F L o with
         |none=>obtain⟨r,h1,_⟩:=h (λ_=>0);rw[hs] at h1;cases h1
         |some q=>
           obtain⟨F',L',e⟩:=q
           cases e with
           |none=>obtain⟨r,h1,_⟩:=h (λ_=>0);rw[hs] at h1;cases h1
           |some ab=>
             obtain⟨a,b⟩:=ab
             obtain⟨i1,i2,i3⟩:=ih is (.ops all rest) ks F' L' ps (a::as0) (b::bs) (λB=>by obtain⟨r,h1,h2⟩:=h B;rw[hs] at h1;exact⟨r,h1,h2⟩)
             simp only[List.cons.injEq] at i2
             exact⟨i1,i2.2,stE_ok ht hs (λq hq=>by cases hq;exact i2.1) i3⟩
       . exact one h
theorem gmp {tb:Tb} (ht:tbB P tb=true) (k:Nat) (is:List Nat) {c c':Cf} {ks':List Kt} {F':(Nat->Nat)->Nat->PV} {L':(Nat->Nat)->Nat->Blk} {ps:(Nat->Nat)->List Prop} {as0 bs:(Nat->Nat)->List Nat} (h:∀ B,runE tb n k is B c ks fF fL [] [] []=some ⟨c',ks',F' B,L' B,ps B,as0 B,bs B⟩) (he:∀ B,as0 B=bs B) (hp:∀ B,AllP (ps B)) (next :∀ B:Nat->Nat,Hd P n N H0 Q c' ks' ⟨F' B,L' B⟩):Hd P n N H0 Q c ks ⟨fF,fL⟩:=
 (La_ ht k is c ks fF fL [] [] [] λB=>⟨_,h B,hp B,he B,next B⟩).2.2
theorem gx {tb:Tb} (ht:tbB P tb=true) (k:Nat) {c c':Cf} {ks':List Kt} {F':Nat->PV} {L':Nat->Blk} {as0 bs:List Nat} (next :Hd P n N H0 Q c' ks' ⟨F',L'⟩) (h:run tb n k c ks fF fL [] [] []=some ⟨c',ks',F',L',[],as0,bs⟩:=by exact Y) (he:as0=bs:=by exact Y):Hd P n N H0 Q c ks ⟨fF,fL⟩:=go ht k h he Z next
theorem gm {tb:Tb} (ht:tbB P tb=true) (k:Nat) (is:List Nat) {c c':Cf} {ks':List Kt} {F':(Nat->Nat)->Nat->PV} {L':(Nat->Nat)->Nat->Blk} {as0 bs:(Nat->Nat)->List Nat} (next :∀ B:Nat->Nat,Hd P n N H0 Q c' ks' ⟨F' B,L' B⟩) (h:∀ B,runE tb n k is B c ks fF fL [] [] []=some ⟨c',ks',F' B,L' B,[],as0 B,bs B⟩:=by exact λ_=>rfl) (he:∀ B,as0 B=bs B:=by exact λ_=>rfl):Hd P n N H0 Q c ks ⟨fF,fL⟩:=gmp ht k is h he (λ_=>trivial) next
abbrev jIn (xs:List Nat) (j:Option Nat):Bool:=match j with|none=>true|some j=>memB xs j
theorem vE {xs:List Nat} {fuel:Nat} {listed:Array Bool} {o:Oper} {j:Option Nat} (i:Nat) (hi:nth all i=some o) (h:E1 P n N H0 all o j ⟨fF,fL⟩ (λs'=>Hv P n N H0 Q (some xs) all fuel (listed.setIfInBounds i true) ks s')) (hr:Region.ready .any all.toArray listed=[i]:=by kernel_rfl) (hj:jIn xs j=true:=by exact Y):Hv P n N H0 Q (some xs) all (fuel+1) listed ks ⟨fF,fL⟩:=ve i hi hr hj h
theorem vD {xs:Option (List Nat)} {fuel:Nat} {listed:Array Bool} (k:Hd P n N H0 Q (.ex .normal) ks ⟨fF,fL⟩) (h:Region.ready .any all.toArray listed=[]:=by kernel_rfl):Hv P n N H0 Q xs all fuel listed ks ⟨fF,fL⟩:=vdone h k
theorem aN (xs:List Nat) (m:Nat) {id:Nat} {ops:Array Oper} (hmx:P.follows .mixedOrders=true) (h:Hv P n N H0 Q (some xs) ops.toList m (Array.replicate m false) ks ⟨fF,fL⟩) (hm:ops.toList.length=m:=by exact Y):Hd P n N H0 Q (.code (.region id ops true)) ks ⟨fF,fL⟩:=any xs m hmx hm h
theorem gX {tb:Tb} (ht:tbB P tb=true) (order:List Nat) (f:Nat) {xs:Option (List Nat)} {fuel:Nat} {listed:Array Bool} {F':Nat->PV} {L':Nat->Blk} {as0 bs:List Nat} (next :Hv P n N H0 Q xs all f (lst listed order) ks ⟨F',L'⟩) (hf:fuel=f+order.length:=by exact Y) (hc:chkV n all order listed=true:=by kernel_rfl) (h:runV tb xs all order fF fL [] [] []=some ⟨F',L',[],as0,bs⟩:=by exact Y) (he:as0=bs:=by exact Y):Hv P n N H0 Q xs all fuel listed ks ⟨fF,fL⟩:=gov ht order f hf hc h he Z next
theorem vC {xs:Option (List Nat)} {fuel:Nat} {listed:Array Bool} {f:FuncId} {args:List PV} {res:PV} {as0:Array Operand} {ats:Array TypeId} (i:Nat) (hi:nth all i=some ⟨some d, .call ⟨.value x,as0,ats⟩,ty,pos,af,none⟩) (h:Fn P H0.g f args res) (ha:argsP fF x as0.toList=some (f,args)) (k:res.wf->Hv P n N H0 Q xs all fuel (listed.setIfInBounds i true) ks ⟨updp fF d res,fL⟩) (hck:(rdB all listed i&&apB n all listed i ⟨some d, .call ⟨.value x,as0,ats⟩,ty,pos,af,none⟩&&Nat.blt d n&&nosB (.call ⟨.value x,as0,ats⟩))=true:=by kernel_rfl) (hf:res.flat=true:=by exact Y):Hv P n N H0 Q xs all (fuel+1) listed ks ⟨fF,fL⟩:=vcall i hi hck h hf ha k
theorem nX {ι:Type _} {keep kL:List Nat} {G:Nat->PV} {GL:Nat->Blk} {lv:ι->List (Nat×PV)} {lL:ι->List (Nat×Blk)} {Φ:ι->Prop} {μ:ι->Nat} {m:Nat} {ks:List Kt} {Q:Qs} (x':ι) (hΦ:Φ x') (h3:AllF fF (lv x')) (h4:AllL fL (lL x')) (h1:keep.map fF=keep.map G:=by exact Y) (h2:kL.map fL=kL.map GL:=by exact Y) (hm:μ x'<m:=by decide):Hd P n N H0 Q (.ex .normal) (.lp (LJ (λx=>⟨mkF (lv x) keep G,mkL (lL x) kL GL⟩) Φ μ m)::ks) ⟨fF,fL⟩:=next x' h1 h2 h3 h4 hm hΦ
theorem cE {α:Type} {v a b:α} {c:Operand} {p q:Code} {t:Bool} (e:v = bif t then a else b) (ht:t=true->v=a->Hd P n N H0 Q (.code p) ks ⟨fF,fL⟩) (hf:t=false->v=b->Hd P n N H0 Q (.code q) ks ⟨fF,fL⟩) (hc:evP fF c = .bool t:=by exact Y):Hd P n N H0 Q (.code (.cond c p q)) ks ⟨fF,fL⟩:=cnd hc (λh=>ht h (e.trans (by rw[h];rfl))) (λh=>hf h (e.trans (by rw[h];rfl)))
theorem cD {α:Type} {v a b:α} {c:Operand} {p q:Code} {t:Prop} [Decidable t] (e:v = bif decide t then a else b) (ht:t->v=a->Hd P n N H0 Q (.code p) ks ⟨fF,fL⟩) (hf:¬t->v=b->Hd P n N H0 Q (.code q) ks ⟨fF,fL⟩) (hc:evP fF c = .bool (decide t):=by exact Y):Hd P n N H0 Q (.code (.cond c p q)) ks ⟨fF,fL⟩:=cE e (λh=>ht (of_decide_eq_true h)) (λh=>hf (of_decide_eq_false h)) hc
theorem cN {α:Type} {v a b:α} {c:Operand} {p q:Code} {t:Prop} [Decidable t] (e:v = bif !decide t then a else b) (ht:¬t->v=a->Hd P n N H0 Q (.code p) ks ⟨fF,fL⟩) (hf:t->v=b->Hd P n N H0 Q (.code q) ks ⟨fF,fL⟩) (hc:evP fF c = .bool (!decide t):=by exact Y):Hd P n N H0 Q (.code (.cond c p q)) ks ⟨fF,fL⟩:=cE e (λh=>ht xZ) (λh=>hf xZ) hc
theorem fC {tb:Tb} {G:Gb} {m:Nat} {f:FuncId} {fn:Func} {c:Code} {args:List PV} {res:PV} (hf:P.funcs[f]? = some fn) (ht:tbB P tb=true) (hn:fn.ntmps=m) (h:PV.wfs args->∀ N H,G.p H->Hd P m N ⟨H,G⟩ (rtK tb fn.results.toList res) (.code c) [] ⟨O4_ args,λ_=> .no⟩) (hb:fn.body=some c:=by exact Y) (hs:Nat.ble args.length m=true:=by exact Y) (h1:(fn.name == "runtime.NumGoroutine")=false:=by kernel_rfl) (h2:fn.body.isNone=false:=by kernel_rfl) (hno:res.noOsl=true:=by exact Y) (hna:Ay_ args=true:=by exact Y):Fn P G f args res:=fn_cw ht hf hb hn hs (B5_ hf h1 h2) hno hna h
variable {tb:Tb} {rs:List ResultVar} {as0 bs:List Nat} {res q0 q1 q2 q3:PV}
theorem qr1 (h:I9_ tb ⟨fF,fL⟩ rs=some ([q0],as0,bs):=by exact Y) (he:as0=bs:=by exact Y) (hp:PLe q0 res:=by exact ple Y):Hd P n N H0 (rtK tb rs res) (.ex .ret) [] ⟨fF,fL⟩:=rt1 h he hp
theorem cV {α β:Type} {v:β} {g:α} {kf:α->β} {f:FuncId} {args:List PV} {xs:Array Operand} {ats:Array TypeId} (e:v=lt g kf) (enc:α->PV) (h:Fn P H0.g f args (enc g)) (ha:argsP fF x xs.toList=some (f,args)) (k:∀ r,r=g->v=kf r->(enc r).wf->Hd P n N H0 Q (.ops all rest) ks ⟨updp fF d (enc r),fL⟩) (hd:Nat.blt d n=true:=by exact Y):Hd P n N H0 Q (.ops all (⟨some d, .call ⟨.value x,xs,ats⟩,ty,pos,af,none⟩::rest)) ks ⟨fF,fL⟩:=
 callv g enc h ha hd λr hr w=>k r hr (e.trans (lt_eq hr)) w
theorem gy {tb:Tb} (ht:tbB P tb=true) (k:Nat) {c c':Cf} {ks':List Kt} {F':Nat->PV} {L':Nat->Blk} {ps:List Prop} {as0 bs:List Nat} (next :Hd P n N H0 Q c' ks' ⟨F',L'⟩) (h:run tb n k c ks fF fL [] [] []=some ⟨c',ks',F',L',ps,as0,bs⟩:=by exact Y) (he:as0=bs:=by exact Y) (hp:AllP ps:=by repeat' (first|exact Z|refine And.intro ?_ ?_|exact λhc=>hc|exact Y|exact λhc=>rfl|omega|(intro hc;omega)|(intro hc;rw[hc];rfl))):Hd P n N H0 Q c ks ⟨fF,fL⟩:=go ht k h he hp next
theorem gmy {tb:Tb} (ht:tbB P tb=true) (k:Nat) (is:List Nat) {c c':Cf} {ks':List Kt} {F':(Nat->Nat)->Nat->PV} {L':(Nat->Nat)->Nat->Blk} {ps:(Nat->Nat)->List Prop} {as0 bs:(Nat->Nat)->List Nat} (next :∀ B:Nat->Nat,Hd P n N H0 Q c' ks' ⟨F' B,L' B⟩) (h:∀ B,runE tb n k is B c ks fF fL [] [] []=some ⟨c',ks',F' B,L' B,ps B,as0 B,bs B⟩:=by exact λ_=>rfl) (he:∀ B,as0 B=bs B:=by exact λ_=>rfl) (hp:∀ B,AllP (ps B):=by intro B;repeat' (first|exact Z|refine And.intro ?_ ?_|exact λhc=>hc|exact Y|exact λhc=>rfl|omega|(intro hc;omega)|(intro hc;rw[hc];rfl))):Hd P n N H0 Q c ks ⟨fF,fL⟩:=gmp ht k is h he hp next
theorem gXy {tb:Tb} (ht:tbB P tb=true) (order:List Nat) (f:Nat) {xs:Option (List Nat)} {fuel:Nat} {listed:Array Bool} {F':Nat->PV} {L':Nat->Blk} {ps:List Prop} {as0 bs:List Nat} (next :Hv P n N H0 Q xs all f (lst listed order) ks ⟨F',L'⟩) (hf:fuel=f+order.length:=by exact Y) (hc:chkV n all order listed=true:=by kernel_rfl) (h:runV tb xs all order fF fL [] [] []=some ⟨F',L',ps,as0,bs⟩:=by exact Y) (he:as0=bs:=by exact Y) (hp:AllP ps:=by repeat' (first|exact Z|refine And.intro ?_ ?_|exact λhc=>hc|exact Y|exact λhc=>rfl|omega|(intro hc;omega)|(intro hc;rw[hc];rfl))):Hv P n N H0 Q xs all fuel listed ks ⟨fF,fL⟩:=gov ht order f hf hc h he hp next
end Go.SW.V
namespace Go.SW.V
open Go.SW
end Go.SW.V
namespace Go.SW
def GPow (H:Hp) (g:Nat):Prop:=∃ T fr,H g=some (.cells (Go.Lib.pow10Tab.map (Value.int .u64)).toArray T fr)
theorem GPow.mono {H H':Hp} {g:Nat} (h:GPow H g) (hl:HLe H H'):GPow H' g:=by
 exact zQ
end Go.SW
namespace Go.SW.V
open Go.SW Go.Proofs
abbrev ty9:TI:=⟨.str,1,16,[.str []]⟩
abbrev ty3:TI:=⟨.int .i64,1,8,[.int .i64 0]⟩
abbrev ty5:TI:=⟨.int .u8,1,1,[.int .u8 0]⟩
abbrev ty35:TI:=⟨.slc 72,1,24,[.sl Ad_.pc []]⟩
abbrev ty36:TI:=⟨.slc 3,1,24,[.sl i64c []]⟩
abbrev ty37:TI:=⟨.slc 75,1,24,[.sl T_.pc []]⟩
abbrev ty39:TI:=⟨.agg [(0,1),(1,1),(2,1),(3,1),(4,1)],5,88,[.int .i64 0, .int .i64 0, .sl Ad_.pc [], .sl i64c [], .sl T_.pc []]⟩
abbrev ty68:TI:=⟨.int .u32,1,4,[.int .u32 0]⟩
abbrev ty70:TI:=⟨.agg [(0,1),(1,1)],2,8,[.int .u8 0, .int .u32 0]⟩
abbrev ty75:TI:=⟨.agg [(0,1),(1,1),(2,1)],3,24,[.int .i64 0, .int .i64 0, .int .i64 0]⟩
abbrev ty72:TI:=⟨.agg [(0,1),(1,2),(3,1),(4,1)],5,40,[.str [], .int .u8 0, .int .u32 0, .int .i64 0, .int .u64 0]⟩
abbrev ty28:TI:=⟨.int .u64,1,8,[.int .u64 0]⟩
abbrev ty41:TI:=⟨.slc 73,1,24,[.sl Ad_.pc []]⟩
abbrev ty42:TI:=⟨.slc 76,1,24,[.sl T_.pc []]⟩
abbrev ty44:TI:=⟨.agg [(0,1),(1,1),(2,1),(3,1),(4,1)],5,88,[.int .i64 0, .int .i64 0, .sl Ad_.pc [], .sl i64c [], .sl T_.pc []]⟩
abbrev ty73:TI:=⟨.agg [(0,1),(1,2),(3,1),(4,1)],5,40,[.str [], .int .u8 0, .int .u32 0, .int .i64 0, .int .u64 0]⟩
abbrev ty76:TI:=⟨.agg [(0,1),(1,1),(2,1)],3,24,[.int .i64 0, .int .i64 0, .int .i64 0]⟩
abbrev ty25:TI:=⟨.slc 30,1,24,[.sl Y_.pc []]⟩
abbrev ty30:TI:=⟨.agg [(0,1),(1,1),(2,1),(3,1),(4,1),(5,1)],6,56,[.int .u8 0, .int .i64 0, .int .u64 0, .str [], .int .i64 0, .int .i64 0]⟩
def tbu:Tb:=[(39,ty39),(35,ty35),(3,ty3),(36,ty36),(5,ty5),(37,ty37),(70,ty70),(68,ty68),(9,ty9),(72,ty72),(28,ty28),(41,ty41),(42,ty42),(44,ty44),(73,ty73),(76,ty76),(25,ty25),(75,ty75),(30,ty30)]
theorem Ch_:tbB prog tbu=true:=by kernel_rfl
section
variable {n:Nat} {N:Rest} {H0:Env} {all:List Oper} {Q:Qs} {ks:List Kt} {fF:Nat->PV} {fL:Nat->Blk}
theorem kA (k:Nat) {c c':Cf} {ks':List Kt} {F':Nat->PV} {L':Nat->Blk} {az bs:List Nat} (next :Hd prog n N H0 Q c' ks' ⟨F',L'⟩) (h:run tbu n k c ks fF fL [] [] []=some ⟨c',ks',F',L',[],az,bs⟩:=by exact Y) (he:az=bs:=by exact Y):Hd prog n N H0 Q c ks ⟨fF,fL⟩:=gx Ch_ k next h he
theorem kB (k:Nat) (is:List Nat) {c c':Cf} {ks':List Kt} {F':(Nat->Nat)->Nat->PV} {L':(Nat->Nat)->Nat->Blk} {az bs:(Nat->Nat)->List Nat} (next :∀ B:Nat->Nat,Hd prog n N H0 Q c' ks' ⟨F' B,L' B⟩) (h:∀ B,runE tbu n k is B c ks fF fL [] [] []=some ⟨c',ks',F' B,L' B,[],az B,bs B⟩:=by exact λ_=>rfl) (he:∀ B,az B=bs B:=by exact λ_=>rfl):Hd prog n N H0 Q c ks ⟨fF,fL⟩:=gm Ch_ k is next h he
theorem kC (k:Nat) {c c':Cf} {ks':List Kt} {F':Nat->PV} {L':Nat->Blk} {ps:List Prop} {az bs:List Nat} (next :Hd prog n N H0 Q c' ks' ⟨F',L'⟩) (h:run tbu n k c ks fF fL [] [] []=some ⟨c',ks',F',L',ps,az,bs⟩:=by exact Y) (he:az=bs:=by exact Y) (hp:AllP ps:=by repeat' (first|exact Z|refine And.intro ?_ ?_|exact λhc=>hc|exact Y|exact λhc=>rfl|omega|(intro hc;omega)|(intro hc;rw[hc];rfl))):Hd prog n N H0 Q c ks ⟨fF,fL⟩:=gy Ch_ k next h he hp
theorem kD (k:Nat) (is:List Nat) {c c':Cf} {ks':List Kt} {F':(Nat->Nat)->Nat->PV} {L':(Nat->Nat)->Nat->Blk} {ps:(Nat->Nat)->List Prop} {az bs:(Nat->Nat)->List Nat} (next :∀ B:Nat->Nat,Hd prog n N H0 Q c' ks' ⟨F' B,L' B⟩) (h:∀ B,runE tbu n k is B c ks fF fL [] [] []=some ⟨c',ks',F' B,L' B,ps B,az B,bs B⟩:=by exact λ_=>rfl) (he:∀ B,az B=bs B:=by exact λ_=>rfl) (hp:∀ B,AllP (ps B):=by intro B;repeat' (first|exact Z|refine And.intro ?_ ?_|exact λhc=>hc|exact Y|exact λhc=>rfl|omega|(intro hc;omega)|(intro hc;rw[hc];rfl))):Hd prog n N H0 Q c ks ⟨fF,fL⟩:=gmy Ch_ k is next h he hp
theorem kE (order:List Nat) (f:Nat) {xs:Option (List Nat)} {fuel:Nat} {listed:Array Bool} {F':Nat->PV} {L':Nat->Blk} {az bs:List Nat} (next :Hv prog n N H0 Q xs all f (lst listed order) ks ⟨F',L'⟩) (hf:fuel=f+order.length:=by exact Y) (hc:chkV n all order listed=true:=by kernel_rfl) (h:runV tbu xs all order fF fL [] [] []=some ⟨F',L',[],az,bs⟩:=by exact Y) (he:az=bs:=by exact Y):Hv prog n N H0 Q xs all fuel listed ks ⟨fF,fL⟩:=gX Ch_ order f next hf hc h he
theorem kF (order:List Nat) (f:Nat) {xs:Option (List Nat)} {fuel:Nat} {listed:Array Bool} {F':Nat->PV} {L':Nat->Blk} {ps:List Prop} {az bs:List Nat} (next :Hv prog n N H0 Q xs all f (lst listed order) ks ⟨F',L'⟩) (hf:fuel=f+order.length:=by exact Y) (hc:chkV n all order listed=true:=by kernel_rfl) (h:runV tbu xs all order fF fL [] [] []=some ⟨F',L',ps,az,bs⟩:=by exact Y) (he:az=bs:=by exact Y) (hp:AllP ps:=by repeat' (first|exact Z|refine And.intro ?_ ?_|exact λhc=>hc|exact Y|exact λhc=>rfl|omega|(intro hc;omega)|(intro hc;rw[hc];rfl))):Hv prog n N H0 Q xs all fuel listed ks ⟨fF,fL⟩:=gXy Ch_ order f next hf hc h he hp
theorem kG {G:Gb} {m:Nat} {f:FuncId} {fn:Func} {c:Code} {args:List PV} {res:PV} (hf:prog.funcs[f]? = some fn) (hn:fn.ntmps=m) (h:PV.wfs args->∀ N H,G.p H->Hd prog m N ⟨H,G⟩ (rtK tbu fn.results.toList res) (.code c) [] ⟨O4_ args,λ_=> .no⟩) (hb:fn.body=some c:=by exact Y) (hs:Nat.ble args.length m=true:=by exact Y) (h1:(fn.name == "runtime.NumGoroutine")=false:=by kernel_rfl) (h2:fn.body.isNone=false:=by kernel_rfl) (hno:res.noOsl=true:=by exact Y) (hna:Ay_ args=true:=by exact Y):Fn prog G f args res:=fC hf Ch_ hn h hb hs h1 h2 hno hna
theorem kI {T ty d:Nat} {rest:List Oper} {pos:String} {af:Array Edge} {x y:Operand} {α:Type} {ti te:TI} {e:TypeId} {enc:α->List PV} {xs:List α} {kk:IntKind} {i:Int} (m:Nat) {a:α} (hm:xs[m]? = some a) (k:(PV.el (enc a) 0).wf->Hd prog n N H0 Q (.ops all rest) ks ⟨updp fF d (.el (enc a) 0),fL⟩) (hx:evP fF x = .sl enc xs:=by exact Y) (hy:evP fF y = .int kk i:=by exact Y) (hi:i=m:=by exact Y) (hti:lkT tbu T=some ti:=by exact Y) (htk:ti.k = .slc e:=by exact Y) (hte:lkT tbu e=some te:=by exact Y) (hsz:te.size=(enc a).length:=by exact Y) (hd:Nat.blt d n=true:=by exact Y):Hd prog n N H0 Q (.ops all (⟨some d, .indexAddr T x y,ty,pos,af,none⟩::rest)) ks ⟨fF,fL⟩:=q1 (qidx Ch_ m hx hy hi hm hti htk hte hsz) hd k
theorem kN (k:Nat) {c:Cf} {ks':List Kt} {F':Nat->PV} {L':Nat->Blk} {az:List Nat} {x:Operand} {y z:Code} {t:Prop} {i:Decidable t} (p:t->Hd prog n N H0 Q (.code y) ks' ⟨F',L'⟩) (q:¬t->Hd prog n N H0 Q (.code z) ks' ⟨F',L'⟩) (h:run tbu n k c ks fF fL [] [] []=some ⟨.code (.cond x y z),ks',F',L',[],az,az⟩:=by exact Y) (hc:evP F' x = .bool (decide t):=by exact Y):Hd prog n N H0 Q c ks ⟨fF,fL⟩:=kA k (cn hc p q) h Y
theorem kM (k:Nat) {c:Cf} {ks':List Kt} {F':Nat->PV} {L':Nat->Blk} {az:List Nat} {x:Operand} {y z:Code} {t:Bool} (p:t=true->Hd prog n N H0 Q (.code y) ks' ⟨F',L'⟩) (q:t=false->Hd prog n N H0 Q (.code z) ks' ⟨F',L'⟩) (h:run tbu n k c ks fF fL [] [] []=some ⟨.code (.cond x y z),ks',F',L',[],az,az⟩:=by exact Y) (hc:evP F' x = .bool t:=by exact Y):Hd prog n N H0 Q c ks ⟨fF,fL⟩:=kA k (cnd hc p q) h Y
theorem kL (k:Nat) {c:Cf} {ks':List Kt} {F':Nat->PV} {L':Nat->Blk} {az:List Nat} {rest:List Oper} {f:FuncId} {args:List PV} {res:PV} {x:Operand} {xs:Array Operand} {ats:Array TypeId} {ty d:Nat} {pos:String} {af:Array Edge} (g:Fn prog H0.g f args res) (h:run tbu n k c ks fF fL [] [] []=some ⟨.ops all (⟨some d, .call ⟨.value x,xs,ats⟩,ty,pos,af,none⟩::rest),ks',F',L',[],az,az⟩) (ha:argsP F' x xs.toList=some (f,args)) (hd:Nat.blt d n=true) (q:res.wf->Hd prog n N H0 Q (.ops all rest) ks' ⟨updp F' d res,L'⟩):Hd prog n N H0 Q c ks ⟨fF,fL⟩:=kA k (call g ha hd q) h Y
theorem kR (k:Nat) {c:Cf} {F':Nat->PV} {L':Nat->Blk} {az as0:List Nat} {rs:List ResultVar} {res p:PV} (q:p=res) (h:run tbu n k c ks fF fL [] [] []=some ⟨.ex .ret,[],F',L',[],az,az⟩:=by exact Y) (hs:I9_ tbu ⟨F',L'⟩ rs=some ([p],as0,as0):=by exact Y):Hd prog n N H0 (rtK tbu rs res) c ks ⟨fF,fL⟩:=kA k (rt1 hs Y (ple q)) h Y
theorem jA (k:Nat) {c c':Cf} {ks':List Kt} {F':Nat->PV} {L':Nat->Blk} {az:List Nat} (h:run tbu n k c ks fF fL [] [] []=some ⟨c',ks',F',L',[],az,az⟩) (q:Hd prog n N H0 Q c' ks' ⟨F',L'⟩):Hd prog n N H0 Q c ks ⟨fF,fL⟩:=kA k q h Y
end
def gb:Gb:=⟨λH=>GInt H 4/\GTab H 7 laidT/\GStrs H 3 tellsT/\GPow H 1,λH H' hl h=>⟨h.1.mono hl,h.2.1.mono hl,h.2.2.1.mono hl,h.2.2.2.mono hl⟩⟩
theorem gbML {H:Hp} (h:gb.p H):GInt H 4:=h.1
theorem gbCrc {H:Hp} (h:gb.p H):GTab H 7 laidT:=h.2.1
theorem gbTells {H:Hp} (h:gb.p H):GStrs H 3 tellsT:=h.2.2.1
theorem gbPow {H:Hp} (h:gb.p H):GPow H 1:=h.2.2.2
theorem Qj_ (c:Int):Fn prog gb 62 [.int .u8 c] (.bool (letter c)):=by
 refine kG func62 ntmps62 λw N H hG=>?_;refine kC 33 ?_;refine rt1 Y Y (ple ?_);simp[letter, *]
end Go.SW.V
namespace Go.SW
open Go.Proofs
theorem ag115:Ag prog 115 false:=λw=>by kernel_rfl
theorem ag9:Ag prog 9 false:=λw=>by kernel_rfl
theorem cb104:Aa_ prog 104:=B5_ func104 xJ xJ
theorem Kr_:Fld prog 118 0 0:=λb o w=>by kernel_rfl
theorem Pb_:liesAt prog prog.depth 118 (2/prog.cellsOf 118) 0 118 1=true:=by kernel_rfl
theorem ne143:NoEsc prog 143:=Mg_ func143 xJ xJ xJ xJ
theorem sz115:Sz prog 115 1:=λw=>by kernel_rfl
theorem sz9:Sz prog 9 1:=λw=>by kernel_rfl
theorem ti118:∃ j,prog.info? 118=some j:=Option.isSome_iff_exists.1 xJ
theorem tz118:∃ j,prog.info? 118=some j/\j.size≠0:=exInfo xJ
set_option maxRecDepth 100000 in
theorem copyCheck {n:Nat} {N:Rest} {F:Fr} {H:Hp} {L:Ls} {ops:List Oper} {ty d:Nat} {pos:String} {af:Array Edge} {K:Fr->Hp->Ls->Prop} {x:Operand} {ats:Array TypeId} {b:Nat} {p v:Value} (i:Nat) (hx:ev F x = .pointer (some ⟨b,0,none⟩)) (hi:L i=some (b,bx 118 [p,v]))
   (hp:p = .pointer none\/p = .pointer (some ⟨b,0,none⟩)) (hd:Nat.blt d n=true) (k:K (upd F d (.tuple #[])) H (lupd L i (some (b,bx 118 [.pointer (some ⟨b,0,none⟩),v])))):Op1 prog n N ops ⟨some d, .call ⟨.value (.func 104),#[x],ats⟩,ty,pos,af,none⟩ K F H L:=by
 refine P4_ (en_f (vs:=[.pointer (some ⟨b,0,none⟩)]) cb104 (by simp[evs,hx])) func104 rfl ntmps104 rfl hd (Am_ (L_ (ol rfl (Bs_ (v:= .pointer (some ⟨_,_,none⟩)) rfl) (ol rfl (Ac_ rfl) (ol rfl (U_ rfl Kr_) ?_)))));refine ol Y (Bu_ (i:=i) (v:=p) Y ag115 hi Y) ?_
 rcases hp with rfl|rfl
 refine ol Y (lo_pnil Y Y underlying115) (Au_ (Ar_ (Jo_ Y Y (L_ (ol Y (Bs_ (v:= .pointer (some ⟨_,_,none⟩)) Y) ?_)))));refine ol Y (Bs_ (v:= .pointer (some ⟨_,_,none⟩)) Y) (ol Y (G5_ (i:=i) Y hi Y underlying115 underlying225 (tz118).choose_spec.1 (tz118).choose_spec.2) (ol Y (R6_ (v:= .pointer (some ⟨_,_,none⟩)) ne143 Y) (ol Y (E1_ (i:=i) Y hi underlying225 underlying115 (ti118).choose_spec Pb_) (ol Y (Ac_ Y) (ol Y (U_ Y Kr_) ?_)))));refine ow1 (C5_ (i:=i) (v:= .pointer (some ⟨_,_,none⟩)) Y Y Y sz115 hi Y ?_);refine Au_ ?_;exact fnK_n (res0 Y) (.refl _) k
 . refine ol Y (Ne_ Y Y underlying115) (Au_ (Ar_ (Gn_ Y Y (Am_ (L_ ?_)))))
   refine ol Y (Bs_ (v:= .pointer (some ⟨_,_,none⟩)) Y) (ol Y (Ac_ Y) (ol Y (U_ Y Kr_) (ol Y (Bu_ (i:=i) (v:= .pointer (some ⟨b,0,none⟩)) Y ag115 hi Y) (ol Y (Bs_ (v:= .pointer (some ⟨_,_,none⟩)) Y) (ol Y (Kx_ Y Y underlying115 (ti118).choose_spec) ?_)))))
   refine Au_ (Ar_ (Gn_ Y Y (Go_ (fnK_n (res0 Y) (.refl _) ?_))))
   rwa [Mf_ hi] at k
theorem sz5:Sz prog 5 1:=λw=>by kernel_rfl
theorem ag116:Ag prog 116 false:=λw=>by kernel_rfl
theorem ag237:Ag prog 237 true:=λw=>by kernel_rfl
theorem by5:By prog 5 1:=by_of xJ
theorem cb220:Aa_ prog 220:=B5_ func220 xJ xJ
theorem cb69:Aa_ prog 69:=B5_ func69 xJ xJ
theorem co5:prog.cellsOf 5=1:=by kernel_rfl
theorem Ir_:Fld prog 118 1 1:=λb o w=>by kernel_rfl
theorem Os_:Fld prog 237 0 0:=λb o w=>by kernel_rfl
theorem mixd:prog.follows .mixedOrders=true:=by kernel_rfl
theorem sz116:Sz prog 116 1:=λw=>by kernel_rfl
theorem sz237:Sz prog 237 2:=λw=>by kernel_rfl
theorem zr118:Zr prog 118 [.pointer none, .slice none 0 0]:=λw=>⟨.agg #[.pointer none, .slice none 0 0],by kernel_rfl,rfl⟩
theorem zr237:Zr prog 237 [str [], .int .i64 0]:=λw=>⟨.agg #[str [], .int .i64 0],by kernel_rfl,rfl⟩
theorem zr5:Zr prog 5 [.int .u8 0]:=λw=>⟨.int .u8 0,by kernel_rfl,rfl⟩
theorem zx5:∃ z,∀ w,(zeroValue 5).run prog w = .ok z w:=⟨.int .u8 0,λw=>by kernel_rfl⟩
theorem out_Num (H:Hp) (o:Out) (n:Int) (n_r:0<=n/\n<=18446744073709551615) (bytes:Int) (bytes_r:-9223372036854775808<=bytes/\bytes<=9223372036854775807) (hlen:o.s.length<=4611686018427387904):Pr prog 158 #[.agg (Out.cells o).toArray, .int .u64 n, .int .i64 bytes] H (.agg (Out.cells (Co_ o n bytes)).toArray):=by
 refine pr_cw func158 Y ntmps158 Y (λN=>?_);refine Am_ (L_ (ow1 (P2_ (cs:=[_,_]) 0 Y Y (λb1=>?_))));refine ow1 (D1_ 1 Y zr237 (λb2=>?_));refine Au_ (Ar_ (Am_ (L_ (ow1 (D1_ 2 Y zr118 (λb3=>?_))))));refine Au_ (Ar_ (Am_ (Am_ (L_ (omi Y Y ?_)))));refine ol Y (Tq_ Y Y) (ol Y (Tr_ Y Y) (ol Y (Tu_ Y Y (Ms_ xI)) (oai Y Y (Au_ (Ar_ ?_)))));refine Ci_ ?_;refine Rk_ [8,13,14,15,16,17,18,19,20,21,22] [2,3,4] (λ(j:Nat) (bs:Bs) (p:Value) (v:Value) (en:Option (Nat×Obj)) G=>upd (G) 8 (.int .i64 ((j:Int)-1))) (λ(j:Nat) (bs:Bs) (p:Value) (v:Value) (en:Option (Nat×Obj)) G=>lupd (lupd (G) 2 (some (b3,bx 118 [p,v]))) 3 (en)) (λ(j:Nat) (bs:Bs) (p:Value) (v:Value) (en:Option (Nat×Obj)) H'=>bs++numB j n.toNat=numB (numK bytes) n.toNat/\bs.length+j=numK bytes/\OwnV 1 5 v en bs.length (bs.map u8v)/\(bs.length=0->v = .slice none 0 0)/\(p = .pointer none\/p = .pointer (some ⟨b3,0,none⟩))) (λ(j:Nat) (bs:Bs) (p:Value) (v:Value) (en:Option (Nat×Obj))=>j) (numK bytes) [] (.pointer none) (.slice none 0 0) none (C9_ (Ee_ wD) (congrArg (Value.int .i64) (show min (max bytes 0) 8-1=((numK bytes:Nat):Int)-1 by unfold numK;omega))) (Ed_ (Ed_ (Dh_ E5_) Y) Y) ?_ ?_;exact⟨rfl,by simp,Ge_,λ_=>rfl, .inl rfl⟩;intro j bs p v en J5 JL5 H5 hp4 hl5;obtain⟨hk1,hk2,ho,hz,hpp⟩:=hp4;have hk8:numK bytes<=8:=by unfold numK;omega
 refine Am_ (Am_ (L_ (omi Y Y (ol Y (To_ Y Y) (Au_ ?_)))));refine Ar_ (Gm_ Y (λh6=>?_) (λh6=>?_));have p7:=dt h6;refine Go_ (Ar_ (Am_ (Ci_ (L_ (omi Y Y ?_)))));refine omi Y Y (ol Y (lo_mul Y Y (Ms_ xI)) (ol Y (Mc_ Y Y xI) ?_));have :=wr_u8 (Int.fdiv n (2 ^ (min ((8*((j:Int)-1)):Int).toNat (IntKind.bits .u64))));refine ol Y (I0_ Y (by rw[underlying28];rfl) underlying5) ?_;refine ow1 (P4_ (en_f cb220 Y) func220 Y ntmps220 Y Y ?_);refine Am_ (L_ (ol Y (B9_ Y) (Au_ (Ar_ (Am_ ?_)))));refine L_ (ol Y (Bs_ (v:= .pointer (some ⟨_,_,none⟩)) Y) ?_);refine ow1 (copyCheck 2 Y Y hpp Y ?_);refine Au_ (Ar_ (Am_ (L_ (ol Y (Bs_ (v:= .pointer (some ⟨_,_,none⟩)) Y) (ol Y (Bs_ (v:= .pointer (some ⟨_,_,none⟩)) Y) ?_)))));refine ol Y (Ac_ Y) (ol Y (U_ Y Ir_) (ol Y (Bu_ (i:=2) Y ag116 Y Y) (omi Y Y ?_)));refine ow1 (Ef_ (cs:=[_]) 4 Y underlying116 sz5 zx5 Y ⟨Y,Y,Z⟩ Y Y xL (λb8=>?_));refine ow1 (P1_ 3 Y Y underlying116 underlying116 Y sz5 by5 xL zr5 ho (src_bx (i:=4) Y Y) (List.all_eq_true.1 Y) Y xI Y (λv9 en10 ho11=>?_));have ho12:=Re_ (bs:=bs) ho11 (by first|rfl|simp) (wrap8r _);refine ol Y (Ac_ Y) (ol Y (U_ Y Ir_) ?_);refine ow1 (C5_ (i:=2) Y Y (Sc_ ho12) sz116 Y Y ?_);refine Au_ (Ar_ (Am_ (L_ (ol Y (B9_ Y) (Au_ ?_)))));refine Ar_ (H2_ (Ou_ (res1 Y (rv_t Y)) (.refl _) (Au_ (S6_ (Ar_ ?_)))));refine L_ (omi Y Y (ol Y (Tu_ Y Y (Ms_ xI)) (oai Y Y (Au_ ?_))));refine next5 (j-1) (bs++[UInt8.ofNat ((IntKind.wrap .u8 (Int.fdiv n (2 ^ (min ((8*((j:Int)-1)):Int).toNat (IntKind.bits .u64)))))).toNat]) (.pointer (some ⟨b3,0,none⟩)) v9 en10 (C9_ (Ee_ wD) (congrArg (Value.int .i64) (show ((j:Int)-1)-1=((j-1:Nat):Int)-1 by omega))) (Ed_ (Ed_ (Dh_ wM) Y) Y) hl5 ?_ ?_;refine⟨?_,?_,ho12,(nz_of ho12 xK), .inr rfl⟩;rw[byte_of n_r.1 xI xI,List.append_assoc,<- hk1];obtain⟨q,rfl⟩:∃ q,j=q+1:=⟨j-1,by omega⟩;simp[numB];simp;omega;omega;have p13:=df h6;refine In_ (T4_ (Po_ (Ls_ (Ar_ (Am_ ?_)))));refine N9_ 3 mixd (vw_q 0 Y xJ xP (λ_ _ hh hl=>U_ Y Os_) ?_);refine vw_q 1 Y xJ xP (λ_ _ hh hl=>Bu_ (i:=0) (v:=str _) Y ag9 (hl _ _ Y) Y) ?_;refine vw_e 2 Y xJ (P4_ (en_f cb69 Y) func69 Y ntmps69 Y Y ?_);refine Am_ (L_ (ol Y (B9_ (v:=str _) Y) (Au_ (Ar_ (Am_ ?_)))));refine N9_ 3 mixd ?_;refine vw_q 0 Y xJ xP (λ_ _ hh hl=>Bs_ (v:= .pointer (some ⟨_,_,none⟩)) Y) ?_;refine vw_q 1 Y xJ xP (λ_ _ hh hl=>Ac_ Y) ?_;refine vw_q 2 Y xJ xP (λ_ _ hh hl=>U_ Y Ir_) ?_;refine vw_q 3 Y xJ xP (λ_ _ hh hl=>Bu_ (i:=2) Y ag116 (hl _ _ Y) Y) ?_;refine vw_q 4 Y xJ xP (λ_ _ hh hl=>lo_usd Y ho hz) ?_;refine vw_q 5 Y xJ xP (λ_ _ hh hl=>Bs_ (v:= .pointer (some ⟨_,_,none⟩)) Y) ?_;refine vw_q 6 Y xJ xP (λ_ _ hh hl=>Ac_ Y) ?_;refine vw_q 7 Y xJ xP (λ_ _ hh hl=>U_ Y Ir_) ?_;refine vw_q 8 Y xJ xP (λ_ _ hh hl=>Bu_ (i:=2) Y ag116 (hl _ _ Y) Y) ?_;refine vw_q 9 Y xJ xP (λ_ _ hh hl=>H8_ Y ho underlying116) ?_;refine vw_e 10 Y xJ (Sa_ (l:=bs) 3 Y Y underlying173 co5 ho hz wO Y ?_);refine⟨⟨(.refl _),xP⟩,?_⟩;refine vw_q 11 Y xJ xP (λ_ _ hh hl=>B9_ (v:=str _) Y) ?_;refine Ll_ xJ (Ar_ (H2_ (Ou_ (res1 Y (rv_t (v:=str _) Y)) (.refl _) ?_)));refine⟨⟨(.refl _),xP⟩,?_⟩;refine vw_q 3 Y xJ xP (λ_ _ hh hl=>Ph_ Y Y wO) ?_;refine vw_q 4 Y xJ xP (λ_ _ hh hl=>U_ Y Os_) ?_;refine vw_t 5 Y xJ xJ (C5_ (i:=0) (v:=str _) Y Y Y sz9 Y Y ?_);refine Ll_ xJ (Ar_ (Am_ (L_ (ol Y (Ga_ (i:=0) (vs:=[_,_]) Y ag237 sz237 Y Y Y) ?_))));refine ow1 (Ib_ (i:=1) (vs:=[_,_]) Y Y Y sz237 Y Y Y ?_);refine Au_ (Ar_ (H2_ (Ou_ (res1 Y (rv_c (i:=1) (vs:=[_,_]) Y ag237 sz237 Y Y Y)) ((HLe.refl _).trans hl5) ?_)));obtain rfl :j=0:=by omega
 simp only[numB,List.append_nil] at hk1;subst hk1;rfl
end Go.SW
namespace Go.Proofs
open Go.Shelf
def Tryz.lays146_ren:Go.Shelf.Ren:=⟨λ|146=>58|221=>93|268=>131|138=>132|143=>133|195=>186|197=>187|218=>188|219=>189|260=>277|217=>278|225=>279|224=>280|267=>281|266=>372|314=>373|n=>n,λ|9=>9|31=>79|3=>3|4=>4|0=>0|105=>302|21=>21|5=>5|46=>221|119=>172|139=>512|138=>511|146=>513|51=>68|n=>n,λ|1=>4|3=>10|4=>11|n=>n⟩
theorem Tryz.lays146:Go.Proofs.Lays.n146 prog Tryz.lays146_ren:={
 mixed:=by kernel_rfl
 f138:=func132.trans (congrArg some xJ)
 f143:=func133.trans (congrArg some xJ)
 f146:=func58.trans (congrArg some xJ)
 f195:=func186.trans (congrArg some xJ)
 f197:=func187.trans (congrArg some xJ)
 f217:=func278.trans (congrArg some xJ)
 f218:=func188.trans (congrArg some xJ)
 f219:=func189.trans (congrArg some xJ)
 f221:=func93.trans (congrArg some xJ)
 f224:=func280.trans (congrArg some xJ)
 f225:=func279.trans (congrArg some xJ)
 f260:=func277.trans (congrArg some xJ)
 f266:=func372.trans (congrArg some xJ)
 f267:=func281.trans (congrArg some xJ)
 f268:=func131.trans (congrArg some xJ)
 f314:=func373.trans (congrArg some xJ)
 t0:=underlying0
 a0:=isAgg0
 z0:=sizeOf0
 v0:=zeroValue0
 t3:=underlying3
 a3:=isAgg3
 z3:=sizeOf3
 v3:=zeroValue3
 t4:=underlying4
 a4:=isAgg4
 z4:=sizeOf4
 v4:=zeroValue4
 t5:=underlying5
 a5:=isAgg5
 z5:=sizeOf5
 v5:=zeroValue5
 t9:=underlying9
 a9:=isAgg9
 z9:=sizeOf9
 v9:=zeroValue9
 t21:=underlying21
 a21:=isAgg21
 z21:=sizeOf21
 v21:=zeroValue21
 t31:=underlying79
 a31:=isAgg79
 z31:=sizeOf79
 v31:=zeroValue79
 t46:=underlying221
 a46:=isAgg221
 z46:=sizeOf221
 v46:=zeroValue221
 t51:=underlying68
 a51:=isAgg68
 z51:=sizeOf68
 v51:=zeroValue68
 t105:=underlying302
 a105:=isAgg302
 z105:=sizeOf302
 v105:=zeroValue302
 t119:=underlying172
 a119:=isAgg172
 z119:=sizeOf172
 t138:=underlying511
 a138:=isAgg511
 z138:=sizeOf511
 v138:=zeroValue511
 t139:=underlying512
 a139:=isAgg512
 z139:=sizeOf512
 v139:=zeroValue512
 t146:=underlying513
 a146:=isAgg513
 z146:=sizeOf513
 v146:=zeroValue513
 g1:=by kernel_rfl
 g3:=by kernel_rfl
 g4:=by kernel_rfl}
open Go.RowKit Go.Lib in
theorem Tryz.strings_Split (s sep:ByteArray) (m:Int) (w:World) (hs:s.size<4294967281) (hm:w.cell? ⟨4,0,none⟩=some (.int .i64 m)) (h1:1<=sep.size) :
   Calls prog 58 #[.string s, .string sep] w λe w'=>
     e = .returned (.slice (some ⟨w.heap.size,0,none⟩) (Lib.countB s sep+1) (Lib.countB s sep+1))/\w'=w.alloc (.cells ((Lib.splitB sep 0 (Lib.countB s sep) s).map Value.string).toArray 9):=Any.strings_Split Tryz.lays146 xJ s sep m w hs hm h1
end Go.Proofs
namespace Go.SW
open Go.Proofs
theorem strings_Split (H:Hp) (s p:Bs) (hp:p=[46]) (hML:GInt H 4) (hs:s.length<4294967281):Ph prog 58 #[str s,str p] H (λv H'=>∃ (a:Option Addr) (c:Nat),v = .slice a (dots s).length c/\SlH strE 1 H' (.slice a (dots s).length c) (dots s)):=by
 subst hp;refine Qh_ (T:=9) (λw hw=>by have :=Fe_ s w hw;omega) λN L w hm=>?_;obtain⟨m,hc⟩:=hML.cell hm;refine (Tryz.strings_Split ⟨s.toArray⟩ ⟨#[46]⟩ m w (by simpa [Cr_] using hs) hc xL).mono λe w' ⟨he,hw⟩=>⟨?_,?_⟩;rw[he,Nm_];rw[hw,Hk_]
theorem Rb_ (H:Hp) (s p:Bs) (hp:p=[10]) (hML:GInt H 4) (hs:s.length<4294967281):Ph prog 58 #[str s,str p] H (λv H'=>∃ (a:Option Addr) (c:Nat),v = .slice a (cuts 10 s).length c/\SlH strE 1 H' (.slice a (cuts 10 s).length c) (cuts 10 s)):=by
 subst hp;refine Qh_ (T:=9) (λw hw=>by have :=Fc_ 10 s w hw;omega) λN L w hm=>?_;obtain⟨m,hc⟩:=hML.cell hm;refine (Tryz.strings_Split ⟨s.toArray⟩ ⟨#[10]⟩ m w (by simpa [Cr_] using hs) hc xL).mono λe w' ⟨he,hw⟩=>⟨?_,?_⟩;rw[he,Ld_];rw[hw,Hj_]
theorem ag68:Ag prog 68 false:=λw=>by kernel_rfl
theorem sz68:Sz prog 68 1:=λw=>by kernel_rfl
theorem Rg_ (H:Hp) (r:Int) (r_r:0<=r/\r<=4294967295) (b:Int) (b_r:0<=b/\b<=255) (hCrc:GTab H 7 laidT):Pr prog 221 #[.int .u32 r, .int .u8 b] H (.int .u32 (Im_ r b)):=by
 refine pr_cw func221 Y ntmps221 Y (λN=>?_);obtain⟨T0,fr0,hT0⟩:=hCrc;refine Am_ (L_ (oai Y Y (Au_ (Ar_ (Am_ ?_)))));refine L_ (omi Y Y (omi Y Y (ol Y (Fi_ Y (by rw[underlying5];rfl) underlying68 (rg_u32 xI)) ?_)));have :=Mz_ ((BitVec.ofInt (IntKind.bits .u32) r ^^^ BitVec.ofInt (IntKind.bits .u32) b).toNat);refine ol Y (Pm_ Y Y) (oai Y Y (Au_ (Ar_ (Am_ (Am_ ?_)))));refine L_ (omi Y Y (Au_ (Ar_ (Ci_ (Rj_ [0,9,10,11,12,13,14,15,16,17,18] [] (λ(k:Nat) (q:Int) G=>upd (upd (G) 0 (.int .u32 q)) 9 (.int .i64 (k:Int))) (λ(k:Nat) (q:Int) G=>G) (λ(k:Nat) (q:Int) H'=>k<=2/\Rf_ (2-k) q=Im_ r b) (λ(k:Nat) (q:Int)=>2-k) 0 (Q9_ r b) (C9_ (C9_ (Ee_ wD) Y) Y) (Dh_ E5_) ?_ ?_)))));exact⟨Nat.zero_le _,rfl⟩;intro k q J2 JL2 H2 hp1 hl2;obtain⟨hk1,hk2⟩:=hp1;refine Am_ (L_ (ol Y (Tp_ Y Y) (Au_ (Ar_ (Am_ ?_)))));refine Gm_ Y (λh3=>?_) (λh3=>?_);have p4:=dt h3;refine Go_ (Ar_ (Am_ (Ci_ (L_ (omi Y Y ?_)))));refine ol Y (Mc_ Y Y xI) (omi Y Y ?_);have :=Mz_ ((BitVec.ofInt (IntKind.bits .u32) q &&& BitVec.ofInt (IntKind.bits .u32) 15).toNat);refine ol Y (Tk_ Y Y) (ol Y (lo_gidx (m:=((IntKind.wrap .u32 ((BitVec.ofInt (IntKind.bits .u32) q &&& BitVec.ofInt (IntKind.bits .u32) 15).toNat))).toNat) Y underlying450 sz68 xI (Lo_ _)) (ol Y (Ma_ Y ag68 (((HLe.refl _).trans hl2) _ _ hT0) (tab_get (Lo_ _))) ?_));have :=Mz_ ((BitVec.ofInt (IntKind.bits .u32) (Int.fdiv q (2 ^ (min (4:Int).toNat (IntKind.bits .u32)))) ^^^ BitVec.ofInt (IntKind.bits .u32) (laidT.getD ((IntKind.wrap .u32 ((BitVec.ofInt (IntKind.bits .u32) q &&& BitVec.ofInt (IntKind.bits .u32) 15).toNat))).toNat 0)).toNat);refine ol Y (Pm_ Y Y) (oai Y Y (Au_ (S6_ (Ar_ (L_ ?_)))));refine ol Y (lo_add Y Y (Ms_ xI)) (omi Y Y (Au_ ?_));refine next2 (k+1) (crc1 q) (C9_ (C9_ (Ee_ wD) Y) Y) (Dh_ wM) hl2 ?_ ?_;refine⟨by omega,?_⟩;rw[<- hk2,show 2-k=(2-(k+1))+1 by omega];rfl;omega;have p5:=df h3;refine In_ (T4_ (Po_ (Ls_ (Ar_ (Am_ ?_)))));refine L_ (omi Y Y (oai Y Y (Au_ (Ar_ (H2_ ?_)))));refine Ou_ (res1 Y (rv_t (v:= .int _ _) Y)) ((HLe.refl _).trans hl2) ?_;obtain rfl :k=2:=by omega
 exact congrArg (Value.int .u32) hk2
end Go.SW
namespace Go.Proofs
open Go.Shelf
def Tryz.lays105_ren:Go.Shelf.Ren:=⟨λ|105=>360|212=>445|99=>446|165=>67|166=>68|170=>447|169=>69|263=>516|264=>517|206=>518|240=>104|241=>105|276=>143|277=>144|n=>n,λ|9=>9|3=>3|4=>4|20=>20|0=>0|46=>221|109=>589|5=>5|72=>118|76=>122|51=>68|146=>513|53=>28|148=>642|70=>115|37=>116|75=>121|127=>173|164=>225|80=>124|n=>n,λ|n=>n⟩
theorem Tryz.lays105:Go.Proofs.Lays.n105 prog Tryz.lays105_ren:={
 mixed:=by kernel_rfl
 f99:=func446.trans (congrArg some xJ)
 f105:=func360.trans (congrArg some xJ)
 f165:=func67.trans (congrArg some xJ)
 f166:=func68.trans (congrArg some xJ)
 f169:=func69.trans (congrArg some xJ)
 f170:=func447.trans (congrArg some xJ)
 f206:=func518.trans (congrArg some xJ)
 f212:=func445.trans (congrArg some xJ)
 f240:=func104.trans (congrArg some xJ)
 f241:=func105.trans (congrArg some xJ)
 f263:=func516.trans (congrArg some xJ)
 f264:=func517.trans (congrArg some xJ)
 f276:=func143.trans (congrArg some xJ)
 f277:=func144.trans (congrArg some xJ)
 t0:=underlying0
 a0:=isAgg0
 z0:=sizeOf0
 v0:=zeroValue0
 t3:=underlying3
 a3:=isAgg3
 z3:=sizeOf3
 v3:=zeroValue3
 t4:=underlying4
 a4:=isAgg4
 z4:=sizeOf4
 v4:=zeroValue4
 t5:=underlying5
 a5:=isAgg5
 z5:=sizeOf5
 v5:=zeroValue5
 t9:=underlying9
 a9:=isAgg9
 z9:=sizeOf9
 v9:=zeroValue9
 t20:=underlying20
 a20:=isAgg20
 z20:=sizeOf20
 v20:=zeroValue20
 t37:=underlying116
 a37:=isAgg116
 z37:=sizeOf116
 v37:=zeroValue116
 t46:=underlying221
 a46:=isAgg221
 z46:=sizeOf221
 v46:=zeroValue221
 t51:=underlying68
 a51:=isAgg68
 z51:=sizeOf68
 v51:=zeroValue68
 t53:=underlying28
 a53:=isAgg28
 z53:=sizeOf28
 v53:=zeroValue28
 t70:=underlying115
 a70:=isAgg115
 z70:=sizeOf115
 v70:=zeroValue115
 t72:=underlying118
 a72:=isAgg118
 z72:=sizeOf118
 v72:=zeroValue118
 t75:=underlying121
 a75:=isAgg121
 z75:=sizeOf121
 v75:=zeroValue121
 t76:=underlying122
 a76:=isAgg122
 z76:=sizeOf122
 v76:=zeroValue122
 t109:=underlying589
 a109:=isAgg589
 z109:=sizeOf589
 v109:=zeroValue589
 t127:=underlying173
 a127:=isAgg173
 z127:=sizeOf173
 v127:=zeroValue173
 t146:=underlying513
 a146:=isAgg513
 z146:=sizeOf513
 v146:=zeroValue513
 t148:=underlying642
 a148:=isAgg642
 z148:=sizeOf642
 v148:=zeroValue642
 t164:=underlying225
 a164:=isAgg225
 z164:=sizeOf225
 v164:=zeroValue225}
theorem Tryz.Builder_Extra_105:Builder.Extra prog Tryz.lays105_ren:={
 sizeBuilder:=by kernel_rfl
 liesBuilder:=by kernel_rfl
 t5:=underlying5
 a5:=isAgg5
 z5:=sizeOf5
 v5:=zeroValue5
 infoByte:=by kernel_rfl
 cellsByte:=by kernel_rfl
 sizeByte:=by kernel_rfl
 neB5:=by decide}
open Go.RowKit Go.Lib in
theorem Tryz.strings_Repeat (s:ByteArray) (c:Nat) (w:World) (hc:c<=9223372036854775807) (hlen:s.size*c<=140737488355328) :
   Calls prog 360 #[.string s, .int .i64 c] w λe w'=>e = .returned (.string ⟨(Lib.repeatL s.data.toList c).toArray⟩)/\Below w.heap.size w w':=Any.strings_Repeat Tryz.lays105 Tryz.Builder_Extra_105 s c w hc hlen
end Go.Proofs
namespace Go.SW
open Go.Proofs
theorem Lg_ (s:Bs) (c:Nat) (N:Rest) (H:Hp) (L:Ls) (w:World) (h:s.length*c<=140737488355328) (hc:c<=9223372036854775807) (hm:Mem N H L w):Calls prog 360 #[str s, .int .i64 (c:Int)] w λen w'=>en = .returned (str (Lib.repeatL s c))/\Mem N H L w':=by
 refine (Tryz.strings_Repeat ⟨s.toArray⟩ c w hc (by simpa [ByteArray.size] using h)).mono λe w' ⟨he,hb⟩=>⟨he,?_⟩;refine hm.of_same hb.os hb.tape hb.output λc o ho=>?_;exact yJ
end Go.SW
namespace Go.CE
open Go.SW
inductive Tr (α:Type) where
 |e
 |n (l:Tr α) (v:Option α) (r:Tr α)
noncomputable def Tr.get {α:Type} (t:Tr α) (k:Nat):Option α:=Tr.rec (motive:=λ_=>Nat->Option α) (λ_=>none) (λ_ v _ ihl ihr k=>Nat.rec (motive:=λ_=>Option α) v (λk _=>Bool.rec (motive:=λ_=>Option α) (ihr (Nat.div k 2)) (ihl (Nat.div k 2)) (Nat.beq (Nat.mod k 2) 0)) k) t k
theorem Tr.get_e {α:Type} {k:Nat}:(Tr.e:Tr α).get k=none:=rfl
theorem Tr.get_0 {α:Type} {l r:Tr α} {v:Option α}:(Tr.n l v r).get 0=v:=rfl
theorem Tr.get_s {α:Type} {l r:Tr α} {v:Option α} {k:Nat}:(Tr.n l v r).get (k+1) = bif Nat.beq (k%2) 0 then l.get (k/2) else r.get (k/2):=by
 show Bool.rec (motive:=λ_=>Option α) (r.get (k/2)) (l.get (k/2)) (Nat.beq (k%2) 0)=_
 cases Nat.beq (k%2) 0<;>rfl
section
variable {α β:Type}
noncomputable def sRoot (t:Tr α) (v:α) (c:Tr α->Option β):Option β:=Tr.rec (motive:=λ_=>Option β) (c (.n .e (some v) .e)) (λl _ r _ _=>c (.n l (some v) r)) t
noncomputable def sL (ih:Tr α->α->(Tr α->Option β)->Option β) (t:Tr α) (v:α) (c:Tr α->Option β):Option β:=Tr.rec (motive:=λ_=>Option β) (ih .e v λl=>c (.n l none .e)) (λl w r _ _=>ih l v λl=>c (.n l w r)) t
noncomputable def sR (ih:Tr α->α->(Tr α->Option β)->Option β) (t:Tr α) (v:α) (c:Tr α->Option β):Option β:=Tr.rec (motive:=λ_=>Option β) (ih .e v λr=>c (.n .e none r)) (λl w r _ _=>ih r v λr=>c (.n l w r)) t
noncomputable def sS:Nat->Nat->Tr α->α->(Tr α->Option β)->Option β:=Nat.rec (motive:=λ_=>Nat->Tr α->α->(Tr α->Option β)->Option β) (λ_ _ _ _=>none) (λ_ ih k=>Nat.rec (motive:=λ_=>Tr α->α->(Tr α->Option β)->Option β) sRoot (λk _=>Bool.rec (motive:=λ_=>Tr α->α->(Tr α->Option β)->Option β) (sR (ih (Nat.div k 2))) (sL (ih (Nat.div k 2))) (Nat.beq (Nat.mod k 2) 0)) k)
end
noncomputable def Tr.setK {α β:Type} (d:Nat) (t:Tr α) (k:Nat) (v:α) (c:Tr α->Option β):Option β:=sS d k t v c
theorem Tr.setK_0 {α β:Type} {t:Tr α} {k:Nat} {v:α} {c:Tr α->Option β}:Tr.setK 0 t k v c=none:=rfl
theorem Tr.setK_e0 {α β:Type} {d:Nat} {v:α} {c:Tr α->Option β}:Tr.setK (d+1) .e 0 v c=c (.n .e (some v) .e):=rfl
theorem Tr.setK_n0 {α β:Type} {d:Nat} {l r:Tr α} {w:Option α} {v:α} {c:Tr α->Option β}:Tr.setK (d+1) (.n l w r) 0 v c=c (.n l (some v) r):=rfl
theorem Tr.setK_es {α β:Type} {d k:Nat} {v:α} {c:Tr α->Option β}:Tr.setK (d+1) .e (k+1) v c = bif Nat.beq (k%2) 0 then Tr.setK d .e (k/2) v (λl=>c (.n l none .e)) else Tr.setK d .e (k/2) v (λr=>c (.n .e none r)):=by
 show Bool.rec (motive:=λ_=>Tr α->α->(Tr α->Option β)->Option β) (sR (sS d (k/2))) (sL (sS d (k/2))) (Nat.beq (k%2) 0) .e v c=_
 cases Nat.beq (k%2) 0<;>rfl
theorem Tr.setK_ns {α β:Type} {d k:Nat} {l r:Tr α} {w:Option α} {v:α} {c:Tr α->Option β}:Tr.setK (d+1) (.n l w r) (k+1) v c = bif Nat.beq (k%2) 0 then Tr.setK d l (k/2) v (λl=>c (.n l w r)) else Tr.setK d r (k/2) v (λr=>c (.n l w r)):=by
 show Bool.rec (motive:=λ_=>Tr α->α->(Tr α->Option β)->Option β) (sR (sS d (k/2))) (sL (sS d (k/2))) (Nat.beq (k%2) 0) (.n l w r) v c=_
 cases Nat.beq (k%2) 0<;>rfl
theorem Tr.setK_ok {α β:Type}:∀ (d:Nat) (t:Tr α) (k:Nat) (v:α) (c:Tr α->Option β) (z:β),Tr.setK d t k v c=some z ->
   ∃ t':Tr α,c t'=some z/\t'.get k=some v/\∀ j,j≠k->t'.get j=t.get j
 |0,_,_,_,_,_,h=>by rw[Tr.setK_0] at h;cases h
 |d+1,t,k,v,c,z,h=>by
   have hp:∀ a b:Nat,a%2=b%2->a/2=b/2->a=b:=λa b _ _=>by omega
   have h01:∀ a:Nat,a%2=0\/a%2=1:=λa=>by omega
   cases t with
   |e=>
     cases k with
     |zero=>
       simp only[Tr.setK_e0,Tr.setK_n0,Tr.setK_es,Tr.setK_ns] at h
       exact⟨_,h,rfl,λj hj=>by cases j with|zero=>exact absurd Y hj|succ j=>simp[Tr.get_e,Tr.get_0,Tr.get_s]⟩
     |succ k=>
       simp only[Tr.setK_e0,Tr.setK_n0,Tr.setK_es,Tr.setK_ns] at h
       cases e:Nat.beq (k%2) 0 with
       |true=>
         rw[e] at h
         obtain⟨t',h1,h2,h3⟩:=Tr.setK_ok d _ _ _ _ _ h
         refine⟨_,h1,by simp[Tr.get_s,e,h2],λj hj=>?_⟩
         cases j with
         |zero=>simp[Tr.get_e,Tr.get_0,Tr.get_s]
         |succ j=>
           simp only[Tr.get_e,Tr.get_0,Tr.get_s]
           cases e':Nat.beq (j%2) 0 with
           |true=>
             have a:=Nat.eq_of_beq_eq_true e;have b:=Nat.eq_of_beq_eq_true e'
             have :=h3 (j/2) (λq=>hj wF)
             simpa [Tr.get_e] using this
           |false=>rfl
       |false=>
         rw[e] at h
         obtain⟨t',h1,h2,h3⟩:=Tr.setK_ok d _ _ _ _ _ h
         refine⟨_,h1,by simp[Tr.get_s,e,h2],λj hj=>?_⟩
         cases j with
         |zero=>simp[Tr.get_e,Tr.get_0,Tr.get_s]
         |succ j=>
           simp only[Tr.get_e,Tr.get_0,Tr.get_s]
           cases e':Nat.beq (j%2) 0 with
           |true=>rfl
           |false=>
             have a:=Nat.ne_of_beq_eq_false e;have b:=Nat.ne_of_beq_eq_false e'
             have :=h3 (j/2) (λq=>hj wF)
             simpa [Tr.get_e] using this
   |n l w r=>
     cases k with
     |zero=>
       simp only[Tr.setK_e0,Tr.setK_n0,Tr.setK_es,Tr.setK_ns] at h
       exact⟨_,h,rfl,λj hj=>by cases j with|zero=>exact absurd Y hj|succ j=>simp[Tr.get_e,Tr.get_0,Tr.get_s]⟩
     |succ k=>
       simp only[Tr.setK_e0,Tr.setK_n0,Tr.setK_es,Tr.setK_ns] at h
       cases e:Nat.beq (k%2) 0 with
       |true=>
         rw[e] at h
         obtain⟨t',h1,h2,h3⟩:=Tr.setK_ok d _ _ _ _ _ h
         refine⟨_,h1,by simp[Tr.get_s,e,h2],λj hj=>?_⟩
         cases j with
         |zero=>simp[Tr.get_e,Tr.get_0,Tr.get_s]
         |succ j=>
           simp only[Tr.get_e,Tr.get_0,Tr.get_s]
           cases e':Nat.beq (j%2) 0 with
           |true=>
             have a:=Nat.eq_of_beq_eq_true e;have b:=Nat.eq_of_beq_eq_true e'
             exact h3 (j/2) (λq=>hj wF)
           |false=>rfl
       |false=>
         rw[e] at h
         obtain⟨t',h1,h2,h3⟩:=Tr.setK_ok d _ _ _ _ _ h
         refine⟨_,h1,by simp[Tr.get_s,e,h2],λj hj=>?_⟩
         cases j with
         |zero=>simp[Tr.get_e,Tr.get_0,Tr.get_s]
         |succ j=>
           simp only[Tr.get_e,Tr.get_0,Tr.get_s]
           cases e':Nat.beq (j%2) 0 with
           |true=>rfl
           |false=>
             have a:=Nat.ne_of_beq_eq_false e;have b:=Nat.ne_of_beq_eq_false e'
             exact h3 (j/2) (λq=>hj wF)
inductive CV where
 |int (k:IntKind) (z:Int)
 |bool (b:Bool)
 |str (n x:Nat)
 |agg (cs:List CV)
 |tup (vs:List CV)
 |ptr (i off:Nat)
 |gp (g off:Nat)
 |nilp
 |sl (i off len cap:Nat)
 |slu (i off len k:Nat)
 |nils
 |fn (f:FuncId) (first cap:List CV)
 |nilf
 |mp (i:Nat)
 |nilm
 |ifc (t:TypeId) (v:CV)
 |nili
structure Pl where
 b:Nat
 s:Nat
 r:Nat
abbrev Be:=Nat->Option Pl
def Be.le (β β':Be):Prop:=∀ i q,β i=some q->β' i=some q
theorem Be.le.refl (β:Be):β.le β:=λ_ _ h=>h
theorem Be.le.trans {a b c:Be} (h:a.le b) (k:b.le c):a.le c:=λi q x=>k i q (h i q x)
def dec:Nat->Nat->Bs
 |0,_=>[]
 |n+1,x=>UInt8.ofNat (x%256)::dec n (x/256)
theorem B_:∀ (n x:Nat),(dec n x).length=n
 |0,_=>rfl
 |n+1,x=>by simp[dec,B_ n]
theorem Es_:∀ (n m x y:Nat),x<256 ^ n->dec n x++dec m y=dec (n+m) (x+y*256 ^ n)
 |0,m,x,y,h=>by simp at h;subst h;simp[dec]
 |n+1,m,x,y,h=>by
   have h1:x/256<256 ^ n:=by rw[Nat.pow_succ] at h;omega
   have e:(x+y*256 ^ (n+1))%256=x%256:=by rw[Nat.pow_succ,<- Nat.mul_assoc];omega
   have e2:(x+y*256 ^ (n+1))/256=x/256+y*256 ^ n:=by rw[Nat.pow_succ,<- Nat.mul_assoc];omega
   rw[show n+1+m=(n+m)+1 by omega]
   simp only[dec,List.cons_append]
   rw[Es_ n m _ y h1,e,e2]
theorem De_:∀ (l n x:Nat),l<=n->(dec n x).drop l=dec (n-l) (x/256 ^ l)
 |0,n,x,_=>by simp
 |l+1,0,x,h=>by omega
 |l+1,n+1,x,h=>by
   simp only[dec,List.drop_succ_cons]
   rw[De_ l n _ xI,Nat.div_div_eq_div_mul,Nat.pow_succ,Nat.mul_comm 256,show n+1-(l+1)=n-l by omega]
theorem Cj_:∀ (l n x:Nat),l<=n->(dec n x).take l=dec l (x%256 ^ l)
 |0,n,x,_=>by simp[dec]
 |l+1,0,x,h=>by omega
 |l+1,n+1,x,h=>by
   simp only[dec,List.take_succ_cons]
   have e:x%256 ^ (l+1)%256=x%256:=by rw[Nat.pow_succ];exact Nat.mod_mod_of_dvd _ ⟨256 ^ l,Nat.mul_comm _ _⟩
   have e2:x%256 ^ (l+1)/256=x/256%256 ^ l:=by rw[Nat.pow_succ,Nat.mul_comm];exact Nat.mod_mul_right_div_self _ _ _
   rw[Cj_ l n _ xI,e,e2]
theorem Oc_:∀ (n x y:Nat),x<256 ^ n->y<256 ^ n->dec n x=dec n y->x=y
 |0,x,y,h,k,_=>by simp at h k;omega
 |n+1,x,y,h,k,e=>by
   rw[Nat.pow_succ] at h k
   simp only[dec,List.cons.injEq] at e
   have :=Oc_ n _ _ xI xI e.2
   have e1:=congrArg UInt8.toNat e.1
   simp at e1
   omega
theorem Gp_:∀ (n x i:Nat),i<n->(dec n x)[i]? = some (UInt8.ofNat (x/256 ^ i%256))
 |0,_,_,h=>by omega
 |n+1,x,0,_=>by simp[dec]
 |n+1,x,i+1,h=>by
   simp only[dec,List.getElem?_cons_succ]
   rw[Gp_ n _ i xI,Nat.div_div_eq_div_mul,Nat.pow_succ,Nat.mul_comm 256]
def enc:Bs->Nat
 |[]=>0
 |a::r=>a.toNat+256*enc r
theorem Lx_:∀ (s:Bs),enc s<256 ^ s.length
 |[]=>by simp[enc]
 |a::r=>by
   have :=Lx_ r
   have h:=a.toNat_lt
   simp only[enc,List.length_cons,Nat.pow_succ]
   omega
theorem Io_:∀ (s:Bs),dec s.length (enc s)=s
 |[]=>rfl
 |a::r=>by
   have h:=a.toNat_lt
   simp only[enc,List.length_cons,dec]
   rw[show (a.toNat+256*enc r)%256=a.toNat by omega,show (a.toNat+256*enc r)/256=enc r by omega,Io_ r]
   simp
mutual
def VR (β:Be):CV->Value->Prop
 | .int k z,v=>v = .int k z
 | .bool b,v=>v = .bool b
 | .str n x,v=>x<256 ^ n/\v=SW.str (dec n x)
 | .agg cs,v=>∃ vs,v = .agg vs.toArray/\VRs β cs vs
 | .tup cs,v=>∃ vs,v = .tuple vs.toArray/\VRs β cs vs
 | .ptr i off,v=>∃ q,β i=some q/\v = .pointer (some ⟨q.b,q.s+off,none⟩)
 | .gp g off,v=>v = .pointer (some ⟨g,off,none⟩)
 | .nilp,v=>v = .pointer none
 | .sl i off len cap,v=>∃ q,β i=some q/\v = .slice (some ⟨q.b,q.s+off,none⟩) len cap
 | .slu i off len k,v=>∃ q c a,β i=some q/\off+c*k=q.r/\len<=c/\v = .slice (some a) len c/\(0<c->a=⟨q.b,q.s+off,none⟩)
 | .nils,v=>v = .slice none 0 0
 | .fn f first cap,v=>∃ vs us,v = .func (.func f) vs.toArray us.toArray/\VRs β first vs/\VRs β cap us
 | .nilf,v=>v = .nilFunc
 | .mp i,v=>∃ q,β i=some q/\v = .map (some q.b)
 | .nilm,v=>v = .map none
 | .ifc t x,v=>∃ u,v = .iface t u/\VR β x u
 | .nili,v=>v = .nilIface
def VRs (β:Be):List CV->List Value->Prop
 |[],vs=>vs=[]
 |c::r,vs=>∃ v us,vs=v::us/\VR β c v/\VRs β r us
end
mutual
theorem VR.mono {β β':Be} (hl:β.le β'):∀ {c:CV} {v:Value},VR β c v->VR β' c v
 | .int _ _,_,h=>h
 | .bool _,_,h=>h
 | .str _ _,_,h=>h
 | .agg _,_,h=>by simp only[VR] at h ⊢;obtain⟨vs,rfl,h1⟩:=h;exact⟨vs,rfl,VRs.mono hl h1⟩
 | .tup _,_,h=>by simp only[VR] at h ⊢;obtain⟨vs,rfl,h1⟩:=h;exact⟨vs,rfl,VRs.mono hl h1⟩
 | .ptr _ _,_,h=>by simp only[VR] at h ⊢;obtain⟨q,h1,h2⟩:=h;exact⟨q,hl _ _ h1,h2⟩
 | .gp _ _,_,h=>h
 | .nilp,_,h=>h
 | .sl _ _ _ _,_,h=>by simp only[VR] at h ⊢;obtain⟨q,h1,h2⟩:=h;exact⟨q,hl _ _ h1,h2⟩
 | .slu _ _ _ _,_,h=>by simp only[VR] at h ⊢;obtain⟨q,c,a,h1,h2⟩:=h;exact⟨q,c,a,hl _ _ h1,h2⟩
 | .nils,_,h=>h
 | .fn _ _ _,_,h=>by simp only[VR] at h ⊢;obtain⟨vs,us,rfl,h1,h2⟩:=h;exact⟨vs,us,rfl,VRs.mono hl h1,VRs.mono hl h2⟩
 | .nilf,_,h=>h
 | .mp _,_,h=>by simp only[VR] at h ⊢;obtain⟨q,h1,h2⟩:=h;exact⟨q,hl _ _ h1,h2⟩
 | .nilm,_,h=>h
 | .ifc _ _,_,h=>by simp only[VR] at h ⊢;obtain⟨u,rfl,h1⟩:=h;exact⟨u,rfl,VR.mono hl h1⟩
 | .nili,_,h=>h
theorem VRs.mono {β β':Be} (hl:β.le β'):∀ {cs:List CV} {vs:List Value},VRs β cs vs->VRs β' cs vs
 |[],_,h=>h
 |_::_,_,h=>by simp only[VRs] at h ⊢;obtain⟨v,us,rfl,h1,h2⟩:=h;exact⟨v,us,rfl,VR.mono hl h1,VRs.mono hl h2⟩
end
theorem VRs.length {β:Be}:∀ {cs:List CV} {vs:List Value},VRs β cs vs->vs.length=cs.length
 |[],_,h=>by simp only[VRs] at h;subst h;rfl
 |_::_,_,h=>by simp only[VRs] at h;obtain⟨v,us,rfl,_,h2⟩:=h;simp[VRs.length h2]
theorem VRs.nil {β:Be}:VRs β [] []:=by simp[VRs]
theorem VRs.cons {β:Be} {c:CV} {v:Value} {cs:List CV} {vs:List Value} (h:VR β c v) (k:VRs β cs vs):VRs β (c::cs) (v::vs):=by simp only[VRs];exact⟨v,vs,rfl,h,k⟩
theorem VRs.cons_inv {β:Be} {c:CV} {cs:List CV} {vs:List Value} (h:VRs β (c::cs) vs):∃ v us,vs=v::us/\VR β c v/\VRs β cs us:=by simpa only[VRs] using h
theorem VRs.nil_inv {β:Be} {vs:List Value} (h:VRs β [] vs):vs=[]:=by simpa only[VRs] using h
theorem VRs.app {β:Be}:∀ {cs ds:List CV} {vs us:List Value},VRs β cs vs->VRs β ds us->VRs β (cs++ds) (vs++us)
 |[],_,_,_,h,k=>by rw[h.nil_inv];exact k
 |_::_,_,_,_,h,k=>by obtain⟨v,us',rfl,h1,h2⟩:=h.cons_inv;exact .cons h1 (h2.app k)
theorem VRs.get {β:Be}:∀ {cs:List CV} {vs:List Value},VRs β cs vs->∀ {i:Nat} {c:CV},cs[i]? = some c->∃ v,vs[i]? = some v/\VR β c v
 |[],_,_,i,c,e=>by simp at e
 |_::_,_,h,i,c,e=>by
   obtain⟨v,us,rfl,h1,h2⟩:=h.cons_inv
   cases i with
   |zero=>simp at e;subst e;exact⟨v,rfl,h1⟩
   |succ i=>simp at e;obtain⟨w,h3,h4⟩:=h2.get e;exact⟨w,by simpa using h3,h4⟩
theorem VRs.take {β:Be}:∀ (n:Nat) {cs:List CV} {vs:List Value},VRs β cs vs->VRs β (cs.take n) (vs.take n)
 |0,_,_,_=>by simp[VRs]
 |n+1,[],_,h=>by rw[h.nil_inv];simp[VRs]
 |n+1,_::_,_,h=>by obtain⟨v,us,rfl,h1,h2⟩:=h.cons_inv;simp only[List.take_succ_cons];exact .cons h1 (h2.take n)
theorem VRs.drop {β:Be}:∀ (n:Nat) {cs:List CV} {vs:List Value},VRs β cs vs->VRs β (cs.drop n) (vs.drop n)
 |0,_,_,h=>by simpa using h
 |n+1,[],_,h=>by rw[h.nil_inv];simp[VRs]
 |n+1,_::_,_,h=>by obtain⟨v,us,rfl,h1,h2⟩:=h.cons_inv;simp only[List.drop_succ_cons];exact h2.drop n
theorem VRs.set {β:Be}:∀ {cs:List CV} {vs:List Value} (n:Nat) {c:CV} {v:Value},VRs β cs vs->VR β c v->VRs β (cs.set n c) (vs.set n v)
 |[],_,_,_,_,h,_=>by rw[h.nil_inv];simp[VRs]
 |_::_,_,0,_,_,h,k=>by obtain⟨v,us,rfl,h1,h2⟩:=h.cons_inv;exact .cons k h2
 |_::_,_,n+1,_,_,h,k=>by obtain⟨v,us,rfl,h1,h2⟩:=h.cons_inv;exact .cons h1 (h2.set n k)
def one:CV->Bool
 | .agg _=>false
 | .tup _=>false
 |_=>true
theorem P0_ {β:Be} {c:CV} {v:Value} (h:VR β c v) (ho:one c=true):v.oneCell'=true:=by
 cases c<;>simp only[VR,one] at h ho<;>first
   |(subst h;rfl)
   |(cases ho;done)
   |(obtain⟨_,rfl⟩:=h;rfl)
   |(obtain⟨_,_,rfl⟩:=h;rfl)
   |(obtain⟨_,rfl,_⟩:=h;rfl)
   |(obtain⟨_,_,_,_,_,_,rfl,_⟩:=h;rfl)
   |(obtain⟨_,_,rfl,_⟩:=h;rfl)
def all1:List CV->Bool
 |[]=>true
 |c::r=>one c&&all1 r
theorem B3_ {β:Be}:∀ {cs:List CV} {vs:List Value},VRs β cs vs->all1 cs=true->∀ v∈vs,v.oneCell'=true
 |[],_,h,_,v,hv=>by rw[h.nil_inv] at hv;cases hv
 |_::_,_,h,k,v,hv=>by
   obtain⟨w,us,rfl,h1,h2⟩:=h.cons_inv
   simp only[all1,Bool.and_eq_true] at k
   rcases List.mem_cons.1 hv with rfl|hv
   . exact P0_ h1 k.1
   . exact B3_ h2 k.2 v hv
inductive HB where
 |cells (T:TypeId) (cs:List CV) (gr:Bool)
 |bys (T:TypeId) (n x:Nat) (gr:Bool)
 |rob (T:TypeId) (n x:Nat)
 |itr (n x p:Nat)
 |mp (es:List (CV×CV×Nat)) (clk:Nat)
 |dead
def ER (β:Be) (x:CV×CV×Nat) (e:MapEntry):Prop:=VR β x.1 e.key/\VR β x.2.1 e.val/\e.born=x.2.2
def ERs (β:Be):List (CV×CV×Nat)->List MapEntry->Prop
 |[],es=>es=[]
 |x::r,es=>∃ e fs,es=e::fs/\ER β x e/\ERs β r fs
theorem ERs.mono {β β':Be} (hl:β.le β'):∀ {xs:List (CV×CV×Nat)} {es:List MapEntry},ERs β xs es->ERs β' xs es
 |[],_,h=>h
 |_::_,_,h=>by simp only[ERs] at h ⊢;obtain⟨e,fs,rfl,h1,h2⟩:=h;exact⟨e,fs,rfl,⟨h1.1.mono hl,h1.2.1.mono hl,h1.2.2⟩,h2.mono hl⟩
def BR (β:Be) (i:Nat):HB->Option (Nat×Obj)->Prop
 | .cells T cs gr,x=>∃ q vs,β i=some q/\x=some (q.b,bx T vs)/\vs.length=q.s+q.r/\cs.length<=q.r/\(gr=false->q.s=0/\q.r=cs.length)/\VRs β cs ((vs.drop q.s).take cs.length)/\∀ v∈vs,v.oneCell'=true
 | .bys T n z gr,x=>∃ q vs,β i=some q/\x=some (q.b,bx T vs)/\vs.length=q.s+q.r/\n<=q.r/\(gr=false->q.s=0/\q.r=n)/\z<256 ^ n/\(vs.drop q.s).take n=(dec n z).map u8v/\∀ v∈vs,v.oneCell'=true
 | .rob T n z,x=>∃ q vs fr,β i=some q/\x=some (q.b, .cells vs T fr)/\q.s=0/\z<256 ^ n/\vs.toList.take n=(dec n z).map u8v
 | .itr n z p,x=>∃ q,β i=some q/\q.s=0/\z<256 ^ n/\x=some (q.b,SW.itr (dec n z) p)
 | .mp es clk,x=>∃ q fs,β i=some q/\x=some (q.b, .map fs clk)/\ERs β es fs.toList
 | .dead,x=>x=none
theorem BR.mono {β β':Be} (hl:β.le β') {i:Nat} {hb:HB} {x:Option (Nat×Obj)} (h:BR β i hb x):BR β' i hb x:=by
 cases hb with
 |cells T cs gr=>obtain⟨q,vs,h1,h2,h3,h4,h5,h6,h7⟩:=h;exact⟨q,vs,hl _ _ h1,h2,h3,h4,h5,h6.mono hl,h7⟩
 |bys T n z gr=>obtain⟨q,vs,h1,h2⟩:=h;exact⟨q,vs,hl _ _ h1,h2⟩
 |rob T n z=>obtain⟨q,vs,fr,h1,h2⟩:=h;exact⟨q,vs,fr,hl _ _ h1,h2⟩
 |itr n z p=>obtain⟨q,h1,h2⟩:=h;exact⟨q,hl _ _ h1,h2⟩
 |mp es clk=>obtain⟨q,fs,h1,h2,h3⟩:=h;exact⟨q,fs,hl _ _ h1,h2,h3.mono hl⟩
 |dead=>exact h
abbrev Fe:=Nat->Option CV
abbrev He:=Tr HB
def FR (β:Be) (f:Fe) (F:Fr):Prop:=∀ t c,f t=some c->VR β c (F t)
structure HR (β:Be) (h:He) (nx:Nat) (L:Ls):Prop where
 br:∀ i hb,h.get i=some hb->BR β i hb (L i)
 lt:∀ i hb,h.get i=some hb->i<nx
 fr:∀ i,nx<=i->β i=none/\L i=none
theorem FR.mono {β β':Be} (hl:β.le β') {f:Fe} {F:Fr} (h:FR β f F):FR β' f F:=λt c e=>(h t c e).mono hl
variable {P:Program} {N:SW.Rest} {F:Fr} {H:Hp} {L:Ls} {ty T T':TypeId} {x y z:Operand} {β:Be} {f:Fe}
def vC1:Value->Option CV
 | .int k n=>some (.int k n)
 | .bool b=>some (.bool b)
 | .string s=>some (.str s.data.toList.length (enc s.data.toList))
 | .pointer none=>some .nilp
 | .slice none 0 0=>some .nils
 | .nilFunc=>some .nilf
 | .map none=>some .nilm
 | .nilIface=>some .nili
 |_=>none
def vCs:List Value->Option (List CV)
 |[]=>some []
 |v::r=>match vC1 v with
   |some c=>match vCs r with
     |some cs=>some (c::cs)
     |none=>none
   |none=>none
def vC:Value->Option CV
 | .agg cs=>match vCs cs.toList with
   |some cs=>some (.agg cs)
   |none=>none
 |v=>vC1 v
theorem Ua_ {v:Value} {c:CV} (h:vC1 v=some c):VR β c v:=by
 unfold vC1 at h
 split at h<;>first|(cases h;done)|skip
 all_goals (simp only[Option.some.injEq] at h;subst h)
 all_goals simp only[VR]
 rename_i s
 exact⟨Lx_ _,by rw[Io_];exact Mw_ s⟩
theorem Q5_:∀ {vs:List Value} {cs:List CV},vCs vs=some cs->VRs β cs vs
 |[],cs,h=>by simp only[vCs,Option.some.injEq] at h;subst h;exact .nil
 |v::r,cs,h=>by
   simp only[vCs] at h
   split at h
   . rename_i c hc
     split at h
     . rename_i ds hd
       simp only[Option.some.injEq] at h;subst h
       exact .cons (Ua_ hc) (Q5_ hd)
     . cases h
   . cases h
theorem vC_ok {v:Value} {c:CV} (h:vC v=some c):VR β c v:=by
 unfold vC at h
 split at h
 . rename_i cs
   split at h
   . rename_i ds hd
     simp only[Option.some.injEq] at h;subst h
     simp only[VR]
     exact⟨cs.toList,rfl,Q5_ hd⟩
   . cases h
 exact Ua_ h
def ef (f:Fe):Operand->Option CV
 | .tmp t=>f t
 | .const v=>vC v
 | .global g=>some (.gp g 0)
 | .func g=>some (.fn g [] [])
theorem M_ (hf:FR β f F) {c:CV} (h:ef f x=some c):VR β c (ev F x):=by
 cases x with
 |tmp t=>exact hf t c h
 |const v=>exact vC_ok h
 |func g=>simp only[ef,Option.some.injEq] at h;subst h;simp only[VR,ev];exact⟨[],[],rfl, .nil, .nil⟩
 |_=>simp only[ef,Option.some.injEq] at h;subst h;simp[VR,ev]
def efs (f:Fe):List Operand->Option (List CV)
 |[]=>some []
 |x::r=>match ef f x with
   |some c=>match efs f r with
     |some cs=>some (c::cs)
     |none=>none
   |none=>none
theorem Ez_ (hf:FR β f F):∀ {xs:List Operand} {cs:List CV},efs f xs=some cs->VRs β cs (evs F xs)
 |[],cs,h=>by simp only[efs,Option.some.injEq] at h;subst h;exact .nil
 |x::r,cs,h=>by
   simp only[efs] at h
   split at h
   . rename_i c hc
     split at h
     . rename_i ds hd
       simp only[Option.some.injEq] at h;subst h
       exact .cons (M_ hf hc) (Ez_ hf hd)
     . cases h
   . cases h
def bI (op:BinOp) (k:IntKind) (a b:Int):Option CV:=
 match op with
 | .add=>some (.int k (k.wrap (a+b)))
 | .sub=>some (.int k (k.wrap (a-b)))
 | .mul=>some (.int k (k.wrap (a*b)))
 | .quo=>bif decide (b=0) then none else some (.int k (k.wrap (a.tdiv b)))
 | .rem=>bif decide (b=0) then none else some (.int k (a.tmod b))
 | .and=>some (.int k (k.wrap (BitVec.ofInt k.bits a &&& BitVec.ofInt k.bits b).toNat))
 | .or=>some (.int k (k.wrap (BitVec.ofInt k.bits a |||BitVec.ofInt k.bits b).toNat))
 | .xor=>some (.int k (k.wrap (BitVec.ofInt k.bits a ^^^ BitVec.ofInt k.bits b).toNat))
 | .andNot=>some (.int k (k.wrap (BitVec.ofInt k.bits a &&& ~~~BitVec.ofInt k.bits b).toNat))
 | .eql=>some (.bool (decide (a=b)))
 | .neq=>some (.bool (!decide (a=b)))
 | .lss=>some (.bool (decide (a<b)))
 | .leq=>some (.bool (decide (a<=b)))
 | .gtr=>some (.bool (decide (a>b)))
 | .geq=>some (.bool (decide (a>=b)))
 |_=>none
def mxN (k:IntKind):Nat:=match k with
 | .i8=>127
 | .i16=>32767
 | .i32=>2147483647
 | .i64=>9223372036854775807
 | .u8=>255
 | .u16=>65535
 | .u32=>4294967295
 | .u64=>18446744073709551615
def p2 (n:Nat):Int:= .ofNat (Nat.pow 2 n)
theorem Sd_ (n:Nat):p2 n=(2:Int) ^ n:=by
 show ((2 ^ n:Nat):Int)=_;rw[Int.natCast_pow];rfl
def wrN (k:IntKind) (r:Nat):Int:=bif k.signed&&Nat.blt (mxN k) r then .negSucc (Nat.sub (Nat.sub (Nat.pow 2 k.bits) r) 1) else .ofNat r
def wrF (k:IntKind) (z:Int):Int:=match z with
 | .ofNat m=>bif Nat.ble m (mxN k) then .ofNat m else wrN k (Nat.mod m (Nat.pow 2 k.bits))
 | .negSucc m=>bif k.signed&&Nat.ble m (mxN k) then .negSucc m else wrN k (Nat.sub (Nat.sub (Nat.pow 2 k.bits) 1) (Nat.mod m (Nat.pow 2 k.bits)))
theorem Ue_ (k:IntKind) (r:Nat) (z:Int) (h:z%p2 k.bits=(r:Int)) (hr:r<Nat.pow 2 k.bits):wrN k r=k.wrap z:=by
 unfold wrN IntKind.wrap;rw[<- Sd_,h]
 cases hs:k.signed with
 |false=>simp
 |true=>
   simp only[Bool.true_and]
   cases hb:Nat.blt (mxN k) r with
   |true=>
     have hb:=Nat.le_of_ble_eq_true hb
     cases k<;>simp only[mxN,IntKind.signed,reduceCtorEq] at hb hs<;>simp only[p2,IntKind.bits] at hr ⊢ <;>simp at hr ⊢ <;>(rw[if_pos xI];omega)
   |false=>
     have hb:¬mxN k+1<=r:=λq=>by rw[show Nat.blt (mxN k) r=true from Nat.ble_eq_true_of_le q] at hb;cases hb
     cases k<;>simp only[mxN,IntKind.signed,reduceCtorEq] at hb hs<;>simp only[p2,IntKind.bits] at hr ⊢ <;>simp at hr ⊢ <;>omega
theorem Ke_ (k:IntKind) (z:Int):wrF k z=k.wrap z:=by
 unfold wrF
 cases z with
 |ofNat m=>
   simp only
   cases hb:Nat.ble m (mxN k) with
   |false=>
     refine Ue_ k _ _ ?_ (Nat.mod_lt _ (Nat.pow_pos xL))
     show ((m:Int)%((Nat.pow 2 k.bits:Nat):Int))=_
     exact (Int.natCast_emod _ _).symm
   |true=>
     have h:=Nat.le_of_ble_eq_true hb
     simp only[cond_true]
     cases k<;>simp only[mxN] at h<;>simp[IntKind.wrap,IntKind.bits,IntKind.signed]<;>omega
 |negSucc m=>
   simp only
   cases hb:(k.signed&&Nat.ble m (mxN k)) with
   |true=>
     simp only[Bool.and_eq_true] at hb
     have h:=Nat.le_of_ble_eq_true hb.2
     have hs:=hb.1
     simp only[cond_true]
     cases k<;>simp only[mxN,IntKind.signed,reduceCtorEq] at h hs<;>simp only[IntKind.wrap,IntKind.bits,IntKind.signed,<- Sd_,Int.negSucc_eq,Bool.true_and]<;>simp only[p2,Nat.reducePow,show ∀ a b,Nat.pow a b=a ^ b from λ_ _=>rfl,decide_eq_true_eq]<;>(simp only[Int.ofNat_eq_natCast] at *;split<;>omega)
   |false=>
     simp only[cond_false]
     have hp:0<Nat.pow 2 k.bits:=Nat.pow_pos xL
     have hm:=Nat.mod_lt m hp
     refine Ue_ k _ _ ?_ (by simp only[Nat.sub_eq];omega)
     show (Int.negSucc m%((Nat.pow 2 k.bits:Nat):Int))=_
     generalize Nat.pow 2 k.bits=q at *
     rw[Int.negSucc_emod_ofNat]
     have e:((m%q:Nat):Int)=(m:Int)%(q:Int):=Int.natCast_emod m q
     have hm:m%q<q:=hm
     show _=((q-1-m%q:Nat):Int)
     generalize m%q=r at *
     simp only[Int.subNatNat_eq_coe,Nat.succ_eq_add_one]
     omega
def nBit (f:Nat->Nat->Nat) (k:IntKind) (a b:Int) (d:Int):Int:=match a with
 | .ofNat a=>match b with
   | .ofNat b=>wrF k (.ofNat (f (Nat.mod a (Nat.pow 2 k.bits)) (Nat.mod b (Nat.pow 2 k.bits))))
   |_=>d
 |_=>d
def iAdd (k:IntKind) (a b:Int):Option CV:=some (.int k (wrF k (a+b)))
def iSub (k:IntKind) (a b:Int):Option CV:=some (.int k (wrF k (a-b)))
def iMul (k:IntKind) (a b:Int):Option CV:=some (.int k (wrF k (a*b)))
def iQuo (k:IntKind) (a b:Int):Option CV:=bif decide (b=0) then none else some (.int k (wrF k (a.tdiv b)))
def iRem (k:IntKind) (a b:Int):Option CV:=bif decide (b=0) then none else some (.int k (a.tmod b))
def iAnd (k:IntKind) (a b:Int):Option CV:=some (.int k (nBit Nat.land k a b (k.wrap (BitVec.ofInt k.bits a &&& BitVec.ofInt k.bits b).toNat)))
def iOr (k:IntKind) (a b:Int):Option CV:=some (.int k (nBit Nat.lor k a b (k.wrap (BitVec.ofInt k.bits a |||BitVec.ofInt k.bits b).toNat)))
def iXor (k:IntKind) (a b:Int):Option CV:=some (.int k (nBit Nat.xor k a b (k.wrap (BitVec.ofInt k.bits a ^^^ BitVec.ofInt k.bits b).toNat)))
def iAn (k:IntKind) (a b:Int):Option CV:=some (.int k (k.wrap (BitVec.ofInt k.bits a &&& ~~~BitVec.ofInt k.bits b).toNat))
def iEql (_:IntKind) (a b:Int):Option CV:=some (.bool (decide (a=b)))
def iNeq (_:IntKind) (a b:Int):Option CV:=some (.bool (!decide (a=b)))
def iLss (_:IntKind) (a b:Int):Option CV:=some (.bool (decide (a<b)))
def iLeq (_:IntKind) (a b:Int):Option CV:=some (.bool (decide (a<=b)))
def iGtr (_:IntKind) (a b:Int):Option CV:=some (.bool (decide (a>b)))
def iGeq (_:IntKind) (a b:Int):Option CV:=some (.bool (decide (a>=b)))
def iNo (_:IntKind) (_ _:Int):Option CV:=none
def bF (op:BinOp):IntKind->Int->Int->Option CV:=match op with
 | .add=>iAdd
 | .sub=>iSub
 | .mul=>iMul
 | .quo=>iQuo
 | .rem=>iRem
 | .and=>iAnd
 | .or=>iOr
 | .xor=>iXor
 | .andNot=>iAn
 | .eql=>iEql
 | .neq=>iNeq
 | .lss=>iLss
 | .leq=>iLeq
 | .gtr=>iGtr
 | .geq=>iGeq
 |_=>iNo
theorem Jm_ (w a:Nat):(BitVec.ofInt w (Int.ofNat a)).toNat=a%2 ^ w:=by
 rw[BitVec.toNat_ofInt];have :(Int.ofNat a)%((2 ^ w:Nat):Int)=((a%2 ^ w:Nat):Int):=by simp
 rw[this];exact Int.toNat_natCast _
theorem bF_eq (op:BinOp) (k:IntKind) (a b:Int):bF op k a b=bI op k a b:=by
 cases op<;>simp only[bF,bI,iAdd,iSub,iMul,iQuo,iRem,iAnd,iOr,iXor,iAn,iEql,iNeq,iLss,iLeq,iGtr,iGeq,iNo,Ke_]
 all_goals
   cases a<;>cases b<;>simp only[nBit,Ke_,BitVec.toNat_and,BitVec.toNat_or,BitVec.toNat_xor,Jm_]
   rfl
def bSh (op:BinOp) (k:IntKind) (a b:Int):Option CV:=
 bif decide (b<0) then none else match op with
 | .shl=>some (.int k (wrF k (a*p2 (min b.toNat k.bits))))
 | .shr=>some (.int k (a.fdiv (p2 (min b.toNat k.bits))))
 |_=>none
def bS (op:BinOp) (n x m y:Nat):Option CV:=
 match op with
 | .add=>bif Nat.ble (n+m) 9223372036854775807 then some (.str (n+m) (x+y*256 ^ n)) else none
 | .eql=>some (.bool (Nat.beq n m&&Nat.beq x y))
 | .neq=>some (.bool (!(Nat.beq n m&&Nat.beq x y)))
 | .lss=>some (.bool (Op.bytesLess (dec n x) (dec m y)))
 |_=>none
def isSh:BinOp->Bool
 | .shl=>true
 | .shr=>true
 |_=>false
theorem lo_sh {op:BinOp} {k k':IntKind} {a b:Int} {c:CV} (hx:ev F x = .int k a) (hy:ev F y = .int k' b) (h:bSh op k a b=some c):∃ v,VR β c v/\Lo P N (.binOp op T x y T') ty F H L v:=by
 unfold bSh at h
 cases hb:decide (b<0) with
 |true=>rw[hb] at h;cases h
 |false=>
   rw[hb] at h
   have h0:0<=b:=by simpa using hb
   simp only[cond_false] at h
   cases op<;>first|(cases h;done)|(simp only[Option.some.injEq] at h;subst h)
   . exact⟨_,rfl,by rw[Ke_,Sd_];exact Tt_ hx hy h0⟩
   . exact⟨_,rfl,by rw[Sd_];exact Mc_ hx hy h0⟩
theorem lo_bI {op:BinOp} {k:IntKind} {a b:Int} {c:CV} (hx:ev F x = .int k a) (hy:ev F y = .int k b) (h:bI op k a b=some c):∃ v,VR β c v/\Lo P N (.binOp op T x y T') ty F H L v:=by
 have g:∀ {op:BinOp} {v:Value},(∀ w,(binOp op T (.int k a) (.int k b)).run P w = .ok v w)->Lo P N (.binOp op T x y T') ty F H L v:=λh=>Ai_ hx hy (K_) h
 cases op<;>simp only[bI] at h<;>first
   |(cases h;done)
   |(simp only[Option.some.injEq] at h;subst h;refine⟨_,rfl,g λw=>?_⟩;simp[binOp,Op.intArith,Op.intBits,Op.intCmp];done)
   |(simp only[Option.some.injEq] at h;subst h;refine⟨_,rfl,g λw=>?_⟩;simp[binOp,Op.intCmp,bne,O5_];done)
   |skip
 all_goals (cases hb:decide (b=0) with
   |true=>rw[hb] at h;cases h
   |false=>
     rw[hb] at h
     have h0:¬b=0:=by simpa using hb
     simp only[cond_false,Option.some.injEq] at h
     subst h;refine⟨_,rfl,g λw=>?_⟩;simp[binOp,Op.intDiv,h0])
theorem Ob_ {n m x y:Nat} (h:x<256 ^ n) (k:y<256 ^ m):decide (dec n x=dec m y)=(Nat.beq n m&&Nat.beq x y):=by
 rw[Bool.eq_iff_iff];simp only[decide_eq_true_eq,Bool.and_eq_true];constructor;intro e;have hl:=congrArg List.length e;rw[B_,B_] at hl;subst hl;exact⟨Nat.beq_refl _,by rw[Oc_ n x y h k e];exact Nat.beq_refl _⟩;rintro⟨e1,e2⟩;rw[Nat.eq_of_beq_eq_true e1,Nat.eq_of_beq_eq_true e2]
theorem Me_ {n m x y:Nat} (h:x<256 ^ n) (k:y<256 ^ m):x+y*256 ^ n<256 ^ (n+m):=by
 have :(y+1)*256 ^ n<=256 ^ m*256 ^ n:=Nat.mul_le_mul_right _ k;rw[Nat.pow_add,Nat.mul_comm (256 ^ n)];exact yH
theorem lo_bS {op:BinOp} {n m a b:Nat} {c:CV} (ha:a<256 ^ n) (hb:b<256 ^ m) (hx:ev F x=SW.str (dec n a)) (hy:ev F y=SW.str (dec m b)) (h:bS op n a m b=some c):∃ v,VR β c v/\Lo P N (.binOp op T x y T') ty F H L v:=by
 cases op<;>simp only[bS] at h<;>first|(cases h;done)|skip
 . cases hb':Nat.ble (n+m) 9223372036854775807 with
   |false=>rw[hb'] at h;cases h
   |true=>
     rw[hb'] at h
     simp only[cond_true,Option.some.injEq] at h;subst h
     refine⟨_,⟨Me_ ha hb,rfl⟩,?_⟩
     have :=Ph_ (P:=P) (N:=N) (H:=H) (L:=L) (ty:=ty) (T:=T) (T':=T') hx hy (by rw[B_,B_];exact Nat.le_of_ble_eq_true hb')
     rwa [Es_ _ _ _ _ ha] at this
 . simp only[Option.some.injEq] at h;subst h
   refine⟨_,rfl,?_⟩
   have :=Pj_ (P:=P) (N:=N) (H:=H) (L:=L) (ty:=ty) (T:=T) (T':=T') hx hy
   rwa [Ob_ ha hb] at this
 . simp only[Option.some.injEq] at h;subst h
   refine⟨_,rfl,?_⟩
   have :=Pl_ (P:=P) (N:=N) (H:=H) (L:=L) (ty:=ty) (T:=T) (T':=T') hx hy
   rwa [Ob_ ha hb] at this
 simp only[Option.some.injEq] at h;subst h;exact⟨_,rfl,Pk_ hx hy⟩
end Go.CE
namespace Go.CE
open Go.SW
variable {P:Program} {N:SW.Rest} {F:Fr} {H:Hp} {L:Ls} {ty T T':TypeId} {x y z:Operand} {β:Be} {f:Fe}
def szE (P:Program) (T:TypeId):Option Nat:=match P.info? T with
 |some i=>some i.size
 |none=>none
theorem As_ {k:Nat} (h:szE P T=some k):Sz P T k:=by
 unfold szE at h
 split at h
 . rename_i i hi;simp only[Option.some.injEq] at h;intro w;simp[sizeOf,typeInfo,hi,h]
 . cases h
theorem szE_cells {k:Nat} (h:szE P T=some k):P.cellsOf T=k:=by
 unfold szE at h
 split at h
 . rename_i i hi;simp only[Option.some.injEq] at h;simp[Program.cellsOf,hi,h]
 . cases h
def agE (P:Program) (T:TypeId):Option Bool:=match P.underlying T with
 |some (.struct _)=>some true
 |some (.array _ _)=>some true
 |some _=>some false
 |none=>none
theorem Em_ {g:Bool} (h:agE P T=some g):Ag P T g:=by
 unfold agE at h;intro w
 split at h
 exact yC;exact yC
 . rename_i d h1 h2 hu
   simp only[Option.some.injEq] at h;subst h
   cases d<;>first|(exact (h1 _ Y).elim)|(exact (h2 _ _ Y).elim)|simp[isAgg,run_underlying hu]
 . cases h
mutual
def eqC (P:Program):Nat->TypeId->CV->CV->Option Bool
 |0,_,_,_=>none
 |d+1,t,a,b=>match P.underlying t with
   |some (.int _)=>match a with
     | .int k p=>match b with
       | .int k' q=>bif decide (k=k') then some (decide (p=q)) else none
       |_=>none
     |_=>none
   |some .string=>match a with
     | .str n p=>match b with
       | .str m q=>some (Nat.beq n m&&Nat.beq p q)
       |_=>none
     |_=>none
   |some .bool=>match a with
     | .bool p=>match b with
       | .bool q=>some (decide (p=q))
       |_=>none
     |_=>none
   |some (.struct fs)=>match a with
     | .agg p=>match b with
       | .agg q=>bif P.stoodInHeld t then none else eqFs P d p q fs.toList
       |_=>none
     |_=>none
   |_=>none
def eqFs (P:Program):Nat->List CV->List CV->List Field->Option Bool
 |0,_,_,_=>none
 |d+1,_,_,[]=>some true
 |d+1,p,q,f::fs=>bif decide (f.name = "_") then none else
   match agE P f.type with
   |some true=>match szE P f.type with
     |some k=>match eqC P d f.type (.agg ((p.drop f.offset).take k)) (.agg ((q.drop f.offset).take k)) with
       |some r=>match eqFs P d p q fs with
         |some r'=>some (r&&r')
         |none=>none
       |none=>none
     |none=>none
   |some false=>match p[f.offset]? with
     |some a=>match q[f.offset]? with
       |some b=>match eqC P d f.type a b with
         |some r=>match eqFs P d p q fs with
           |some r'=>some (r&&r')
           |none=>none
         |none=>none
       |none=>none
     |none=>none
   |none=>none
end
mutual
theorem Oh_:∀ (d:Nat) {t:TypeId} {a b:CV} {u v:Value} {r:Bool},eqC P d t a b=some r->VR β a u->VR β b v->∀ e,d<=e->EqV P e t u v r
 |0,_,_,_,_,_,_,h,_,_,_,_=>by simp[eqC] at h
 |d+1,t,a,b,u,v,r,h,ha,hb,e,he=>by
   obtain⟨e,rfl⟩:∃ e',e=e'+1:=⟨e-1,by omega⟩
   simp only[eqC] at h
   split at h
   . rename_i hu
     split at h
     . rename_i k p
       split at h
       . rename_i k' q
         simp only[VR] at ha hb;subst ha;subst hb
         cases hk:decide (k=k') with
         |true=>rw[hk] at h;simp only[cond_true,Option.some.injEq] at h;subst h;have :=of_decide_eq_true hk;subst this;exact Kq_ hu
         |false=>rw[hk] at h;cases h
       . cases h
     . cases h
   . rename_i hu
     split at h
     . rename_i n p
       split at h
       . rename_i m q
         simp only[VR] at ha hb
         obtain⟨ha,rfl⟩:=ha;obtain⟨hb,rfl⟩:=hb
         simp only[Option.some.injEq] at h;subst h
         have :=eqv_str (P:=P) (d:=e) (a:=dec n p) (b:=dec m q) hu
         rwa [Ob_ ha hb] at this
       . cases h
     . cases h
   . rename_i hu
     split at h
     . split at h
       . simp only[VR] at ha hb;subst ha;subst hb
         simp only[Option.some.injEq] at h;subst h
         exact Rp_ hu
       . cases h
     . cases h
   . rename_i fs hu
     split at h
     . split at h
       . simp only[VR] at ha hb
         obtain⟨xs,rfl,ha⟩:=ha;obtain⟨ys,rfl,hb⟩:=hb
         cases hs:P.stoodInHeld t with
         |true=>rw[hs] at h;cases h
         |false=>
           rw[hs] at h
           exact Oj_ hu hs (Ko_ d h ha hb e xI)
       . cases h
     . cases h
   . cases h
theorem Ko_:∀ (d:Nat) {p q:List CV} {xs ys:List Value} {fs:List Field} {r:Bool},eqFs P d p q fs=some r->VRs β p xs->VRs β q ys->∀ e,d<=e->EqF P e xs ys fs r
 |0,_,_,_,_,_,_,h,_,_,_,_=>by simp[eqFs] at h
 |d+1,p,q,xs,ys,[],r,h,_,_,e,he=>by
   simp only[eqFs,Option.some.injEq] at h;subst h;exact Oi_
 |d+1,p,q,xs,ys,f::fs,r,h,hp,hq,e,he=>by
   simp only[eqFs] at h
   cases hn:decide (f.name = "_") with
   |true=>rw[hn] at h;cases h
   |false=>
     rw[hn] at h
     have hn':¬f.name = "_" :=of_decide_eq_false hn
     simp only[cond_false] at h
     split at h
     . rename_i hg
       split at h
       . rename_i k hk
         split at h
         . rename_i r1 h1
           split at h
           . rename_i r2 h2
             simp only[Option.some.injEq] at h;subst h
             refine eqf_A hn' (Em_ hg) (As_ hk) Y Y (Oh_ d h1 ?_ ?_ e xI) (Ko_ d h2 hp hq e xI)
             . simp only[VR];exact⟨_,rfl,(hp.drop _).take _⟩
             . simp only[VR];exact⟨_,rfl,(hq.drop _).take _⟩
           . cases h
         . cases h
       . cases h
     . rename_i hg
       split at h
       . rename_i a ha
         split at h
         . rename_i b hb
           split at h
           . rename_i r1 h1
             split at h
             . rename_i r2 h2
               simp only[Option.some.injEq] at h;subst h
               obtain⟨u,e1,e2⟩:=hp.get ha
               obtain⟨v,e3,e4⟩:=hq.get hb
               exact eqf_1 hn' (Em_ hg) e1 e3 (Oh_ d h1 e2 e4 e xI) (Ko_ d h2 hp hq e xI)
             . cases h
           . cases h
         . cases h
       . cases h
     . cases h
end
def eqE (P:Program) (T:TypeId) (x y:Operand) (a b:CV):Option Bool:=
 match a with
 | .bool p=>match b with
   | .bool q=>match P.underlying T with
     |some .bool=>some (p==q)
     |_=>none
   |_=>none
 | .agg p=>match b with
   | .agg q=>bif P.eqGuardType P.depth T then none else eqC P 40 T (.agg p) (.agg q)
   |_=>none
 | .ptr i o=>match b with
   | .nilp=>match P.underlying T with
     |some (.pointer _)=>some false
     |_=>none
   | .ptr j q=>bif Nat.beq i j&&Nat.beq o q then (match P.underlying T with
     |some (.pointer e)=>match P.info? e with
       |some _=>some true
       |none=>none
     |_=>none) else none
   |_=>none
 | .gp _ _=>match b with
   | .nilp=>match P.underlying T with
     |some (.pointer _)=>some false
     |_=>none
   |_=>none
 | .nilp=>match b with
   | .nilp=>match P.underlying T with
     |some (.pointer _)=>some true
     |_=>none
   |_=>none
 | .sl _ _ _ _=>match b with
   | .nils=>match P.underlying T with
     |some (.slice _)=>some false
     |_=>none
   |_=>none
 | .slu _ _ _ _=>match b with
   | .nils=>match P.underlying T with
     |some (.slice _)=>some false
     |_=>none
   |_=>none
 | .nils=>match b with
   | .nils=>match P.underlying T with
     |some (.slice _)=>some true
     |_=>none
   |_=>none
 | .nilf=>match b with
   | .nilf=>match P.underlying T with
     |some (.func _ _ _)=>some true
     |_=>none
   |_=>none
 | .fn _ _ _=>match b with
   | .nilf=>match P.underlying T with
     |some (.func _ _ _)=>some false
     |_=>none
   |_=>none
 | .nili=>match b with
   | .nili=>match y with
     | .const _=>match P.underlying T with
       |some (.interface _)=>some true
       |_=>none
     |_=>none
   |_=>none
 | .ifc _ _=>match b with
   | .nili=>match P.underlying T with
     |some (.interface _)=>some false
     |_=>none
   |_=>none
 |_=>none
end Go.CE
namespace Go.CE
open Go.SW
variable {P:Program} {N:SW.Rest} {F:Fr} {H:Hp} {L:Ls} {ty T T':TypeId} {x y z:Operand} {β:Be} {f:Fe}
theorem Jv_ {op:BinOp} {u v:Value} (h1:∀ a b,u = .agg a->v = .agg b->P.eqGuardType P.depth T=false) (h2:u = .nilIface->v = .nilIface->∃ c,y = .const c) (w:World):(eqGuard op T x y u v).run P w = .ok () w:=by
 cases u<;>cases v<;>first
   |(exact run_eqGuard_agg w op T x y _ _ (h1 _ _ Y Y))
   |(obtain⟨c,rfl⟩:=h2 Y Y;cases op<;>simp[eqGuard];done)
   |(cases op<;>simp[eqGuard];done)
theorem Dl_ {u v:Value} {r:Bool} (h:∀ d w,(Op.equalIn (d+1) T u v).run P w = .ok r w):EqV P 10000 T u v r:=λw=>h 9999 w
theorem Cy_ {u v:Value} {r:Bool} (hx:ev F x=u) (hy:ev F y=v) (h1:∀ a b,u = .agg a->v = .agg b->P.eqGuardType P.depth T=false) (h2:u = .nilIface->v = .nilIface->∃ c,y = .const c)
   (hi:∀ k a,u ≠ .int k a) (hs:∀ a,u ≠ .string a) (hf:∀ k a,u ≠ .float k a) (hc:∀ k a b,u ≠ .complex k a b) (h:EqV P 10000 T u v r):Lo P N (.binOp .eql T x y T') ty F H L (.bool r)/\Lo P N (.binOp .neq T x y T') ty F H L (.bool (!r)):=by
 constructor;exact zS;exact zS
theorem Tn_ {a b:CV} {r:Bool} (hx:VR β a (ev F x)) (hy:VR β b (ev F y)) (h:eqE P T x y a b=some r):Lo P N (.binOp .eql T x y T') ty F H L (.bool r)/\Lo P N (.binOp .neq T x y T') ty F H L (.bool (!r)):=by
 generalize hu:ev F x=u at hx;generalize hv:ev F y=v at hy;unfold eqE at h
 split at h
 . -- truth values
   split at h
   . split at h
     . rename_i hT
       simp only[VR] at hx hy;subst hx;subst hy
       simp only[Option.some.injEq] at h;subst h
       refine Cy_ hu hv xK xK xK xK xK xK (Dl_ λd w=>Ck_ d hT w)
     . cases h
   . cases h
 . -- structs
   rename_i p
   split at h
   . rename_i q
     cases hg:P.eqGuardType P.depth T with
     |true=>rw[hg] at h;cases h
     |false=>
       rw[hg] at h
       simp only[cond_false] at h
       have hE:=Oh_ 40 h hx hy 10000 xI
       simp only[VR] at hx hy
       obtain⟨xs,rfl,hx⟩:=hx;obtain⟨ys,rfl,hy⟩:=hy
       exact Cy_ hu hv (λ_ _ _ _=>hg) xK xK xK xK xK hE
   . cases h
 . -- a pointer
   split at h
   . split at h
     . rename_i e hT
       simp only[VR] at hx hy;obtain⟨q,_,rfl⟩:=hx;exact xC
     . cases h
   . rename_i i o _ j q
     cases hb:(Nat.beq i j&&Nat.beq o q) with
     |false=>rw[hb] at h;cases h
     |true=>
       rw[hb] at h
       simp only[Bool.and_eq_true] at hb
       have e1:=Nat.eq_of_beq_eq_true hb.1;have e2:=Nat.eq_of_beq_eq_true hb.2
       subst e1;subst e2
       simp only[cond_true] at h
       split at h
       . rename_i e hT
         split at h
         . rename_i j hj
           simp only[VR] at hx hy;obtain⟨q1,h1,rfl⟩:=hx;obtain⟨q2,h2,rfl⟩:=hy
           rw[h1] at h2;cases h2
           simp only[Option.some.injEq] at h;subst h
           refine Cy_ hu hv xK xK xK xK xK xK (Dl_ λd w=>?_)
           by_cases h0:j.size=0
           . simp[Op.equalIn,run_underlying hT,sizeOf,typeInfo,hj,h0]
           . simp[Op.equalIn,run_underlying hT,sizeOf,typeInfo,hj,h0,sameAddr]
         . cases h
       . cases h
   . cases h
 . split at h
   . split at h
     . rename_i e hT
       simp only[VR] at hx hy;subst hx;exact xC
     . cases h
   . cases h
 . split at h
   . split at h
     . rename_i e hT
       exact xH
     . cases h
   . cases h
 . split at h
   . split at h
     . rename_i e hT
       simp only[VR] at hx hy;obtain⟨q,_,rfl⟩:=hx;exact xB
     . cases h
   . cases h
 . split at h
   . split at h
     . rename_i e hT
       simp only[VR] at hx hy;obtain⟨q,c,a,_,_,_,rfl,_⟩:=hx;exact xB
     . cases h
   . cases h
 . split at h
   . split at h
     . rename_i e hT
       exact xH
     . cases h
   . cases h
 . split at h
   . split at h
     . rename_i hT
       exact xH
     . cases h
   . cases h
 . split at h
   . split at h
     . rename_i hT
       simp only[VR] at hx hy;obtain⟨vs,us,rfl,_⟩:=hx;exact xB
     . cases h
   . cases h
 . split at h
   . split at h
     . split at h
       . rename_i hT
         simp only[VR] at hx hy;subst hx;subst hy
         simp only[Option.some.injEq] at h;subst h
         refine Cy_ hu hv xK (λ_ _=>⟨_,rfl⟩) xK xK xK xK (Dl_ λd w=>?_)
         exact yW
       . cases h
     . cases h
   . cases h
 . split at h
   . split at h
     . rename_i hT
       simp only[VR] at hx hy;obtain⟨u',rfl,_⟩:=hx;exact xB
     . cases h
   . cases h
 . cases h
def binE (P:Program) (op:BinOp) (T:TypeId) (x y:Operand) (a b:CV):Option CV:=
 match a with
 | .int k p=>match b with
   | .int k' q=>bif isSh op then bSh op k p q else bif decide (k=k') then bF op k p q else none
   |_=>none
 | .str n p=>match b with
   | .str m q=>bS op n p m q
   |_=>none
 |a=>match op with
   | .eql=>match eqE P T x y a b with
     |some r=>some (.bool r)
     |none=>none
   | .neq=>match eqE P T x y a b with
     |some r=>some (.bool (!r))
     |none=>none
   |_=>none
theorem Pg_ {op:BinOp} {a b c:CV} (hx:VR β a (ev F x)) (hy:VR β b (ev F y)) (h:binE P op T x y a b=some c):∃ v,VR β c v/\Lo P N (.binOp op T x y T') ty F H L v:=by
 unfold binE at h
 split at h
 . rename_i k p
   split at h
   . rename_i k' q
     simp only[VR] at hx hy
     cases hs:isSh op with
     |true=>rw[hs] at h;exact lo_sh hx hy h
     |false=>
       rw[hs] at h
       cases hk:decide (k=k') with
       |true=>rw[hk] at h;have :=of_decide_eq_true hk;subst this;simp only[cond_false,cond_true,bF_eq] at h;exact lo_bI hx hy h
       |false=>rw[hk] at h;cases h
   . cases h
 . split at h
   simp only[VR] at hx hy
   exact lo_bS hx.1 hy.1 hx.2 hy.2 h
   . cases h
 . split at h
   . split at h
     . rename_i r hr
       simp only[Option.some.injEq] at h;subst h
       exact⟨_,rfl,(Tn_ hx hy hr).1⟩
     . cases h
   . split at h
     . rename_i r hr
       simp only[Option.some.injEq] at h;subst h
       exact⟨_,rfl,(Tn_ hx hy hr).2⟩
     . cases h
   . cases h
def unE (op:UnOp) (a:CV):Option CV:=
 match a with
 | .bool b=>match op with
   | .not=>some (.bool (!b))
   |_=>none
 | .int k n=>match op with
   | .neg=>some (.int k (wrF k (0-n)))
   | .xor=>some (.int k (k.wrap (BitVec.ofInt k.bits (bif k.signed then -1 else k.max) ^^^ BitVec.ofInt k.bits n).toNat))
   |_=>none
 |_=>none
theorem Tv_ {op:UnOp} {a c:CV} (hx:VR β a (ev F x)) (h:unE op a=some c):∃ v,VR β c v/\Lo P N (.unOp op T x) ty F H L v:=by
 unfold unE at h
 split at h
 . split at h
   simp only[Option.some.injEq] at h;subst h;simp only[VR] at hx;exact⟨_,rfl,Ts_ hx⟩
   . cases h
 . rename_i k n
   split at h
   simp only[Option.some.injEq] at h;subst h;simp only[VR] at hx
   exact⟨_,rfl,λd pos af g w _=>by simp[execOp,hx,Op.unary,Op.intArith,Ke_]⟩
   . cases hk:k.signed with
     |true=>
       rw[hk] at h
       simp only[cond_true,Option.some.injEq] at h;subst h;simp only[VR] at hx
       exact⟨_,rfl,λd pos af g w _=>by simp[execOp,hx,Op.unary,Op.intBits,hk]⟩
     |false=>
       rw[hk] at h
       simp only[cond_false,Option.some.injEq] at h;subst h;simp only[VR] at hx
       exact⟨_,rfl,Tl_ hx hk⟩
   . cases h
 . cases h
def cvE (P:Program) (T T':TypeId) (a:CV):Option CV:=
 match a with
 | .int _ n=>match P.underlying T with
   |some _=>match P.underlying T' with
     |some (.int k)=>some (.int k (wrF k n))
     |_=>none
   |none=>none
 | .str n x=>match P.underlying T with
   |some .string=>match P.underlying T' with
     |some .string=>some (.str n x)
     |_=>none
   |_=>none
 |_=>none
theorem Tm_ {a c:CV} (hx:VR β a (ev F x)) (h:cvE P T T' a=some c):∃ v,VR β c v/\Lo P N (.convert T T' x) ty F H L v:=by
 unfold cvE at h
 split at h
 . split at h
   . rename_i hT
     split at h
     . rename_i hT'
       simp only[Option.some.injEq] at h;subst h;simp only[VR] at hx
       rw[Ke_];exact⟨_,rfl,I0_ hx (by rw[hT];rfl) hT'⟩
     . cases h
   . cases h
 . split at h
   . rename_i hT
     split at h
     . rename_i hT'
       simp only[Option.some.injEq] at h;subst h;simp only[VR] at hx
       exact⟨_,⟨hx.1,rfl⟩,G3_ hx.2 hT hT'⟩
     . cases h
   . cases h
 . cases h
end Go.CE
namespace Go.CE
open Go.SW
variable {P:Program} {N:SW.Rest} {F:Fr} {H:Hp} {L:Ls} {ty T T':TypeId} {x y z:Operand} {β:Be} {f:Fe}
abbrev Yl (P:Program) (N:SW.Rest) (F:Fr) (H:Hp) (L:Ls) (β:Be) (op:Op) (ty:TypeId) (c:CV):Prop:=∃ v,VR β c v/\Lo P N op ty F H L v
theorem y_mv {c:CV} (hx:VR β c (ev F x)):Yl P N F H L β (.move x) ty c:=⟨_,hx,λd pos af g w _=>by simp[execOp]⟩
theorem y_as {c:CV} (hx:VR β c (ev F x)):Yl P N F H L β (.assign x) ty c:=⟨_,hx,λd pos af g w _=>by simp[execOp]⟩
theorem M0_ {b:Bool} {c:CV} (hx:VR β (.bool b) (ev F x)) (hy:VR β c (ev F (bif b then y else z))):Yl P N F H L β (.pick x y z) ty c:=by
 simp only[VR] at hx;refine⟨_,hy,λd pos af g w _=>?_⟩
 cases b<;>simp[execOp,hx,asBool]
def Hs_ (P:Program) (T:TypeId):Option (List CV):=match P.info? T with
 |some i=>match i.zero with
   |some z=>vCs z.cells.toList
   |none=>none
 |none=>none
theorem B2_ {cs:List CV} (h:Hs_ P T=some cs):∃ z:Value,(∀ w,(zeroValue T).run P w = .ok z w)/\VRs β cs z.cells.toList:=by
 unfold Hs_ at h
 split at h
 . rename_i i hi
   split at h
   . rename_i z hz
     exact⟨z,λw=>by simp[zeroValue,typeInfo,hi,hz],Q5_ h⟩
   . cases h
 . cases h
def Gl_:CV->Option (List CV)
 | .agg cs=>some cs
 | .tup _=>none
 |c=>some [c]
theorem Cv_ {c:CV} {cs:List CV} {v:Value} (h:Gl_ c=some cs) (hv:VR β c v):VRs β cs v.cells.toList:=by
 unfold Gl_ at h
 split at h
 simp only[Option.some.injEq] at h;subst h;simp only[VR] at hv;obtain⟨vs,rfl,hv⟩:=hv;simpa [Value.cells] using hv
 . cases h
 . rename_i h1 h2
   simp only[Option.some.injEq] at h;subst h
   have :v.cells = #[v]:=by
     cases c<;>simp only[VR] at hv<;>first
       |(exact absurd Y (h1 _))|(exact absurd Y (h2 _))
       |(subst hv;rfl)
       |(obtain⟨_,rfl⟩:=hv;rfl)
       |(obtain⟨_,_,rfl⟩:=hv;rfl)
       |(obtain⟨_,rfl,_⟩:=hv;rfl)
       |(obtain⟨_,_,_,_,_,_,rfl,_⟩:=hv;rfl)
       |(obtain⟨_,_,rfl,_⟩:=hv;rfl)
   rw[this]
   exact .cons hv .nil
def D8_:List CV->Nat->List CV->List CV
 |cs,_,[]=>cs
 |cs,o,v::r=>D8_ (cs.set o v) (o+1) r
theorem Fa_:∀ (ds cs:List CV) (o:Nat) {vs us:List Value},VRs β cs vs->VRs β ds us->VRs β (D8_ cs o ds) (Ao_ vs o us)
 |[],_,_,_,_,h,k=>by rw[k.nil_inv];exact h
 |_::_,_,_,_,_,h,k=>by obtain⟨v,us',rfl,h1,h2⟩:=k.cons_inv;simp only[D8_,Ao_];exact Fa_ _ _ _ (h.set _ h1) h2
theorem Bj_:∀ (ds cs:List CV) (o:Nat),(D8_ cs o ds).length=cs.length
 |[],_,_=>rfl
 |_::r,cs,o=>by simp only[D8_];rw[Bj_ r];simp
def Oq_ (places:List (Nat×Nat)):List CV->List (Nat×CV)->Option (List CV)
 |cs,[]=>some cs
 |cs,(i,c)::r=>match places[i]? with
   |some (o,k)=>match Gl_ c with
     |some ds=>bif Nat.beq ds.length k&&Nat.ble (o+k) cs.length then Oq_ places (D8_ cs o ds) r else none
     |none=>none
   |none=>none
def efps (f:Fe):List (Nat×Operand)->Option (List (Nat×CV))
 |[]=>some []
 |(i,x)::r=>match ef f x with
   |some c=>match efps f r with
     |some cs=>some ((i,c)::cs)
     |none=>none
   |none=>none
def VRp (β:Be):List (Nat×CV)->List (Nat×Value)->Prop
 |[],vs=>vs=[]
 |(i,c)::r,vs=>∃ v us,vs=(i,v)::us/\VR β c v/\VRp β r us
theorem Ip_ (hf:FR β f F):∀ {xs:List (Nat×Operand)} {cs:List (Nat×CV)},efps f xs=some cs->VRp β cs (evp F xs)
 |[],cs,h=>by simp only[efps,Option.some.injEq] at h;subst h;rfl
 |(i,x)::r,cs,h=>by
   simp only[efps] at h
   split at h
   . rename_i c hc
     split at h
     . rename_i ds hd
       simp only[Option.some.injEq] at h;subst h
       exact⟨_,_,rfl,M_ hf hc,Ip_ hf hd⟩
     . cases h
   . cases h
theorem Ie_:∀ (vs cs:List Value) (o j:Nat),(vs.zipIdx j).foldl (λ(cs:Array Value) (p:Value×Nat)=>cs.setIfInBounds (o+p.2) p.1) cs.toArray=(Ao_ cs (o+j) vs).toArray
 |[],cs,o,j=>by simp[Ao_]
 |v::r,cs,o,j=>by
   rw[List.zipIdx_cons,List.foldl_cons]
   have :=Ie_ r (cs.set (o+j) v) o (j+1)
   simp only[Ao_]
   rw[show o+j+1=o+(j+1) by omega,<- this]
   congr 1
   simp
theorem L0_ (places:List (Nat×Nat)):∀ {ps:List (Nat×CV)} {cs ds:List CV} {vs:List Value} {us:List (Nat×Value)},Oq_ places cs ps=some ds->VRs β cs vs->VRp β ps us ->
   ∃ ws,Instr.fill (places.toArray[·]?) vs.toArray us=some ws.toArray/\VRs β ds ws
 |[],cs,ds,vs,us,h,hv,hu=>by
   simp only[Oq_,Option.some.injEq] at h;subst h
   simp only[VRp] at hu;subst hu
   exact⟨vs,rfl,hv⟩
 |(i,c)::r,cs,ds,vs,us,h,hv,hu=>by
   simp only[VRp] at hu
   obtain⟨v,us',rfl,h1,h2⟩:=hu
   simp only[Oq_] at h
   split at h
   . rename_i o k hi
     split at h
     . rename_i es he
       cases hb:(Nat.beq es.length k&&Nat.ble (o+k) cs.length) with
       |false=>rw[hb] at h;cases h
       |true=>
         rw[hb] at h
         simp only[Bool.and_eq_true] at hb
         have e1:=Nat.eq_of_beq_eq_true hb.1
         have e2:=Nat.le_of_ble_eq_true hb.2
         have hc:=Cv_ he h1
         obtain⟨ws,hw1,hw2⟩:=L0_ places (ps:=r) h (Fa_ es cs o hv hc) h2
         have hl:v.cells.size=k:=by have :=hc.length;simp at this;omega
         have hl2:=hv.length
         refine⟨ws,?_,hw2⟩
         simp only[Instr.fill]
         have hi':(places.toArray[i]? :Option (Nat×Nat))=some (o,k):=by simpa using hi
         rw[hi']
         have hcond:¬((decide (v.cells.size≠k) || decide (o+v.cells.size>vs.toArray.size))=true):=by simp[hl];omega
         simp only[]
         rw[if_neg hcond]
         have hz:=Ie_ v.cells.toList vs o 0
         rw[Nat.add_zero] at hz
         rw[<- hw1,<- hz,<- Array.foldl_toList,Array.toList_zipIdx]
     . cases h
   . cases h
def Gt_ (P:Program) (fs:List Field):Option (List (Nat×Nat)):=match fs with
 |[]=>some []
 |f::r=>match szE P f.type with
   |some k=>match Gt_ P r with
     |some l=>some ((f.offset,k)::l)
     |none=>none
   |none=>none
theorem H4_:∀ {fs:List Field} {l:List (Nat×Nat)},Gt_ P fs=some l->∀ w,(fs.mapM (λf=>(do pure (f.offset,<- sizeOf f.type):Sem (Nat×Nat)))).run P w = .ok l w
 |[],l,h,w=>by simp only[Gt_,Option.some.injEq] at h;subst h;simp
 |f::r,l,h,w=>by
   simp only[Gt_] at h
   split at h
   . rename_i k hk
     split at h
     . rename_i l' hl
       simp only[Option.some.injEq] at h;subst h
       have :=H4_ hl w
       simp only[List.mapM_cons,Sem.run_bind,As_ hk w,Result.andThen_ok,Sem.run_pure,this]
     . cases h
   . cases h
def Jl_ (P:Program) (T:TypeId) (ps:List (Nat×CV)):Option CV:=
 match Hs_ P T with
 |some z=>match P.underlying T with
   |some (.struct fs)=>match Gt_ P fs.toList with
     |some l=>match Oq_ l z ps with
       |some cs=>some (.agg cs)
       |none=>none
     |none=>none
   |_=>none
 |none=>none
theorem Ji_ {ps:List (Nat×Operand)} {qs:List (Nat×CV)} {c:CV} (hf:FR β f F) (hq:efps f ps=some qs) (h:Jl_ P T qs=some c):Yl P N F H L β (.build T ps.toArray) ty c:=by
 unfold Jl_ at h
 split at h
 . rename_i z hz
   split at h
   . rename_i fs hu
     split at h
     . rename_i l hl
       split at h
       . rename_i cs hcs
         simp only[Option.some.injEq] at h;subst h
         obtain⟨zv,hz1,hz2⟩:=B2_ (β:=β) hz
         obtain⟨ws,hw1,hw2⟩:=L0_ l hcs hz2 (Ip_ hf hq)
         refine⟨.agg ws.toArray,by simp only[VR];exact⟨ws,rfl,hw2⟩,L9_ Y λw=>?_⟩
         have hm:=H4_ hl w
         have hm2:(fs.mapM (λf=>(do pure (f.offset,<- sizeOf f.type):Sem (Nat×Nat)))).run P w = .ok l.toArray w:=by
           rw[Array.mapM_eq_mapM_toList]
           have hm':(fs.toList.mapM (λf=>Prod.mk f.offset <$> sizeOf f.type:Field->Sem (Nat×Nat))).run P w = .ok l w:=by
             have :=hm
             exact yZ
           simp[hm']
         have e0:zv.cells.toList.toArray=zv.cells:=by simp
         rw[e0] at hw1
         simp only[Instr.build,Sem.run_bind,hz1 w,Result.andThen_ok,run_underlying hu,hm2,hw1,Sem.run_pure]
       . cases h
     . cases h
   . cases h
 . cases h
end Go.CE
namespace Go.CE
open Go.SW
variable {P:Program} {N:SW.Rest} {F:Fr} {H:Hp} {L:Ls} {ty T T':TypeId} {x y z:Operand} {β:Be} {f:Fe}
def nilE (a:CV):Option CV:=match a with
 | .ptr i o=>some (.ptr i o)
 | .gp g o=>some (.gp g o)
 | .fn g p q=>some (.fn g p q)
 |_=>none
theorem S3_ {a c:CV} (hx:VR β a (ev F x)) (h:nilE a=some c):Yl P N F H L β (.nilCheck x) ty c:=by
 unfold nilE at h
 split at h<;>first|(cases h;done)|skip
 all_goals (simp only[Option.some.injEq] at h;subst h)
 have hx':=hx;simp only[VR] at hx';obtain⟨q,_,e⟩:=hx';exact⟨_,hx,e ▸ Ac_ e⟩;have hx':=hx;simp only[VR] at hx';exact⟨_,hx,hx' ▸ Ac_ hx'⟩;have hx':=hx;simp only[VR] at hx';obtain⟨vs,us,e,_,_⟩:=hx';exact⟨_,hx,λd pos af g w _=>by simp[execOp,e]⟩
theorem y_fn {g:FuncId} {ps qs:List Operand} {a b:List CV} (hf:FR β f F) (ha:efs f ps=some a) (hb:efs f qs=some b):Yl P N F H L β (.makeFunc (.func g) ps.toArray qs.toArray) ty (.fn g a b):=
 ⟨_,by simp only[VR];exact⟨_,_,rfl,Ez_ hf ha,Ez_ hf hb⟩,Fr_ Y Y⟩
def ifE (P:Program) (T:TypeId) (a:CV):Option CV:=match P.underlying T with
 |some (.interface _)=>none
 |some _=>some (.ifc T a)
 |none=>none
theorem y_if {a c:CV} (hx:VR β a (ev F x)) (h:ifE P T a=some c):Yl P N F H L β (.makeInterface T x) ty c:=by
 unfold ifE at h
 split at h
 . cases h
 . rename_i d hd hu
   simp only[Option.some.injEq] at h;subst h
   refine⟨_,by simp only[VR];exact⟨_,rfl,hx⟩,λ_ _ _ _ w _=>?_⟩
   cases d<;>first|(exact (hd _ Y).elim)|simp[execOp,Instr.makeInterface,run_underlying hu]
 . cases h
def fldE (P:Program) (T:TypeId) (i:Nat):Option Nat:=match P.underlying T with
 |some (.struct fs)=>match fs.toList[i]? with
   |some fd=>match szE P fd.type with
     |some k=>bif Nat.beq k 0 then none else some fd.offset
     |none=>none
   |none=>none
 |_=>none
theorem Ot_ {i o:Nat} (h:fldE P T i=some o):Fld P T i o:=by
 unfold fldE at h
 split at h
 . rename_i fs hu
   split at h
   . rename_i fd hf
     split at h
     . rename_i k hk
       cases hb:Nat.beq k 0 with
       |true=>rw[hb] at h;cases h
       |false=>
         rw[hb] at h
         simp only[cond_false,Option.some.injEq] at h;subst h
         have h0:k≠0:=Nat.ne_of_beq_eq_false hb
         have hfa:fs[i]? = some fd:=by simpa using hf
         intro b off w
         simp[Instr.fieldAt,run_underlying hu,hfa,Instr.sureAddr,fieldPlace,As_ hk w,h0,J_]
     . cases h
   . cases h
 . cases h
def faE (P:Program) (T:TypeId) (i:Nat) (a:CV):Option CV:=match fldE P T i with
 |some o=>match a with
   | .ptr j p=>some (.ptr j (p+o))
   | .gp g p=>some (.gp g (p+o))
   |_=>none
 |none=>none
theorem y_fa {i:Nat} {a c:CV} (hx:VR β a (ev F x)) (h:faE P T i a=some c):Yl P N F H L β (.fieldAddr T x i) ty c:=by
 unfold faE at h
 split at h
 . rename_i o ho
   split at h
   simp only[Option.some.injEq] at h;subst h
   simp only[VR] at hx ⊢;obtain⟨q,h1,e⟩:=hx
   exact⟨_,⟨q,h1,rfl⟩,by rw[<- Nat.add_assoc];exact U_ e (Ot_ ho)⟩
   simp only[Option.some.injEq] at h;subst h
   simp only[VR] at hx ⊢
   exact⟨_,rfl,U_ hx (Ot_ ho)⟩
   . cases h
 . cases h
def Sf_ (P:Program) (t:TypeId) (cs:List CV) (o:Nat):Option CV:=match agE P t with
 |some true=>match szE P t with
   |some k=>some (.agg ((cs.drop o).take k))
   |none=>none
 |some false=>cs[o]?
 |none=>none
theorem Mm_ {t:TypeId} {cs:List CV} {o:Nat} {c:CV} {vs:List Value} (h:Sf_ P t cs o=some c) (hv:VRs β cs vs):∃ v,VR β c v/\∀ w,(part t vs.toArray o).run P w = .ok v w:=by
 unfold Sf_ at h
 split at h
 . rename_i hg
   split at h
   . rename_i k hk
     simp only[Option.some.injEq] at h;subst h
     exact⟨.agg (sub vs o k).toArray,by simp only[VR];exact⟨_,rfl,(hv.drop _).take _⟩,Qg_ (Em_ hg) (As_ hk) Y⟩
   . cases h
 . rename_i hg
   obtain⟨v,e,hv⟩:=hv.get h
   exact⟨v,hv,Qf_ (Em_ hg) e⟩
 . cases h
def Js_ (P:Program) (T:TypeId) (i:Nat) (a:CV):Option CV:=match a with
 | .agg cs=>match P.underlying T with
   |some (.struct fs)=>match fs.toList[i]? with
     |some fd=>Sf_ P fd.type cs fd.offset
     |none=>none
   |_=>none
 |_=>none
theorem Ra_ {i:Nat} {a c:CV} (hx:VR β a (ev F x)) (h:Js_ P T i a=some c):Yl P N F H L β (.field T x i) ty c:=by
 unfold Js_ at h
 split at h
 . split at h
   . rename_i fs hu
     split at h
     . rename_i fd hf
       simp only[VR] at hx;obtain⟨vs,e,hv⟩:=hx
       obtain⟨v,h1,h2⟩:=Mm_ h hv
       have hfa:fs[i]? = some fd:=by simpa using hf
       exact⟨v,h1,λ_ _ _ _ w _=>by simp[execOp,Instr.field,run_underlying hu,hfa,e,asAgg,h2 w]⟩
     . cases h
   . cases h
 . cases h
def natE (a:CV):Option Nat:=match a with
 | .int _ z=>match z with
   | .ofNat n=>some n
   | .negSucc _=>none
 |_=>none
theorem Dk_ {a:CV} {n:Nat} {v:Value} (h:natE a=some n) (hv:VR β a v):∃ k,v = .int k (n:Int):=by
 unfold natE at h
 split at h
 . split at h
   simp only[Option.some.injEq] at h;subst h;simp only[VR] at hv;exact⟨_,hv⟩
   . cases h
 . cases h
def ixE (P:Program) (T:TypeId) (a b:CV):Option CV:=match natE b with
 |some m=>match a with
   | .str n s=>match P.underlying T with
     |some .string=>bif Nat.blt m n then some (.int .u8 ((s/256 ^ m%256:Nat):Int)) else none
     |_=>none
   | .agg cs=>match P.underlying T with
     |some (.array len e)=>match szE P e with
       |some k=>bif Nat.blt m len then Sf_ P e cs (m*k) else none
       |none=>none
     |_=>none
   |_=>none
 |none=>none
theorem y_ix {a b c:CV} (hx:VR β a (ev F x)) (hy:VR β b (ev F y)) (h:ixE P T a b=some c):Yl P N F H L β (.index T x y) ty c:=by
 unfold ixE at h
 split at h
 . rename_i m hm
   obtain⟨k0,ey⟩:=Dk_ hm hy
   split at h
   . rename_i n s
     split at h
     . rename_i hT
       cases hb:Nat.blt m n with
       |false=>rw[hb] at h;cases h
       |true=>
         rw[hb] at h
         have hlt:m<n:=Nat.lt_of_lt_of_le (Nat.lt_succ_self m) (Nat.le_of_ble_eq_true hb)
         simp only[cond_true,Option.some.injEq] at h;subst h
         simp only[VR] at hx
         refine⟨_,rfl,?_⟩
         have :=Fq_ (P:=P) (N:=N) (H:=H) (L:=L) (ty:=ty) (T:=T) m hx.2 ey hT Y (by rw[B_];exact hlt)
         have e:((dec n s).getD m 0).toNat=s/256 ^ m%256:=by
           rw[List.getD_eq_getElem?_getD,Gp_ n s m hlt];simp
         rw[e] at this
         exact this
     . cases h
   . rename_i cs
     split at h
     . rename_i len e hT
       split at h
       . rename_i k hk
         cases hb:Nat.blt m len with
         |false=>rw[hb] at h;cases h
         |true=>
           rw[hb] at h
           have hlt:m<len:=Nat.lt_of_lt_of_le (Nat.lt_succ_self m) (Nat.le_of_ble_eq_true hb)
           simp only[cond_true] at h
           simp only[VR] at hx;obtain⟨vs,ex,hv⟩:=hx
           obtain⟨v,h1,h2⟩:=Mm_ h hv
           refine⟨v,h1,λ_ _ _ _ w _=>?_⟩
           have hi:((m:Nat):Int)<(len:Int):=by omega
           simp[execOp,Instr.index,ex,ey,asIntOf,run_underlying hT,hlt,As_ hk w,h2 w]
       . cases h
     . cases h
   . cases h
 . cases h
def iaE (P:Program) (T:TypeId) (a b:CV):Option CV:=match natE b with
 |some m=>match P.underlying T with
   |some (.slice e)=>match szE P e with
     |some k=>match a with
       | .sl i o len _=>bif Nat.blt m len then some (.ptr i (o+m*k)) else none
       | .slu i o len _=>bif Nat.blt m len then some (.ptr i (o+m*k)) else none
       |_=>none
     |none=>none
   |some (.array len e)=>match szE P e with
     | some k=>bif Nat.blt m len then (match a with
       | .ptr i o=>some (.ptr i (o+m*k))
       | .gp g o=>some (.gp g (o+m*k))
       |_=>none) else none
     |none=>none
   |_=>none
 |none=>none
theorem B4_ {m n:Nat} (h:Nat.blt m n=true):m<n:=Nat.lt_of_lt_of_le (Nat.lt_succ_self m) (Nat.le_of_ble_eq_true h)
theorem y_ia {a b c:CV} (hx:VR β a (ev F x)) (hy:VR β b (ev F y)) (h:iaE P T a b=some c):Yl P N F H L β (.indexAddr T x y) ty c:=by
 unfold iaE at h
 split at h
 . rename_i m hm
   obtain⟨k0,ey⟩:=Dk_ hm hy
   split at h
   . rename_i e hT
     split at h
     . rename_i k hk
       split at h
       . rename_i i o len cap
         cases hb:Nat.blt m len with
         |false=>rw[hb] at h;cases h
         |true=>
           rw[hb] at h
           have hlt:=B4_ hb
           simp only[cond_true,Option.some.injEq] at h;subst h
           simp only[VR] at hx ⊢;obtain⟨q,h1,ex⟩:=hx
           refine⟨_,⟨q,h1,rfl⟩,λ_ _ _ _ w _=>?_⟩
           simp[execOp,Instr.indexAt,ex,ey,asIntOf,run_underlying hT,hlt,As_ hk w,J_,Nat.add_assoc]
       . rename_i i o len k'
         cases hb:Nat.blt m len with
         |false=>rw[hb] at h;cases h
         |true=>
           rw[hb] at h
           have hlt:=B4_ hb
           simp only[cond_true,Option.some.injEq] at h;subst h
           simp only[VR] at hx ⊢;obtain⟨q,cc,aa,h1,_,hle,ex,ha⟩:=hx
           have ha:=ha xI;subst ha
           refine⟨_,⟨q,h1,rfl⟩,λ_ _ _ _ w _=>?_⟩
           simp[execOp,Instr.indexAt,ex,ey,asIntOf,run_underlying hT,hlt,As_ hk w,J_,Nat.add_assoc]
       . cases h
     . cases h
   . rename_i len e hT
     split at h
     . rename_i k hk
       cases hb:Nat.blt m len with
       |false=>rw[hb] at h;cases h
       |true=>
         rw[hb] at h
         have hlt:=B4_ hb
         simp only[cond_true] at h
         split at h
         . simp only[Option.some.injEq] at h;subst h
           simp only[VR] at hx ⊢;obtain⟨q,h1,ex⟩:=hx
           refine⟨_,⟨q,h1,rfl⟩,λ_ _ _ _ w _=>?_⟩
           simp[execOp,Instr.indexAt,ex,ey,asIntOf,run_underlying hT,hlt,As_ hk w,J_,Nat.add_assoc,Instr.sureAddr]
         . simp only[Option.some.injEq] at h;subst h
           simp only[VR] at hx ⊢
           refine⟨_,rfl,λ_ _ _ _ w _=>?_⟩
           simp[execOp,Instr.indexAt,hx,ey,asIntOf,run_underlying hT,hlt,As_ hk w,J_,Instr.sureAddr]
         . cases h
     . cases h
   . cases h
 . cases h
def exE (a:CV) (i:Nat):Option CV:=match a with
 | .tup vs=>vs[i]?
 |_=>none
theorem y_ex {a c:CV} {i:Nat} (hx:VR β a (ev F x)) (h:exE a i=some c):Yl P N F H L β (.extract x i) ty c:=by
 unfold exE at h
 split at h
 simp only[VR] at hx;obtain⟨vs,ex,hv⟩:=hx;obtain⟨v,e,h1⟩:=hv.get h;exact⟨v,h1,H7_ ex (by simpa using e)⟩
 . cases h
def lenE (P:Program) (T:TypeId) (a:CV):Option CV:=match P.underlying T with
 |some .string=>match a with
   | .str n _=>some (.int .i64 (n:Int))
   |_=>none
 |some (.slice _)=>match a with
   | .sl _ _ n _=>some (.int .i64 (n:Int))
   | .slu _ _ n _=>some (.int .i64 (n:Int))
   | .nils=>some (.int .i64 ((0:Nat):Int))
   |_=>none
 |_=>none
theorem S2_ {a c:CV} (hx:VR β a (ev F x)) (h:lenE P T a=some c):Yl P N F H L β (.call ⟨.builtin .len,#[x],#[T]⟩) ty c:=by
 unfold lenE at h
 split at h
 . rename_i hT
   split at h
   . rename_i n s
     simp only[Option.some.injEq] at h;subst h
     simp only[VR] at hx
     refine⟨_,rfl,?_⟩
     have :=H9_ (P:=P) (N:=N) (H:=H) (L:=L) (ty:=ty) hx.2 hT
     rwa [B_] at this
   . cases h
 . rename_i e hT
   split at h
   simp only[Option.some.injEq] at h;subst h
   simp only[VR] at hx;obtain⟨q,_,ex⟩:=hx
   exact⟨_,rfl,Cz_ ex hT⟩
   simp only[Option.some.injEq] at h;subst h
   simp only[VR] at hx;obtain⟨q,c,a,_,_,_,ex,_⟩:=hx
   exact⟨_,rfl,Cz_ ex hT⟩
   simp only[Option.some.injEq] at h;subst h
   simp only[VR] at hx
   exact⟨_,rfl,Cz_ hx hT⟩
   . cases h
 . cases h
def capE (P:Program) (T:TypeId) (a:CV):Option CV:=match P.underlying T with
 |some (.slice _)=>match a with
   | .sl _ _ _ n=>some (.int .i64 (n:Int))
   | .nils=>some (.int .i64 ((0:Nat):Int))
   |_=>none
 |_=>none
theorem y_cap {a c:CV} (hx:VR β a (ev F x)) (h:capE P T a=some c):Yl P N F H L β (.call ⟨.builtin .cap,#[x],#[T]⟩) ty c:=by
 unfold capE at h
 split at h
 . rename_i e hT
   split at h
   simp only[Option.some.injEq] at h;subst h
   simp only[VR] at hx;obtain⟨q,_,ex⟩:=hx
   exact⟨_,rfl,Jz_ ex hT⟩
   simp only[Option.some.injEq] at h;subst h
   simp only[VR] at hx
   exact⟨_,rfl,Jz_ hx hT⟩
   . cases h
 . cases h
def O6_ (k:IntKind):List CV->Option (List Int)
 |[]=>some []
 | .int k' z::r=>bif decide (k'=k) then (match O6_ k r with
   |some l=>some (z::l)
   |none=>none) else none
 |_::_=>none
theorem L6_ {k:IntKind}:∀ {cs:List CV} {zs:List Int} {vs:List Value},O6_ k cs=some zs->VRs β cs vs->vs=zs.map (Value.int k)
 |[],zs,vs,h,hv=>by simp only[O6_,Option.some.injEq] at h;subst h;rw[hv.nil_inv];rfl
 |c::r,zs,vs,h,hv=>by
   obtain⟨v,us,rfl,h1,h2⟩:=hv.cons_inv
   cases c<;>simp only[O6_] at h<;>first|(cases h;done)|skip
   rename_i k' z
   cases hk:decide (k'=k) with
   |false=>rw[hk] at h;cases h
   |true=>
     rw[hk] at h
     have :=of_decide_eq_true hk;subst this
     simp only[cond_true] at h
     split at h
     . rename_i l hl
       simp only[Option.some.injEq] at h;subst h
       simp only[VR] at h1;subst h1
       rw[L6_ hl h2];rfl
     . cases h
theorem lo_minN {k:IntKind} {xs:List Operand} {z r:Int} (zs:List Int) {ats:Array TypeId} (hx:evs F xs=(z::zs).map (Value.int k)) (hr:zs.foldl min z=r):Lo P N (.call ⟨.builtin .min,xs.toArray,ats⟩) ty F H L (.int k r):=λd pos af g w _=>by
 refine H_ (args:=((z::zs).map (Value.int k)).toArray) (by simp[Ff_,hx]) λcs=>?_
 have key:∀ (zs:List Int) (z:Int),((zs.map (Value.int k)).foldlM Builtin.min2 (Value.int k z)).run P w = .ok (Value.int k (zs.foldl min z)) w:=by
   intro zs
   induction zs with
   |nil=>intro z;simp
   |cons a r ih=>
     intro z
     have e:(if a<z then a else z)=min z a:=by omega
     simp only[List.map_cons,List.foldlM_cons,Builtin.min2,Sem.run_bind,Sem.run_pure,Result.andThen_ok,e,List.foldl_cons]
     exact ih _
 have :=key zs z
 simp[builtin,Builtin.min_,this,hr]
def mmE (b:Builtin) (cs:List CV):Option CV:=match cs with
 | .int k z::r=>match O6_ k r with
   |some zs=>match b with
     | .min=>some (.int k (zs.foldl min z))
     | .max=>some (.int k (zs.foldl max z))
     |_=>none
   |none=>none
 |_=>none
theorem y_mm {b:Builtin} {xs:List Operand} {ats:Array TypeId} {cs:List CV} {c:CV} (hx:VRs β cs (evs F xs)) (h:mmE b cs=some c):Yl P N F H L β (.call ⟨.builtin b,xs.toArray,ats⟩) ty c:=by
 unfold mmE at h
 split at h
 . rename_i k z r
   split at h
   . rename_i zs hz
     obtain⟨v,us,e,h1,h2⟩:=hx.cons_inv
     simp only[VR] at h1;subst h1
     have e2:=L6_ hz h2
     subst e2
     split at h
     simp only[Option.some.injEq] at h;subst h
     exact⟨_,rfl,lo_minN zs e Y⟩
     simp only[Option.some.injEq] at h;subst h
     exact⟨_,rfl,lo_maxN zs e Y⟩
     . cases h
   . cases h
 . cases h
end Go.CE
namespace Go.CE
open Go.SW
variable {P:Program} {N:SW.Rest} {F:Fr} {H:Hp} {L:Ls} {ty T T':TypeId} {x y z:Operand} {β:Be} {f:Fe}
def onE (f:Fe):Option Operand->Option (Option Nat)
 |none=>some none
 |some x=>match ef f x with
   |some c=>match natE c with
     |some n=>some (some n)
     |none=>none
   |none=>none
def Bd (l:Option Nat) (v:Option Value):Prop:=match l with
 |none=>v=none
 |some n=>∃ k,v=some (.int k (n:Int))
theorem Py_ (hf:FR β f F) {o:Option Operand} {l:Option Nat} (h:onE f o=some l):Bd l (o.map (ev F)):=by
 unfold onE at h
 split at h
 simp only[Option.some.injEq] at h;subst h;rfl
 . split at h
   . rename_i c hc
     split at h
     . rename_i n hn
       simp only[Option.some.injEq] at h;subst h
       obtain⟨k,e⟩:=Dk_ hn (M_ hf hc)
       exact⟨k,by simp[e]⟩
     . cases h
   . cases h
def bdE (len cap:Nat) (lo hi mx:Option Nat):Option (Nat×Nat×Nat):=
 match mx with
 |none=>match hi with
   |none=>bif Nat.ble (lo.getD 0) len then some (lo.getD 0,len,cap) else none
   |some h=>bif Nat.ble h cap&&Nat.ble (lo.getD 0) h then some (lo.getD 0,h,cap) else none
 |some m=>match hi with
   |none=>none
   |some h=>bif Nat.ble m cap&&(Nat.ble h m&&Nat.ble (lo.getD 0) h) then some (lo.getD 0,h,m) else none
theorem Hh_ {i y:Nat} {k:IntKind} {c:BoundsCode} (h:i<=y) (w:World):(Instr.sliceBound (.int k (i:Int)) y c).run P w = .ok i w:=by
 have h2:((i:Nat):Int)<=(y:Int):=by omega
 simp[Instr.sliceBound,asIntOf,h]
theorem run_lo {lo:Option Nat} {a:Option Value} {y mm:Nat} {cd:BoundsCode} {w:World}:Bd lo a->lo.getD 0<=y->((match a with
     |some v=>do
       let l <- Instr.sliceBound v y cd
       pure (l,y,mm)
     |none=>do
       let l <- pure 0
       pure (l,y,mm)):Sem (Nat×Nat×Nat)).run P w = .ok (lo.getD 0,y,mm) w:=by
 intro h1 hy
 cases lo with
 |none=>simp only[Bd] at h1;subst h1;simp
 |some n=>
   obtain⟨k,rfl⟩:=h1
   have hn:n<=y:=hy
   simp[Hh_ (P:=P) (k:=k) (c:=cd) hn w]
theorem H0_ {len cap:Nat} {lo hi mx:Option Nat} {a b c:Option Value} {l h m:Nat} (he:bdE len cap lo hi mx=some (l,h,m)) (h1:Bd lo a) (h2:Bd hi b) (h3:Bd mx c) (q:Bool) (w:World):(Instr.sliceBounds q len cap a b c).run P w = .ok (l,h,m) w:=by
 unfold bdE at he
 split at he
 . simp only[Bd] at h3;subst h3
   split at he
   . simp only[Bd] at h2;subst h2
     cases hb:Nat.ble (lo.getD 0) len with
     |false=>rw[hb] at he;cases he
     |true=>
       rw[hb] at he
       simp only[cond_true,Option.some.injEq,Prod.mk.injEq] at he
       obtain⟨rfl,rfl,rfl⟩:=he
       have hy:lo.getD 0<=len:=Nat.le_of_ble_eq_true hb
       simp only[Instr.sliceBounds,Sem.run_bind,Sem.run_pure,Result.andThen_ok]
       cases lo with
       |none=>simp only[Bd] at h1;subst h1;simp
       |some n=>
         obtain⟨k1,rfl⟩:=h1
         have hn:n<=len:=hy
         simp[Hh_ (P:=P) (k:=k1) hn w]
   . rename_i hh
     obtain⟨k,rfl⟩:=h2
     cases hb:(Nat.ble hh cap&&Nat.ble (lo.getD 0) hh) with
     |false=>rw[hb] at he;cases he
     |true=>
       rw[hb] at he
       simp only[Bool.and_eq_true] at hb
       simp only[cond_true,Option.some.injEq,Prod.mk.injEq] at he
       obtain⟨rfl,rfl,rfl⟩:=he
       have e1:=Hh_ (P:=P) (k:=k) (c:=if q then .sliceAcap else .sliceAlen) (Nat.le_of_ble_eq_true hb.1) w
       have hy:lo.getD 0<=hh:=Nat.le_of_ble_eq_true hb.2
       simp only[Instr.sliceBounds,Sem.run_bind,Sem.run_pure,Result.andThen_ok,e1]
       cases lo with
       |none=>simp only[Bd] at h1;subst h1;simp
       |some n=>
         obtain⟨k1,rfl⟩:=h1
         have hn:n<=hh:=hy
         simp[Hh_ (P:=P) (k:=k1) hn w]
 . rename_i mm
   obtain⟨k3,rfl⟩:=h3
   split at he
   . cases he
   . rename_i hh
     obtain⟨k,rfl⟩:=h2
     cases hb:(Nat.ble mm cap&&(Nat.ble hh mm&&Nat.ble (lo.getD 0) hh)) with
     |false=>rw[hb] at he;cases he
     |true=>
       rw[hb] at he
       simp only[Bool.and_eq_true] at hb
       simp only[cond_true,Option.some.injEq,Prod.mk.injEq] at he
       obtain⟨rfl,rfl,rfl⟩:=he
       have e0:=Hh_ (P:=P) (k:=k3) (c:=if q then .slice3Acap else .slice3Alen) (Nat.le_of_ble_eq_true hb.1) w
       have e1:=Hh_ (P:=P) (k:=k) (c:= .slice3B) (Nat.le_of_ble_eq_true hb.2.1) w
       have hy:lo.getD 0<=hh:=Nat.le_of_ble_eq_true hb.2.2
       simp only[Instr.sliceBounds,Sem.run_bind,Sem.run_pure,Result.andThen_ok,e1,e0]
       cases lo with
       |none=>simp only[Bd] at h1;subst h1;simp
       |some n=>
         obtain⟨k1,rfl⟩:=h1
         have hn:n<=hh:=hy
         simp[Hh_ (P:=P) (k:=k1) hn w]
theorem Lq_ {len cap:Nat} {lo hi mx:Option Nat} {l h m:Nat} (hc:len<=cap) (he:bdE len cap lo hi mx=some (l,h,m)):l<=h/\h<=m/\m<=cap:=by
 unfold bdE at he
 split at he
 . split at he
   . cases hb:Nat.ble (lo.getD 0) len with
     |false=>rw[hb] at he;cases he
     |true=>rw[hb] at he;simp only[cond_true,Option.some.injEq,Prod.mk.injEq] at he;obtain⟨rfl,rfl,rfl⟩:=he;have :=Nat.le_of_ble_eq_true hb;omega
   . rename_i hh
     cases hb:(Nat.ble hh cap&&Nat.ble (lo.getD 0) hh) with
     |false=>rw[hb] at he;cases he
     |true=>rw[hb] at he;simp only[cond_true,Option.some.injEq,Prod.mk.injEq] at he;obtain⟨rfl,rfl,rfl⟩:=he;simp only[Bool.and_eq_true] at hb;have :=Nat.le_of_ble_eq_true hb.1;have :=Nat.le_of_ble_eq_true hb.2;omega
 . rename_i mm
   split at he
   . cases he
   . rename_i hh
     cases hb:(Nat.ble mm cap&&(Nat.ble hh mm&&Nat.ble (lo.getD 0) hh)) with
     |false=>rw[hb] at he;cases he
     |true=>rw[hb] at he;simp only[cond_true,Option.some.injEq,Prod.mk.injEq] at he;obtain⟨rfl,rfl,rfl⟩:=he;simp only[Bool.and_eq_true] at hb;have :=Nat.le_of_ble_eq_true hb.1;have :=Nat.le_of_ble_eq_true hb.2.1;have :=Nat.le_of_ble_eq_true hb.2.2;omega
def slE (P:Program) (T:TypeId) (a:CV) (lo hi mx:Option Nat):Option CV:=match P.underlying T with
 |some .string=>match a with
   | .str n s=>match mx with
     |none=>match bdE n n lo hi none with
       |some (l,h,_)=>some (.str (h-l) (s/256 ^ l%256 ^ (h-l)))
       |none=>none
     |some _=>none
   |_=>none
 |some (.slice e)=>match szE P e with
   |some k=>match a with
     | .sl i o len cap=>bif Nat.ble len cap then (match bdE len cap lo hi mx with
       |some (l,h,m)=>some (.sl i (bif Nat.beq m l then o else o+l*k) (h-l) (m-l))
       |none=>none) else none
     | .slu i o len k'=>bif Nat.beq k k' then (match mx with
       |none=>match bdE len len lo hi none with
         |some (l,h,_)=>some (.slu i (o+l*k) (h-l) k)
         |none=>none
       |some m=>match bdE len len lo hi (some m) with
         |some (l,h,m)=>bif Nat.beq m l then none else some (.sl i (o+l*k) (h-l) (m-l))
         |none=>none) else none
     | .nils=>match bdE 0 0 lo hi mx with
       |some _=>some .nils
       |none=>none
     |_=>none
   |none=>none
 |some (.array n e)=>match szE P e with
   |some k=>match a with
     | .ptr i o=>match bdE n n lo hi mx with
       |some (l,h,m)=>some (.sl i (bif Nat.beq m l then o else o+l*k) (h-l) (m-l))
       |none=>none
     |_=>none
   |none=>none
 |_=>none
theorem if_beq {m l o k:Nat} {b:Nat}:(if m=l then (⟨b,o,none⟩:Addr) else (⟨b,o,none⟩:Addr).add (l*k))=⟨b,bif Nat.beq m l then o else o+l*k,none⟩:=by
 by_cases h:m=l;subst h;simp;have :Nat.beq m l=false:=Fs_ h;simp[h,this,J_]
theorem Rd_ {len cap:Nat} {lo hi:Option Nat} {l h m:Nat} (hc:len<=cap) (he:bdE len len lo hi none=some (l,h,m)):bdE len cap lo hi none=some (l,h,cap)/\h<=len:=by
 unfold bdE at he ⊢;simp only at he ⊢
 split at he
 . cases hb:Nat.ble (lo.getD 0) len with
   |false=>rw[hb] at he;cases he
   |true=>rw[hb] at he;simp only[cond_true,Option.some.injEq,Prod.mk.injEq] at he;obtain⟨rfl,rfl,rfl⟩:=he;simp
 . rename_i hh
   cases hb:(Nat.ble hh len&&Nat.ble (lo.getD 0) hh) with
   |false=>rw[hb] at he;cases he
   |true=>
     rw[hb] at he;simp only[cond_true,Option.some.injEq,Prod.mk.injEq] at he;obtain⟨rfl,rfl,rfl⟩:=he
     simp only[Bool.and_eq_true] at hb
     have h1:=Nat.le_of_ble_eq_true hb.1
     have :Nat.ble hh cap=true:=Nat.ble_eq_true_of_le xI
     simp[this,hb.2];exact h1
theorem N3_ {len cap:Nat} {lo hi:Option Nat} {l h m m0:Nat} (hc:len<=cap) (he:bdE len len lo hi (some m0)=some (l,h,m)):bdE len cap lo hi (some m0)=some (l,h,m)/\m<=len/\m=m0:=by
 unfold bdE at he ⊢;simp only at he ⊢
 split at he
 . cases he
 . rename_i hh
   cases hb:(Nat.ble m0 len&&(Nat.ble hh m0&&Nat.ble (lo.getD 0) hh)) with
   |false=>rw[hb] at he;cases he
   |true=>
     rw[hb] at he;simp only[cond_true,Option.some.injEq,Prod.mk.injEq] at he;obtain⟨rfl,rfl,rfl⟩:=he
     simp only[Bool.and_eq_true] at hb
     have h1:=Nat.le_of_ble_eq_true hb.1
     have :Nat.ble m0 cap=true:=Nat.ble_eq_true_of_le xI
     simp[this,hb.2.1,hb.2.2];exact h1
theorem y_sl {lo hi mx:Option Operand} {l0 h0 m0:Option Nat} {a c:CV} (hf:FR β f F) (hx:VR β a (ev F x)) (h1:onE f lo=some l0) (h2:onE f hi=some h0) (h3:onE f mx=some m0) (h:slE P T a l0 h0 m0=some c):Yl P N F H L β (.slice T x lo hi mx) ty c:=by
 have b1:=Py_ hf h1;have b2:=Py_ hf h2;have b3:=Py_ hf h3;unfold slE at h
 split at h
 . rename_i hT
   split at h
   . rename_i n s
     simp only[VR] at hx
     split at h
     . split at h
       . rename_i l hh mm hb
         simp only[Option.some.injEq] at h;subst h
         obtain⟨e1,e2,e3⟩:=Lq_ (Nat.le_refl _) hb
         refine⟨_,⟨Nat.mod_lt _ (Nat.pow_pos xI),rfl⟩,λ_ _ _ _ w _=>?_⟩
         have hr:=H0_ (P:=P) hb b1 b2 (show Bd none none from rfl) false w
         have hm:mx.map (ev F)=none:=b3
         have hs:(⟨(dec n s).toArray⟩:ByteArray).size=n:=by rw[Cr_,B_]
         have key:(⟨(dec n s).toArray⟩:ByteArray).extract l hh=⟨(dec (hh-l) (s/256 ^ l%256 ^ (hh-l))).toArray⟩:=by
           rw[Eb_,De_ l n s xI,Cj_ (hh-l) (n-l) _ xI]
         have ex:ev F x = .string ⟨(dec n s).toArray⟩:=hx.2
         simp only[execOp,Instr.sliceAt,Instr.slice,ex,run_underlying hT,Sem.run_bind,Result.andThen_ok,hm,hs,hr,Sem.run_pure,key,Option.isSome_none,Bool.false_eq_true,if_false]
         rfl
       . cases h
     . cases h
   . cases h
 . rename_i e hT
   split at h
   . rename_i k hk
     split at h
     . rename_i i o len cap
       simp only[VR] at hx;obtain⟨q,hq,ex⟩:=hx
       cases hlc:Nat.ble len cap with
       |false=>rw[hlc] at h;cases h
       |true=>
         rw[hlc] at h
         simp only[cond_true] at h
         split at h
         . rename_i l hh mm hb
           simp only[Option.some.injEq] at h;subst h
           refine⟨_,by simp only[VR];exact⟨q,hq,rfl⟩,λ_ _ _ _ w _=>?_⟩
           have hr:=H0_ (P:=P) hb b1 b2 b3 true w
           simp only[execOp,Instr.sliceAt,Instr.slice,ex,run_underlying hT,Sem.run_bind,Result.andThen_ok,hr,Sem.run_pure,As_ hk w,Option.map_some]
           congr 4
           by_cases hml:mm=l
           . subst hml;simp
           . exact zO
         . cases h
     . rename_i i o len k'
       simp only[VR] at hx;obtain⟨q,cc,aa,hq,hroom,hle,ex,hae⟩:=hx
       cases hkk:Nat.beq k k' with
       |false=>rw[hkk] at h;cases h
       |true=>
       rw[hkk] at h
       have :=Nat.eq_of_beq_eq_true hkk
       subst this
       simp only[cond_true] at h
       split at h
       . split at h
         . rename_i l hh mm hb
           simp only[Option.some.injEq] at h;subst h
           obtain⟨hb2,hl⟩:=Rd_ hle hb
           obtain⟨e1,e2,e3⟩:=Lq_ hle hb2
           refine ⟨_,by
             simp only[VR]
             refine⟨q,cc-l,if cc=l then aa else aa.add (l*k),hq,?_,by omega,rfl,λh0=>?_⟩
             . have :cc*k=l*k+(cc-l)*k:=by rw[<- Nat.add_mul];congr 1;omega
               omega
             . rw[if_neg xI,hae xI,J_,Nat.add_assoc],λ_ _ _ _ w _=>?_⟩
           have hr:=H0_ (P:=P) hb2 b1 b2 b3 true w
           simp only[execOp,Instr.sliceAt,Instr.slice,ex,run_underlying hT,Sem.run_bind,Result.andThen_ok,hr,Sem.run_pure,As_ hk w,Option.map_some]
           congr 3
           split<;>rfl
         . cases h
       . split at h
         . rename_i m00 _ l hh mm hb
           obtain⟨hb2,hl,_⟩:=N3_ hle hb
           obtain⟨e1,e2,e3⟩:=Lq_ hle hb2
           cases hml:Nat.beq mm l with
           |true=>rw[hml] at h;cases h
           |false=>
             rw[hml] at h
             simp only[cond_false,Option.some.injEq] at h;subst h
             have hne:=Nat.ne_of_beq_eq_false hml
             have ha:=hae xI
             subst ha
             refine⟨_,by simp only[VR];exact⟨q,hq,rfl⟩,λ_ _ _ _ w _=>?_⟩
             have hr:=H0_ (P:=P) hb2 b1 b2 b3 true w
             simp only[execOp,Instr.sliceAt,Instr.slice,ex,run_underlying hT,Sem.run_bind,Result.andThen_ok,hr,Sem.run_pure,As_ hk w,Option.map_some]
             simp[hne,J_,Nat.add_assoc]
         . cases h
     . simp only[VR] at hx
       split at h
       . rename_i l hb
         obtain⟨l,hh,mm⟩:=l
         simp only[Option.some.injEq] at h;subst h
         obtain⟨e1,e2,e3⟩:=Lq_ (Nat.le_refl _) hb
         have l0:l=0:=by omega
         have l1:hh=0:=by omega
         have l2:mm=0:=by omega
         subst l0;subst l1;subst l2
         refine⟨_,rfl,λ_ _ _ _ w _=>?_⟩
         have hr:=H0_ (P:=P) hb b1 b2 b3 true w
         simp[execOp,Instr.sliceAt,Instr.slice,hx,run_underlying hT,hr,As_ hk w]
       . cases h
     . cases h
   . cases h
 . rename_i n e hT
   split at h
   . rename_i k hk
     split at h
     . rename_i i o
       simp only[VR] at hx;obtain⟨q,hq,ex⟩:=hx
       split at h
       . rename_i l hh mm hb
         simp only[Option.some.injEq] at h;subst h
         refine⟨_,by simp only[VR];exact⟨q,hq,rfl⟩,λ_ _ _ _ w _=>?_⟩
         have hr:=H0_ (P:=P) hb b1 b2 b3 false w
         simp only[execOp,Instr.sliceAt,Instr.sureAddr,ex,run_underlying hT,Sem.run_bind,Result.andThen_ok,hr,Sem.run_pure,As_ hk w]
         congr 4
         by_cases hml:mm=l
         subst hml;simp
         exact zO
       . cases h
     . cases h
   . cases h
 . cases h
end Go.CE
namespace Go.CE
open Go.SW
noncomputable section
variable {P:Program} {n:Nat} {N:SW.Rest} {F:Fr} {H:Hp} {L:Ls} {ty T T':TypeId} {x y z:Operand} {β:Be} {f:Fe} {h:He} {nx:Nat}
abbrev Gt:=List (Nat×List CV)
def gbE:Gt->Nat->Option (List CV)
 |[],_=>none
 |(a,cs)::r,g=>bif Nat.beq a g then some cs else gbE r g
structure GH (G:Gt) (H:Hp):Prop where
 h:∀ g cs,gbE G g=some cs->∃ vs T fr,H g=some (.cells vs T fr)/\∀ β,VRs β cs vs.toList
theorem N6_ {cs:List CV} {vs:List Value} {s:Nat} (hv:VRs β cs ((vs.drop s).take cs.length)) {o:Nat} {c:CV} (hc:cs[o]? = some c):∃ v,vs[s+o]? = some v/\VR β c v:=by
 obtain⟨v,e,h1⟩:=hv.get hc;have hlt:o<cs.length:=(List.getElem?_eq_some_iff.1 hc).1;rw[List.getElem?_take,if_pos hlt,List.getElem?_drop] at e;exact⟨v,e,h1⟩
theorem Fw_ {vs:List Value} {s m o k:Nat} (hm:o+k<=m):(((vs.drop s).take m).drop o).take k=sub vs (s+o) k:=by
 unfold sub;rw[List.drop_take,List.take_take,List.drop_drop,Nat.min_eq_left xI]
def u8s (n x:Nat):List CV:=match n with
 |0=>[]
 |n+1=> .int .u8 ((x%256:Nat):Int)::u8s n (x/256)
theorem T9_:∀ (n x:Nat),VRs β (u8s n x) ((dec n x).map u8v)
 |0,_=> .nil
 |n+1,x=>by
   simp only[u8s,dec,List.map_cons]
   refine .cons ?_ (T9_ n _)
   simp only[VR,u8v]
   simp
theorem Np_:∀ (n x:Nat),(u8s n x).length=n
 |0,_=>rfl
 |n+1,x=>by simp[u8s,Np_ n]
def ldE (P:Program) (G:Gt) (h:He) (T:TypeId) (a:CV):Option CV:=match agE P T with
 |some true=>match szE P T with
   |some k=>match a with
     | .ptr i o=>match h.get i with
       |some (.cells _ cs _)=>bif Nat.ble (o+k) cs.length then some (.agg ((cs.drop o).take k)) else none
       |some (.bys _ m z _)=>bif Nat.ble (o+k) m then some (.agg (u8s k (z/256 ^ o%256 ^ k))) else none
       |_=>none
     |_=>none
   |none=>none
 |some false=>match a with
   | .ptr i o=>match h.get i with
     |some (.cells _ cs _)=>cs[o]?
     |some (.bys _ m z _)=>bif Nat.blt o m then some (.int .u8 ((z/256 ^ o%256:Nat):Int)) else none
     |some (.rob _ m z)=>bif Nat.blt o m then some (.int .u8 ((z/256 ^ o%256:Nat):Int)) else none
     |_=>none
   | .gp g o=>match gbE G g with
     |some cs=>cs[o]?
     |none=>none
   |_=>none
 |none=>none
theorem y_ld {G:Gt} {a c:CV} (hG:GH G H) (hh:HR β h nx L) (hx:VR β a (ev F x)) (he:ldE P G h T a=some c):Yl P N F H L β (.load T x) ty c:=by
 unfold ldE at he
 split at he
 . rename_i hg
   split at he
   . rename_i k hk
     split at he
     . rename_i i o
       simp only[VR] at hx;obtain⟨q,hq,ex⟩:=hx
       split at he
       . rename_i T0 cs gr hi
         cases hb:Nat.ble (o+k) cs.length with
         |false=>rw[hb] at he;cases he
         |true=>
           rw[hb] at he
           have hle:=Nat.le_of_ble_eq_true hb
           simp only[cond_true,Option.some.injEq] at he;subst he
           obtain⟨q',vs,h1,h2,h3,h4,_,h6,_⟩:=hh.br i _ hi
           rw[hq] at h1;cases h1
           have hs:sub vs (q.s+o) k=(((vs.drop q.s).take cs.length).drop o).take k:=(Fw_ hle).symm
           refine⟨.agg (sub vs (q.s+o) k).toArray,?_,Ga_ ex (Em_ hg) (As_ hk) h2 Y ?_⟩
           . simp only[VR];rw[hs];exact⟨_,rfl,(h6.drop o).take k⟩
           . simp[sub];omega
       . rename_i T0 m zz gr hi
         cases hb:Nat.ble (o+k) m with
         |false=>rw[hb] at he;cases he
         |true=>
           rw[hb] at he
           have hle:=Nat.le_of_ble_eq_true hb
           simp only[cond_true,Option.some.injEq] at he;subst he
           obtain⟨q',vs,h1,h2,h3,h4,_,_,h6,_⟩:=hh.br i _ hi
           rw[hq] at h1;cases h1
           have hs:sub vs (q.s+o) k=(((vs.drop q.s).take m).drop o).take k:=(Fw_ hle).symm
           refine⟨.agg (sub vs (q.s+o) k).toArray,?_,Ga_ ex (Em_ hg) (As_ hk) h2 Y ?_⟩
           . simp only[VR];rw[hs,h6,<- List.map_drop,<- List.map_take,De_ o m zz xI,Cj_ k (m-o) _ xI]
             exact⟨_,rfl,T9_ _ _⟩
           . simp[sub];omega
       . cases he
     . cases he
   . cases he
 . rename_i hg
   split at he
   . rename_i i o
     simp only[VR] at hx;obtain⟨q,hq,ex⟩:=hx
     split at he
     . rename_i T0 cs gr hi
       obtain⟨q',vs,h1,h2,h3,h4,_,h6,_⟩:=hh.br i _ hi
       rw[hq] at h1;cases h1
       obtain⟨v,e,hv⟩:=N6_ h6 he
       exact⟨v,hv,Bu_ ex (Em_ hg) h2 e⟩
     . rename_i T0 m zz gr hi
       cases hb:Nat.blt o m with
       |false=>rw[hb] at he;cases he
       |true=>
         rw[hb] at he
         have hlt:=B4_ hb
         simp only[cond_true,Option.some.injEq] at he;subst he
         obtain⟨q',vs,h1,h2,h3,h4,_,_,h6,_⟩:=hh.br i _ hi
         rw[hq] at h1;cases h1
         have e:vs[q.s+o]? = some (u8v (UInt8.ofNat (zz/256 ^ o%256))):=by
           have :=congrArg (λl:List Value=>l[o]?) h6
           simp only[List.getElem?_map,Gp_ m zz o hlt,Option.map_some] at this
           rw[List.getElem?_take,if_pos hlt,List.getElem?_drop] at this
           exact this
         refine⟨_,?_,Bu_ ex (Em_ hg) h2 e⟩
         simp only[VR,u8v];simp
     . rename_i T0 m zz hi
       cases hb:Nat.blt o m with
       |false=>rw[hb] at he;cases he
       |true=>
         rw[hb] at he
         have hlt:=B4_ hb
         simp only[cond_true,Option.some.injEq] at he;subst he
         obtain⟨q',vs,fr,h1,h2,h3,h4,h6⟩:=hh.br i _ hi
         rw[hq] at h1;cases h1
         have e:vs[o]? = some (u8v (UInt8.ofNat (zz/256 ^ o%256))):=by
           have :=congrArg (λl:List Value=>l[o]?) h6
           simp only[List.getElem?_map,Gp_ m zz o hlt,Option.map_some] at this
           rw[List.getElem?_take,if_pos hlt] at this
           exact yZ
         rw[h3,Nat.zero_add] at ex
         refine⟨u8v (UInt8.ofNat (zz/256 ^ o%256)),?_,λd pos af g w hm=>?_⟩
         . simp only[VR,u8v];simp
         . have hc:w.cell? ⟨q.b,o,none⟩=some (u8v (UInt8.ofNat (zz/256 ^ o%256))):=by simp[World.cell?,hm.l i q.b _ h2,e]
           simp[execOp,Instr.loadAt,ex,Instr.sureAddr,loadVar,Em_ hg w,hc]
     . cases he
   . rename_i g o
     simp only[VR] at hx
     split at he
     . rename_i cs hg2
       obtain⟨vs,T0,fr,h1,h2⟩:=hG.h g cs hg2
       obtain⟨v,e,hv⟩:=(h2 β).get he
       exact⟨v,hv,Ma_ hx (Em_ hg) h1 (by simpa using e)⟩
     . cases he
   . cases he
 . cases he
def b2sE (P:Program) (h:He) (T T':TypeId) (a:CV):Option CV:=match P.underlying T with
 |some (.slice e)=>match P.underlying T' with
   |some .string=>match P.underlying e with
     |some (.int .u8)=>match a with
       | .sl i o len _=>match h.get i with
         |some (.bys _ m z _)=>bif Nat.ble (o+len) m then some (.str len (z/256 ^ o%256 ^ len)) else none
         |_=>none
       | .slu i o len _=>match h.get i with
         |some (.bys _ m z _)=>bif Nat.ble (o+len) m&&Nat.blt 0 len then some (.str len (z/256 ^ o%256 ^ len)) else none
         |_=>none
       | .nils=>some (.str 0 0)
       |_=>none
     |_=>none
   |_=>none
 |_=>none
theorem lo_b2sG {e b o cap i T2:Nat} (l:Bs) {vs:List Value} (hx:ev F x = .slice (some ⟨b,o,none⟩) l.length cap) (hT:P.underlying T=some (.slice e)) (hT':P.underlying T'=some .string) (he:P.underlying e=some (.int .u8)) (hi:L i=some (b,bx T2 vs)) (hz:sub vs o l.length=l.map u8v) :
   Lo P N (.convert T T' x) ty F H L (SW.str l):=λd pos af g w hm=>by
 have :=run_convert_bytes_back (P:=P) w T T' e ⟨b,o,none⟩ cap l hT he hT' (λj hj=>by
   rw[J_]
   refine hm.cellL hi ?_
   have e1:=congrArg (λl:List Value=>l[j]?) hz
   simp only[sub,List.getElem?_take,if_pos hj,List.getElem?_drop] at e1
   rw[e1]
   simp[hj,u8v])
 simp[execOp,hx,this,SW.str]
theorem Sl_ {e:TypeId} (hT:P.underlying T=some (.slice e)) (hT':P.underlying T'=some .string) (he:P.underlying e=some (.int .u8)) (w:World):(convert T T' (.slice none 0 0)).run P w = .ok (SW.str []) w:=by
 simp[convert,run_underlying hT,run_underlying hT',run_underlying he,Conv.bytesToString,SW.str];rfl
theorem y_b2s {a c:CV} (hh:HR β h nx L) (hx:VR β a (ev F x)) (he:b2sE P h T T' a=some c):Yl P N F H L β (.convert T T' x) ty c:=by
 have key:∀ {i o len m zz T0:Nat} {gr:Bool} {q:Pl} {cap:Nat},β i=some q->h.get i=some (.bys T0 m zz gr)->Nat.ble (o+len) m=true->∀ {e:TypeId},P.underlying T=some (.slice e)->P.underlying T'=some .string->P.underlying e=some (.int .u8) ->
     ev F x = .slice (some ⟨q.b,q.s+o,none⟩) len cap->Yl P N F H L β (.convert T T' x) ty (.str len (zz/256 ^ o%256 ^ len)):=by
   intro i o len m zz T0 gr q cap hq hi hb e hT hT' hu ex
   have hle:=Nat.le_of_ble_eq_true hb
   obtain⟨q',vs,h1,h2,h3,h4,_,_,h6,_⟩:=hh.br i _ hi
   rw[hq] at h1;cases h1
   refine⟨_,⟨Nat.mod_lt _ (Nat.pow_pos xI),rfl⟩,lo_b2sG (dec len (zz/256 ^ o%256 ^ len)) (by rw[B_];exact ex) hT hT' hu h2 ?_⟩
   rw[B_,<- Fw_ (m:=m) hle,h6,<- List.map_drop,<- List.map_take,De_ o m zz xI,Cj_ len (m-o) _ xI]
 unfold b2sE at he
 split at he
 . rename_i e hT
   split at he
   . rename_i hT'
     split at he
     . rename_i hu
       split at he
       . rename_i i o len cap
         simp only[VR] at hx;obtain⟨q,hq,ex⟩:=hx
         split at he
         . rename_i T0 m zz gr hi
           cases hb:Nat.ble (o+len) m with
           |false=>rw[hb] at he;cases he
           |true=>
             rw[hb] at he
             simp only[cond_true,Option.some.injEq] at he;subst he
             exact key hq hi hb hT hT' hu ex
         . cases he
       . rename_i i o len k
         simp only[VR] at hx;obtain⟨q,cc,aa,hq,_,hle,ex,ha⟩:=hx
         split at he
         . rename_i T0 m zz gr hi
           cases hb:(Nat.ble (o+len) m&&Nat.blt 0 len) with
           |false=>rw[hb] at he;cases he
           |true=>
             rw[hb] at he
             simp only[Bool.and_eq_true] at hb
             simp only[cond_true,Option.some.injEq] at he;subst he
             have :=B4_ hb.2
             have ha:=ha xI;subst ha
             exact key hq hi hb.1 hT hT' hu ex
         . cases he
       simp only[VR] at hx
       simp only[Option.some.injEq] at he;subst he
       refine⟨SW.str [],by simp only[VR];exact⟨by simp,rfl⟩,λ_ _ _ _ w _=>?_⟩
       simp[execOp,hx,Sl_ hT hT' hu w]
       . cases he
     . cases he
   . cases he
 . cases he
end
end Go.CE
namespace Go.CE
open Go.SW
noncomputable section
variable {P:Program} {n:Nat} {N:SW.Rest} {F:Fr} {H:Hp} {L:Ls} {ty T T':TypeId} {x y z:Operand} {β:Be} {f:Fe} {h:He} {nx:Nat}
structure Post (β:Be) (h:He) (nx:Nat) (L:Ls) (β':Be) (h':He) (nx':Nat) (L':Ls):Prop where
 le:β.le β'
 nle:nx<=nx'
 hr:HR β' h' nx' L'
 fr:∀ i,i<nx->h.get i=none->L' i=L i/\β' i=β i/\h'.get i=none
theorem Post.refl (hr:HR β h nx L):Post β h nx L β h nx L:=⟨.refl _,Nat.le_refl _,hr,λ_ _ e=>⟨rfl,rfl,e⟩⟩
theorem Post.trans {β' β'':Be} {h' h'':He} {nx' nx'':Nat} {L' L'':Ls} (a:Post β h nx L β' h' nx' L') (b:Post β' h' nx' L' β'' h'' nx'' L''):Post β h nx L β'' h'' nx'' L'':=
 ⟨a.le.trans b.le,Nat.le_trans a.nle b.nle,b.hr,λi hi e=>by
   obtain⟨a1,a2,a3⟩:=a.fr i hi e
   obtain⟨b1,b2,b3⟩:=b.fr i (Nat.lt_of_lt_of_le hi a.nle) a3
   exact⟨b1.trans a1,b2.trans a2,b3⟩⟩
def bset (β:Be) (i:Nat) (q:Pl):Be:=λj=>if j=i then some q else β j
theorem Bq_ {i:Nat} {q:Pl} (h:β i=none):β.le (bset β i q):=λj p e=>by
 unfold bset;split
 . rename_i e';subst e';rw[h] at e;cases e
 . exact e
theorem I_ {i:Nat} {q:Pl}:bset β i q i=some q:=by simp[bset]
theorem Post.new {h':He} {hb:HB} {q:Pl} {x:Option (Nat×Obj)} (hr:HR β h nx L) (h1:h'.get nx=some hb) (h2:∀ j,j≠nx->h'.get j=h.get j) (hB:BR (bset β nx q) nx hb x):Post β h nx L (bset β nx q) h' (nx+1) (lupd L nx x):=by
 have h0:=(hr.fr nx (Nat.le_refl _)).1;refine⟨Bq_ h0,Nat.le_succ _,⟨λi b e=>?_,λi b e=>?_,λi hi=>?_⟩,λi hi e=>?_⟩;by_cases e':i=nx
 . subst e';rw[h1] at e;cases e;rw[E_];exact hB
 rw[h2 i e'] at e;rw[C_ _ _ _ _ e'];exact (hr.br i b e).mono (Bq_ h0);by_cases e':i=nx;omega;rw[h2 i e'] at e;have :=hr.lt i b e;omega;have e':i≠nx:=by omega
 rw[C_ _ _ _ _ e'];have :=hr.fr i xI;exact⟨by unfold bset;rw[if_neg e'];exact this.1,this.2⟩;have e':i≠nx:=by omega
 rw[C_ _ _ _ _ e',h2 i e'];exact⟨rfl,by unfold bset;rw[if_neg e'],e⟩
theorem Post.set {h':He} {i:Nat} {hb hb0:HB} {x:Option (Nat×Obj)} (hr:HR β h nx L) (h0:h.get i=some hb0) (h1:h'.get i=some hb) (h2:∀ j,j≠i->h'.get j=h.get j) (hB:BR β i hb x):Post β h nx L β h' nx (lupd L i x):=by
 have hlt:=hr.lt i _ h0;refine⟨.refl _,Nat.le_refl _,⟨λj b e=>?_,λj b e=>?_,λj hj=>?_⟩,λj hj e=>?_⟩;by_cases e':j=i
 . subst e';rw[h1] at e;cases e;rw[E_];exact hB
 rw[h2 j e'] at e;rw[C_ _ _ _ _ e'];exact hr.br j b e;by_cases e':j=i;subst e';exact hlt;rw[h2 j e'] at e;exact hr.lt j b e;have e':j≠i:=by omega
 rw[C_ _ _ _ _ e'];exact hr.fr j hj;have e':j≠i:=λq=>by subst q;rw[h0] at e;cases e
 rw[C_ _ _ _ _ e',h2 j e'];exact⟨rfl,rfl,e⟩
def pkE:List CV->Option (Nat×Nat)
 |[]=>some (0,0)
 | .int .u8 (.ofNat z)::r=>bif Nat.blt z 256 then (match pkE r with
   |some (n,x)=>some (n+1,z+256*x)
   |none=>none) else none
 |_::_=>none
theorem Mn_:∀ {cs:List CV} {m x:Nat} {vs:List Value},pkE cs=some (m,x)->VRs β cs vs->vs=(dec m x).map u8v/\x<256 ^ m
 |[],m,x,vs,e,hv=>by simp only[pkE,Option.some.injEq,Prod.mk.injEq] at e;obtain⟨rfl,rfl⟩:=e;rw[hv.nil_inv];exact⟨rfl,by simp⟩
 |c::r,m,x,vs,e,hv=>by
   obtain⟨v,us,rfl,h1,h2⟩:=hv.cons_inv
   unfold pkE at e
   split at e
   . rename_i e0;cases e0
   . rename_i z r' e0
     cases e0
     cases hb:Nat.blt z 256 with
     |false=>rw[hb] at e;cases e
     |true=>
       rw[hb] at e
       have hlt:=B4_ hb
       simp only[cond_true] at e
       split at e
       . rename_i m' x' hr
         simp only[Option.some.injEq,Prod.mk.injEq] at e;obtain⟨rfl,rfl⟩:=e
         obtain⟨e1,e2⟩:=Mn_ hr h2
         simp only[VR] at h1;subst h1
         have a1:(z+256*x')%256=z:=by omega
         have a2:(z+256*x')/256=x':=by omega
         refine⟨?_,by rw[Nat.pow_succ];omega⟩
         simp only[dec,List.map_cons,a1,a2,<- e1,u8v]
         congr 2
         rw[UInt8.toNat_ofNat']
         have :z%2 ^ 8=z:=Nat.mod_eq_of_lt hlt
         rw[this];rfl
       . cases e
   . cases e
def isB (P:Program) (T:TypeId):Bool:=match P.underlying T with
 |some (.int .u8)=>true
 |some (.array _ e)=>match P.underlying e with
   |some (.int .u8)=>true
   |_=>false
 |_=>false
def mkB (P:Program) (T:TypeId) (cs:List CV):Option HB:=match isB P T with
 |true=>match pkE cs with
   |some (n,x)=>some (.bys T n x false)
   |none=>none
 |false=>bif all1 cs then some (.cells T cs false) else none
theorem J3_ {cs:List CV} {hb:HB} {vs:List Value} {i b:Nat} (e:mkB P T cs=some hb) (hv:VRs β cs vs) (hi:β i=some ⟨b,0,vs.length⟩):BR β i hb (some (b,bx T vs)):=by
 unfold mkB at e
 split at e
 . split at e
   . rename_i m x hp
     simp only[Option.some.injEq] at e;subst e
     obtain⟨e1,e2⟩:=Mn_ hp hv
     have hl:vs.length=m:=by rw[e1];simp[B_]
     refine⟨_,vs,hi,rfl,by simp,by simp;omega,λ_=>⟨rfl,by simp;omega⟩,e2,?_,λv hv=>?_⟩
     rw[List.drop_zero,<- hl,List.take_length];exact hl ▸ e1
     rw[e1] at hv;obtain⟨a,_,rfl⟩:=List.mem_map.1 hv;rfl
   . cases e
 . cases ha:all1 cs with
   |false=>rw[ha] at e;cases e
   |true=>
     rw[ha] at e
     simp only[cond_true,Option.some.injEq] at e;subst e
     have hl:=hv.length
     refine⟨_,vs,hi,rfl,by simp,by simp;omega,λ_=>⟨rfl,hl⟩,?_,B3_ hv ha⟩
     rw[List.drop_zero,<- hl,List.take_length];exact hv
def Es (P:Program) (n:Nat) (N:SW.Rest) (F:Fr) (H:Hp) (L:Ls) (β:Be) (h:He) (nx:Nat) (o:Oper) (c:CV) (h':He) (nx':Nat):Prop:=
 ∀ (ops:List Oper) (K:Fr->Hp->Ls->Prop),(∀ β' v L',VR β' c v->Post β h nx L β' h' nx' L'->K (putO F o.dst v) H L')->Op1 P n N ops o K F H L
theorem Es.of_yl {op:Op} {d:Nat} {pos:String} {af:Array Edge} {c:CV} (hd:Nat.blt d n=true) (hr:HR β h nx L) (hy:Yl P N F H L β op ty c):Es P n N F H L β h nx ⟨some d,op,ty,pos,af,none⟩ c h nx:=λops K k=>by
 obtain⟨v,h1,h2⟩:=hy
 exact Fk_ hd h2 (k β v L h1 (.refl hr))
abbrev Ke (R:Type):=CV->He->Nat->Option R
def newE {R:Type} (P:Program) (h:He) (nx:Nat) (T:TypeId) (cs:List CV) (k:Ke R):Option R:=match mkB P T cs with
 |some hb=>Tr.setK 40 h nx hb λh=>k (.ptr nx 0) h (nx+1)
 |none=>none
theorem Pr_ {R:Type} {cs:List CV} {k:Ke R} {z:R} (e:newE P h nx T cs k=some z):∃ h',k (.ptr nx 0) h' (nx+1)=some z/\∀ {β:Be} {L:Ls} {vs:List Value} (b:Nat),HR β h nx L->VRs β cs vs->VR (bset β nx ⟨b,0,vs.length⟩) (.ptr nx 0) (.pointer (some ⟨b,0,none⟩))/\Post β h nx L (bset β nx ⟨b,0,vs.length⟩) h' (nx+1) (lupd L nx (some (b,bx T vs))):=by
 unfold newE at e
 split at e
 . rename_i hb hB
   obtain⟨h',e1,e2,e3⟩:=Tr.setK_ok _ _ _ _ _ _ e
   exact zV
 . cases e
def alE {R:Type} (P:Program) (h:He) (nx:Nat) (T:TypeId) (k:Ke R):Option R:=match Hs_ P T with
 |some cs=>newE P h nx T cs k
 |none=>none
theorem e_al {R:Type} {k:Ke R} {r:R} {d:Nat} {pos:String} {af:Array Edge} (e:alE P h nx T k=some r):∃ c h' nx',k c h' nx'=some r/\∀ {β:Be} {L:Ls} {F:Fr},Nat.blt d n=true->HR β h nx L->Es P n N F H L β h nx ⟨some d, .alloc T,ty,pos,af,none⟩ c h' nx':=by
 unfold alE at e
 split at e
 . rename_i cs hz
   obtain⟨h',e1,e2⟩:=Pr_ e
   refine⟨_,h',_,e1,λ{β L F} hd hr ops K k=>?_⟩
   obtain⟨zv,z1,z2⟩:=B2_ (β:=β) hz
   refine D1_ (cs:=zv.cells.toList) nx hd (λw=>⟨zv,z1 w,by simp⟩) λb=>?_
   obtain⟨a1,a2⟩:=e2 b hr z2
   exact k _ _ _ a1 a2
 . cases e
def bxE {R:Type} (P:Program) (h:He) (nx:Nat) (T:TypeId) (a:CV) (k:Ke R):Option R:=match Gl_ a with
 |some cs=>newE P h nx T cs k
 |none=>none
theorem e_bx {R:Type} {k:Ke R} {r:R} {a:CV} {d:Nat} {pos:String} {af:Array Edge} (e:bxE P h nx T a k=some r):∃ c h' nx',k c h' nx'=some r/\∀ {β:Be} {L:Ls} {F:Fr},Nat.blt d n=true->HR β h nx L->VR β a (ev F x)->Es P n N F H L β h nx ⟨some d, .box T x,ty,pos,af,none⟩ c h' nx':=by
 unfold bxE at e
 split at e
 . rename_i cs hc
   obtain⟨h',e1,e2⟩:=Pr_ e
   refine⟨_,h',_,e1,λ{β L F} hd hr hx ops K k=>?_⟩
   have hv:=Cv_ hc hx
   intro ac w ha hm
   rw[if_pos xM]
   unfold Oper.wp
   have :(execOp ac.eval ⟨some d, .box T x,ty,pos,af,none⟩).run P w = .ok (.value (.pointer (some ⟨w.heap.size,0,none⟩))) {w with heap:=w.heap.push (bx T (ev F x).cells.toList)}:=by
     rw[ha.eval]
     simp[execOp,Instr.box,newVar,newRow,bx]
   rw[this]
   obtain⟨a1,a2⟩:=e2 w.heap.size hr hv
   exact⟨_,H,_,ha.put xO _,hm.push nx _,k _ _ _ a1 a2⟩
 . cases e
def stE {R:Type} (P:Program) (h:He) (nx:Nat) (T:TypeId) (a b:CV) (k:Ke R):Option R:=match a with
 | .ptr i o=>match Gl_ b with
   |some ds=>match szE P T with
     | some m=>bif Nat.beq ds.length m&&all1 ds then (match h.get i with
       |some (.cells T0 cs gr)=>bif Nat.ble (o+m) cs.length then Tr.setK 40 h i (.cells T0 (D8_ cs o ds) gr) λh=>k (.tup []) h nx else none
       |some (.bys T0 l x gr)=>match pkE ds with
         |some (_,u)=>bif Nat.ble (o+m) l then Tr.setK 40 h i (.bys T0 l (x%256 ^ o+u*256 ^ o+x/256 ^ (o+m)*256 ^ (o+m)) gr) λh=>k (.tup []) h nx else none
         |none=>none
       |_=>none) else none
     |none=>none
   |none=>none
 |_=>none
theorem B0_:∀ (us vs:List Value) (o:Nat),o+us.length<=vs.length->Ao_ vs o us=vs.take o++us++vs.drop (o+us.length)
 |[],vs,o,_=>by simp[Ao_]
 |u::r,vs,o,hl=>by
   simp only[List.length_cons] at hl
   simp only[Ao_,List.length_cons]
   rw[B0_ r (vs.set o u) (o+1) xN]
   have hlt:o<vs.length:=by omega
   rw[List.take_add_one,List.take_set_of_le (Nat.le_refl _)]
   rw[List.drop_set_of_lt xI]
   simp[hlt,show o+(r.length+1)=o+1+r.length by omega]
theorem D9_ {vs us:List Value} {s o m:Nat} (hm:o+us.length<=m) (hl:s+m<=vs.length):((Ao_ vs (s+o) us).drop s).take m=Ao_ ((vs.drop s).take m) o us:=by
 rw[B0_ us vs (s+o) xI,B0_ us _ o xN]
 apply List.ext_getElem?
 intro j;simp only[List.getElem?_take,List.getElem?_drop,List.getElem?_append,List.length_append,List.length_take,List.length_drop];by_cases hj:j<m;rw[if_pos hj];have e1:min (s+o) vs.length=s+o:=by omega
 have e2:min o (min m (vs.length-s))=o:=by omega
 rw[e1,e2];by_cases h1:j<o;rw[if_pos xI,if_pos xI,if_pos xI,if_pos xI,if_pos h1,if_pos hj,if_pos h1];by_cases h2:j<o+us.length
 . rw[if_pos xI,if_neg xI,if_pos xI,if_neg xI]
   congr 1;omega
 . rw[if_neg xI,if_neg xI]
   rw[if_pos xI]
   congr 1;omega
 . rw[if_neg hj]
   symm
   rw[if_neg xI]
   rw[if_neg xI]
theorem Od_ {l m o x u:Nat} (hx:x<256 ^ l) (hu:u<256 ^ m) (hl:o+m<=l):(dec l x).take o++dec m u++(dec l x).drop (o+m)=dec l (x%256 ^ o+u*256 ^ o+x/256 ^ (o+m)*256 ^ (o+m))/\x%256 ^ o+u*256 ^ o+x/256 ^ (o+m)*256 ^ (o+m)<256 ^ l:=by
 have h0:x%256 ^ o<256 ^ o:=Nat.mod_lt _ (Nat.pow_pos xI);have h1:x%256 ^ o+u*256 ^ o<256 ^ (o+m):=Me_ h0 hu;have h2:x/256 ^ (o+m)<256 ^ (l-(o+m)):=by
   rw[Nat.div_lt_iff_lt_mul (Nat.pow_pos xI),<- Nat.pow_add]
   rwa [show l-(o+m)+(o+m)=l by omega]
 have h3:=Me_ h1 h2;rw[show o+m+(l-(o+m))=l by omega] at h3;refine⟨?_,h3⟩;rw[Cj_ o l x xI,De_ (o+m) l x hl,Es_ o m _ _ h0,Es_ _ _ _ _ h1,show o+m+(l-(o+m))=l by omega]
theorem Je_ {cs ds:List CV} {vs us:List Value} {s o:Nat} (hv:VRs β cs ((vs.drop s).take cs.length)) (hd:VRs β ds us) (hm:o+ds.length<=cs.length) (hl:s+cs.length<=vs.length):VRs β (D8_ cs o ds) (((Ao_ vs (s+o) us).drop s).take (D8_ cs o ds).length):=by
 rw[Bj_,D9_ (by rw[hd.length];exact hm) hl];exact Fa_ _ _ _ hv hd
theorem C4_:∀ (us vs:List Value) (o:Nat),(∀ v∈vs,v.oneCell'=true)->(∀ v∈us,v.oneCell'=true)->∀ v∈Ao_ vs o us,v.oneCell'=true
 |[],_,_,h,_,v,hv=>h v hv
 | u::r,vs,o,h,k,v,hv=>C4_ r (vs.set o u) (o+1) (λw hw=>by
     rcases List.mem_or_eq_of_mem_set hw with q|rfl
     . exact h w q
     . exact k _ xK) (λw hw=>k w (by simp[hw])) v hv
theorem BR.cells_set {i b T0:Nat} {cs ds:List CV} {gr:Bool} {vs us:List Value} {o:Nat} (hB:BR β i (.cells T0 cs gr) (some (b,bx T0 vs))) (hd:VRs β ds us) (h1:all1 ds=true) (hm:o+ds.length<=cs.length):∃ q,β i=some q/\b=q.b/\q.s+o+us.length<=vs.length/\BR β i (.cells T0 (D8_ cs o ds) gr) (some (b,bx T0 (Ao_ vs (q.s+o) us))):=by
 obtain⟨q,vs',e1,e2,e3,e4,e5,e6,e7⟩:=hB;simp only[Option.some.injEq,Prod.mk.injEq] at e2;obtain⟨rfl,e2⟩:=e2;have :vs=vs':=by
   exact yU
 subst this;have hl:=hd.length;exact⟨q,e1,rfl,by omega,q,_,e1,rfl,by rw[Bx_];exact e3,by rw[Bj_];exact e4,λg=>by rw[Bj_];exact e5 g,Je_ e6 hd hm xI,C4_ _ _ _ e7 (B3_ hd h1)⟩
theorem BR.bys_set {i b T0:Nat} {l x m u:Nat} {gr:Bool} {vs:List Value} {o:Nat} (hB:BR β i (.bys T0 l x gr) (some (b,bx T0 vs))) (hu:u<256 ^ m) (hm:o+m<=l):∃ q,β i=some q/\b=q.b/\q.s+o+m<=vs.length/\BR β i (.bys T0 l (x%256 ^ o+u*256 ^ o+x/256 ^ (o+m)*256 ^ (o+m)) gr) (some (b,bx T0 (Ao_ vs (q.s+o) ((dec m u).map u8v)))):=by
 obtain⟨q,vs',e1,e2,e3,e4,e5,e6,e7,e8⟩:=hB;simp only[Option.some.injEq,Prod.mk.injEq] at e2;obtain⟨rfl,e2⟩:=e2;have :vs=vs':=by
   exact yU
 subst this;have hl:((dec m u).map u8v).length=m:=by simp[B_]
 obtain⟨d1,d2⟩:=Od_ e6 hu hm;refine⟨q,e1,rfl,by omega,q,_,e1,rfl,by rw[Bx_];exact e3,e4,e5,d2,?_,C4_ _ _ _ e8 (λv hv=>by obtain⟨a,_,rfl⟩:=List.mem_map.1 hv;rfl)⟩;rw[D9_ (by rw[hl];exact hm) xI,e7,B0_ _ _ _ (by rw[hl];simp[B_];omega),hl,<- List.map_take,<- List.map_drop,<- List.map_append,<- List.map_append,d1]
theorem e_st {R:Type} {k:Ke R} {r:R} {a c:CV} {pos:String} {af:Array Edge} (e:stE P h nx T a c k=some r):∃ c' h' nx',k c' h' nx'=some r/\∀ {β:Be} {L:Ls} {F:Fr},HR β h nx L->VR β a (ev F x)->VR β c (ev F y)->Es P n N F H L β h nx ⟨none, .store T x y,ty,pos,af,none⟩ c' h' nx':=by
 have key:∀ {β:Be} {L:Ls} {F:Fr} {i o m:Nat} {q:Pl} {T0:TypeId} {vs us:List Value} {h':He} {hb hb0:HB},HR β h nx L->h.get i=some hb0->β i=some q->L i=some (q.b,bx T0 vs)->ev F x = .pointer (some ⟨q.b,q.s+o,none⟩)->us=(ev F y).cells.toList->us.length=m->szE P T=some m->q.s+o+us.length<=vs.length->(∀ v∈us,v.oneCell'=true) ->
     h'.get i=some hb->(∀ j,j≠i->h'.get j=h.get j)->BR β i hb (some (q.b,bx T0 (Ao_ vs (q.s+o) us)))->Es P n N F H L β h nx ⟨none, .store T x y,ty,pos,af,none⟩ (.tup []) h' nx:=by
   intro β L F i o m q T0 vs us h' hb hb0 hr hi0 hq hi ex hus hm hk hl h1 g1 g2 hB ops K kk ac w ha hmm
   rw[if_pos xM]
   unfold Oper.wp
   obtain⟨w',L',e1,e2,e3,e4⟩:=Mem.storeA (P:=P) q.b i (q.s+o) us vs 0 L w hmm hi xY h1
   have hcs:(ev F y).cells.size=m:=by rw[<- hm,hus];simp
   have :(execOp ac.eval ⟨none, .store T x y,ty,pos,af,none⟩).run P w = .ok .skip w':=by
     rw[ha.eval]
     rw[hus] at e1
     simp[execOp,Instr.storeAt,ex,Instr.sureAddr,storeVar,As_ hk w,hcs,e1]
   rw[this]
   have hL:L'=lupd L i (some (q.b,bx T0 (Ao_ vs (q.s+o) us))):=funext λj=>by
     by_cases e':j=i
     . subst e';rw[E_,e4];rfl
     . rw[C_ _ _ _ _ e',e3 j e']
   subst hL
   exact⟨_,_,_,ha,e2,kk β undef _ (by simp only[VR];exact⟨[],rfl, .nil⟩) (.set hr hi0 g1 g2 hB)⟩
 unfold stE at e
 split at e
 . rename_i i o
   split at e
   . rename_i ds hds
     split at e
     . rename_i m hm
       cases hb:(Nat.beq ds.length m&&all1 ds) with
       |false=>rw[hb] at e;cases e
       |true=>
         rw[hb] at e
         simp only[Bool.and_eq_true] at hb
         have hlen:=Nat.eq_of_beq_eq_true hb.1
         simp only[cond_true] at e
         split at e
         . rename_i T0 cs gr hi
           cases hb2:Nat.ble (o+m) cs.length with
           |false=>rw[hb2] at e;cases e
           |true=>
             rw[hb2] at e
             have hle:=Nat.le_of_ble_eq_true hb2
             simp only[cond_true] at e
             obtain⟨h',e1,e2,e3⟩:=Tr.setK_ok _ _ _ _ _ _ e
             refine⟨_,h',_,e1,λ{β L F} hr hx hy=>?_⟩
             have hv:=Cv_ hds hy
             have hB:=hr.br i _ hi
             obtain⟨q,vs,f1,f2,_⟩:=hB
             have hB:=hr.br i _ hi
             rw[f2] at hB
             obtain⟨q',g1,g2,g3,g4⟩:=BR.cells_set (o:=o) hB hv hb.2 xI
             rw[f1] at g1;cases g1
             simp only[VR] at hx;obtain⟨q2,hq,ex⟩:=hx
             rw[f1] at hq;cases hq
             exact key hr hi f1 f2 ex Y (by rw[hv.length];exact hlen) hm g3 (B3_ hv hb.2) e2 e3 g4
         . rename_i T0 l x0 gr hi
           split at e
           . rename_i m' u hp
             cases hb2:Nat.ble (o+m) l with
             |false=>rw[hb2] at e;cases e
             |true=>
               rw[hb2] at e
               have hle:=Nat.le_of_ble_eq_true hb2
               simp only[cond_true] at e
               obtain⟨h',e1,e2,e3⟩:=Tr.setK_ok _ _ _ _ _ _ e
               refine⟨_,h',_,e1,λ{β L F} hr hx hy=>?_⟩
               have hv:=Cv_ hds hy
               obtain⟨p1,p2⟩:=Mn_ hp hv
               have hm':m'=m:=by have :=hv.length;rw[p1] at this;simp[B_] at this;omega
               subst hm'
               obtain⟨q,vs,f1,f2,_⟩:=hr.br i _ hi
               have hB:=hr.br i _ hi
               rw[f2] at hB
               obtain⟨q',g1,g2,g3,g4⟩:=BR.bys_set (o:=o) hB p2 hle
               rw[f1] at g1;cases g1
               simp only[VR] at hx;obtain⟨q2,hq,ex⟩:=hx
               rw[f1] at hq;cases hq
               exact key hr hi f1 f2 ex p1.symm (by simp[B_]) hm (by simp[B_];exact g3) (λv hv=>by obtain⟨a,_,rfl⟩:=List.mem_map.1 hv;rfl) e2 e3 g4
           . cases e
         . cases e
     . cases e
   . cases e
 . cases e
end
end Go.CE
namespace Go.CE
open Go.SW
noncomputable section
variable {P:Program} {n:Nat} {N:SW.Rest} {F:Fr} {H:Hp} {L:Ls} {ty T T' T2:TypeId} {x y z:Operand} {β:Be} {f:Fe} {h:He} {nx:Nat}
def byE (P:Program) (T:TypeId):Option Nat:=match P.info? T with
 |some i=>some i.bytes
 |none=>none
theorem Lt_ {k:Nat} (e:byE P T=some k):By P T k:=by
 unfold byE at e
 split at e
 . rename_i i hi;simp only[Option.some.injEq] at e;intro w;exact⟨i,by simp[typeInfo,hi],e⟩
 . cases e
def ordE (k:Nat):Nat->List (Nat×CV)->Option (List CV)
 |_,[]=>some []
 | i,(j,c)::r=>bif Nat.beq j i then (match Gl_ c with
   | some ds=>bif Nat.beq ds.length k then (match ordE k (i+1) r with
     |some es=>some (ds++es)
     |none=>none) else none
   |none=>none) else none
theorem K5_ {k:Nat}:∀ {ps:List (Nat×CV)} {i:Nat} {cs:List CV} {vs:List (Nat×Value)},ordE k i ps=some cs->VRp β ps vs->Gx_ k i vs/\VRs β cs (Dc_ vs)/\vs.length=ps.length
 |[],i,cs,vs,e,hv=>by
   simp only[ordE,Option.some.injEq] at e;subst e
   simp only[VRp] at hv;subst hv
   exact⟨trivial, .nil,rfl⟩
 |(j,c)::r,i,cs,vs,e,hv=>by
   simp only[VRp] at hv
   obtain⟨v,us,rfl,h1,h2⟩:=hv
   simp only[ordE] at e
   cases hj:Nat.beq j i with
   |false=>rw[hj] at e;cases e
   |true=>
     rw[hj] at e
     simp only[cond_true] at e
     split at e
     . rename_i ds hd
       cases hk:Nat.beq ds.length k with
       |false=>rw[hk] at e;cases e
       |true=>
         rw[hk] at e
         simp only[cond_true] at e
         split at e
         . rename_i es he
           simp only[Option.some.injEq] at e;subst e
           obtain⟨a1,a2,a3⟩:=K5_ he h2
           have hc:=Cv_ hd h1
           have :=hc.length
           have hk':=Nat.eq_of_beq_eq_true hk
           simp at this
           exact⟨⟨Nat.eq_of_beq_eq_true hj,by show v.cells.size=k;omega,a1⟩,hc.app a2,by simp[a3]⟩
         . cases e
     . cases e
def newS {R:Type} (P:Program) (h:He) (nx:Nat) (e len:Nat) (cs:List CV) (k:Ke R):Option R:=match mkB P e cs with
 |some hb=>Tr.setK 40 h nx hb λh=>k (.sl nx 0 len len) h (nx+1)
 |none=>none
theorem newS_ok {R:Type} {cs:List CV} {k:Ke R} {z:R} {e len:Nat} (e0:newS P h nx e len cs k=some z):∃ h',k (.sl nx 0 len len) h' (nx+1)=some z/\∀ {β:Be} {L:Ls} {vs:List Value} (b:Nat),HR β h nx L->VRs β cs vs->VR (bset β nx ⟨b,0,vs.length⟩) (.sl nx 0 len len) (.slice (some ⟨b,0,none⟩) len len)/\Post β h nx L (bset β nx ⟨b,0,vs.length⟩) h' (nx+1) (lupd L nx (some (b,bx e vs))):=by
 unfold newS at e0
 split at e0
 . rename_i hb hB
   obtain⟨h',e1,e2,e3⟩:=Tr.setK_ok _ _ _ _ _ _ e0
   exact zV
 . cases e0
def bslE {R:Type} (P:Program) (f:Fe) (h:He) (nx:Nat) (T len:Nat) (ps:List (Nat×Operand)) (k:Ke R):Option R:=match P.underlying T with
 |some (.slice e)=>match szE P e with
   |some m=>match Hs_ P e with
     |some _=>match efps f ps with
       |some qs=>match ordE m 0 qs with
         |some cs=>bif Nat.beq qs.length len&&Nat.ble (len*m) 16777216 then newS P h nx e len cs k else none
         |none=>none
       |none=>none
     |none=>none
   |none=>none
 |_=>none
theorem e_bsl {R:Type} {k:Ke R} {r:R} {len:Nat} {ps:List (Nat×Operand)} {d:Nat} {pos:String} {af:Array Edge} (e:bslE P f h nx T len ps k=some r):∃ c h' nx',k c h' nx'=some r/\∀ {β:Be} {L:Ls} {F:Fr},Nat.blt d n=true->FR β f F->HR β h nx L->Es P n N F H L β h nx ⟨some d, .buildSlice T len ps.toArray,ty,pos,af,none⟩ c h' nx':=by
 unfold bslE at e
 split at e
 . rename_i e0 hT
   split at e
   . rename_i m hm
     split at e
     . rename_i zs hz
       split at e
       . rename_i qs hq
         split at e
         . rename_i cs hc
           cases hb:(Nat.beq qs.length len&&Nat.ble (len*m) 16777216) with
           |false=>rw[hb] at e;cases e
           |true=>
             rw[hb] at e
             simp only[Bool.and_eq_true] at hb
             simp only[cond_true] at e
             obtain⟨h',e1,e2⟩:=newS_ok e
             refine⟨_,h',_,e1,λ{β L F} hd hf hr ops K kk=>?_⟩
             have hp:=Ip_ hf hq
             obtain⟨a1,a2,a3⟩:=K5_ hc hp
             obtain⟨zv,z1,_⟩:=B2_ (β:=β) hz
             refine Ef_ nx hd hT (As_ hm) ⟨zv,z1⟩ Y a1 (by rw[a3];exact Nat.eq_of_beq_eq_true hb.1) Y (Nat.le_of_ble_eq_true hb.2) λb=>?_
             obtain⟨b1,b2⟩:=e2 b hr a2
             exact kk _ _ _ b1 b2
         . cases e
       . cases e
     . cases e
   . cases e
 . cases e
def repC (zs:List CV):Nat->List CV
 |0=>[]
 |n+1=>zs++repC zs n
def repV (zs:List Value):Nat->List Value
 |0=>[]
 |n+1=>zs++repV zs n
theorem K8_ {zs:List CV} {vs:List Value} (hv:VRs β zs vs):∀ m,VRs β (repC zs m) (repV vs m)
 |0=> .nil
 |m+1=>hv.app (K8_ hv m)
theorem Be_ (zs:List Value):∀ m,(repV zs m).length=m*zs.length
 |0=>by simp[repV]
 |m+1=>by simp only[repV,List.length_append,Be_ zs m,Nat.add_mul,Nat.one_mul];omega
theorem Mr_ (zs:List Value):∀ m i,i<m*zs.length->(repV zs m)[i]? = zs[i%zs.length]?
 |0,i,hi=>by simp at hi
 |m+1,i,hi=>by
   simp only[repV,List.getElem?_append]
   split
   . rename_i hlt;rw[Nat.mod_eq_of_lt hlt]
   . rename_i hge
     rw[Mr_ zs m (i-zs.length) (by rw[Nat.add_mul,Nat.one_mul] at hi;omega)]
     congr 1
     exact (Nat.mod_eq_sub_mod xI).symm
theorem M1_ (zs:List Value) (m:Nat):((Array.range (m*zs.length)).map (λi=>zs.toArray[i%zs.toArray.size]!))=(repV zs m).toArray:=by
 apply Array.ext'
 apply List.ext_getElem?
 intro i;simp only[Array.toList_map,Array.toList_range,List.getElem?_map,List.getElem?_range'];by_cases hi:i<m*zs.length;have h0:0<zs.length:=by
   rcases Nat.eq_zero_or_pos zs.length with q|q
   . rw[q] at hi;simp at hi
   . exact q
 have hmod:i%zs.length<zs.length:=Nat.mod_lt _ h0;rw[Mr_ zs m i hi];simp[hi,hmod];rw[List.getElem?_eq_none (l:=repV zs m) (by rw[Be_];omega)];simp[hi]
def mkE {R:Type} (P:Program) (h:He) (nx:Nat) (T:TypeId) (a b:CV) (k:Ke R):Option R:=match P.underlying T with
 |some (.slice e)=>match szE P e with
   |some m=>match byE P e with
     |some by_=>match natE a with
       |some l=>match natE b with
         | some c=>bif Nat.ble l c&&(Nat.ble (by_*c) 281474976710656&&Nat.blt 0 by_) then (match isB P e with
           | true=>bif Nat.beq m 1 then (match Hs_ P e with
             |some zz=>bif (match pkE zz with|some (q,w)=>Nat.beq q 1&&Nat.beq w 0|none=>false) then Tr.setK 40 h nx (.bys e c 0 false) λh=>k (.sl nx 0 l c) h (nx+1) else none
             |none=>none) else none
           |false=>match Hs_ P e with
             |some zs=>bif Nat.beq zs.length m&&all1 (repC zs c) then Tr.setK 40 h nx (.cells e (repC zs c) false) λh=>k (.sl nx 0 l c) h (nx+1) else none
             |none=>none) else none
         |none=>none
       |none=>none
     |none=>none
   |none=>none
 |_=>none
theorem Kf_ {m:Nat} (h9:m<=9223372036854775807):IntKind.wrap .i64 (m:Int)=(m:Int):=by
 simp only[IntKind.wrap,IntKind.bits,IntKind.signed];simp;split<;>omega
theorem run_mk {l c m by_:Nat} {e:TypeId} {k1 k2:IntKind} {zs:List Value} {zv:Value} {w:World} (hT:P.underlying T=some (.slice e)) (hm:szE P e=some m) (hb:byE P e=some by_) (hz:∀ w,(zeroValue e).run P w = .ok zv w) (hzs:zv.cells=zs.toArray) (hzl:zs.length=m) (hlc:l<=c) (hbd:by_*c<=281474976710656) (h0:0<by_) :
   (Instr.makeSlice T (.int k1 (l:Int)) (.int k2 (c:Int))).run P w = .ok (.slice (some ⟨w.heap.size,0,none⟩) l c) {w with heap:=w.heap.push (bx e (repV zs c))}:=by
 have hc9:c<=9223372036854775807:=by
   have :c<=by_*c:=Nat.le_mul_of_pos_left _ h0
   omega
 obtain⟨inf,hinf,hbb⟩:=Lt_ hb w;have h2:¬(281474976710656<(inf.bytes:Int)*(c:Int)):=by
   rw[hbb]
   have e1:((by_:Int)*(c:Int))=((by_*c:Nat):Int):=by simp
   rw[e1];omega
 have h4:¬((c:Int)<(l:Int)):=by omega
 have h5:¬((c:Int)<0):=by omega
 have h6:¬((l:Int)<0):=by omega
 have hrep:=M1_ zs c;rw[hzl] at hrep;by_cases h0:c*m=0;have :repV zs c=[]:=List.length_eq_zero_iff.1 (by rw[Be_,hzl];exact h0);have hr:Array.range 0 = #[]:=by apply Array.ext';simp
 simp[Instr.makeSlice,run_underlying hT,D7_,hinf,Kf_ hc9,Kf_ (show l<=9223372036854775807 by omega),h2,h4,h5,h6,As_ hm w,h0,newRow,bx,this,hr];rw[<- hzs] at hrep;simp[Instr.makeSlice,run_underlying hT,D7_,hinf,Kf_ hc9,Kf_ (show l<=9223372036854775807 by omega),h2,h4,h5,h6,As_ hm w,h0,newRow,bx,hz];rw[hrep]
theorem Rl_:∀ n,dec n 0=List.replicate n 0
 |0=>rfl
 |n+1=>by simp only[dec,Nat.zero_mod,Nat.zero_div,Rl_ n,List.replicate_succ];rfl
theorem e_mk {R:Type} {k:Ke R} {r:R} {a b:CV} {d:Nat} {pos:String} {af:Array Edge} (e:mkE P h nx T a b k=some r):∃ c h' nx',k c h' nx'=some r/\∀ {β:Be} {L:Ls} {F:Fr},Nat.blt d n=true->HR β h nx L->VR β a (ev F x)->VR β b (ev F y)->Es P n N F H L β h nx ⟨some d, .makeSlice T x y,ty,pos,af,none⟩ c h' nx':=by
 unfold mkE at e
 split at e
 . rename_i e0 hT
   split at e
   . rename_i m hm
     split at e
     . rename_i by_ hby
       split at e
       . rename_i l hl
         split at e
         . rename_i c hc
           cases hb:(Nat.ble l c&&(Nat.ble (by_*c) 281474976710656&&Nat.blt 0 by_)) with
           |false=>rw[hb] at e;cases e
           |true=>
             rw[hb] at e
             simp only[Bool.and_eq_true] at hb
             have hlc:=Nat.le_of_ble_eq_true hb.1
             have hbd:=Nat.le_of_ble_eq_true hb.2.1
             have h0:=B4_ hb.2.2
             simp only[cond_true] at e
             have key:∀ {β:Be} {L:Ls} {F:Fr} {zv:Value} {h':He} {hb:HB},Nat.blt d n=true->HR β h nx L->VR β a (ev F x)->VR β b (ev F y)->(∀ w,(zeroValue e0).run P w = .ok zv w)->zv.cells.toList.length=m->h'.get nx=some hb->(∀ j,j≠nx->h'.get j=h.get j) ->
                 (∀ b,BR (bset β nx ⟨b,0,c*m⟩) nx hb (some (b,bx e0 (repV zv.cells.toList c))))->Es P n N F H L β h nx ⟨some d, .makeSlice T x y,ty,pos,af,none⟩ (.sl nx 0 l c) h' (nx+1):=by
               intro β L F zv h' hb hd hr hx hy hz hzl g1 g2 hB ops K kk ac w ha hmm
               rw[if_pos xM]
               unfold Oper.wp
               obtain⟨k1,ex⟩:=Dk_ hl hx
               obtain⟨k2,ey⟩:=Dk_ hc hy
               have hrun:=run_mk (k1:=k1) (k2:=k2) (w:=w) hT hm hby hz (zs:=zv.cells.toList) xK hzl hlc hbd h0
               have :(execOp ac.eval ⟨some d, .makeSlice T x y,ty,pos,af,none⟩).run P w = .ok (.value (.slice (some ⟨w.heap.size,0,none⟩) l c)) {w with heap:=w.heap.push (bx e0 (repV zv.cells.toList c))}:=by
                 rw[ha.eval]
                 simp only[execOp,ex,ey,Sem.run_bind,hrun,Result.andThen_ok,Sem.run_pure]
               rw[this]
               refine⟨_,H,_,ha.put xO _,hmm.push nx _,kk (bset β nx ⟨w.heap.size,0,c*m⟩) _ _ ?_ (.new hr g1 g2 (hB _))⟩
               exact yT
             split at e
             . rename_i hB
               cases hm1:Nat.beq m 1 with
               |false=>rw[hm1] at e;cases e
               |true=>
                 rw[hm1] at e
                 have hm1':=Nat.eq_of_beq_eq_true hm1
                 subst hm1'
                 simp only[cond_true] at e
                 split at e
                 . rename_i zz hz0
                   cases hz1:(match pkE zz with|some (q,w)=>Nat.beq q 1&&Nat.beq w 0|none=>false) with
                   |false=>rw[hz1] at e;cases e
                   |true=>
                     rw[hz1] at e
                     simp only[cond_true] at e
                     obtain⟨h',e1,e2,e3⟩:=Tr.setK_ok _ _ _ _ _ _ e
                     refine⟨_,h',_,e1,λ{β L F} hd hr hx hy=>?_⟩
                     obtain⟨zv,z1,z2⟩:=B2_ (β:=β) hz0
                     split at hz1
                     . rename_i q w hp
                       simp only[Bool.and_eq_true] at hz1
                       have q1:=Nat.eq_of_beq_eq_true hz1.1
                       have w1:=Nat.eq_of_beq_eq_true hz1.2
                       subst q1;subst w1
                       obtain⟨p1,_⟩:=Mn_ hp z2
                       have hrp:∀ c,repV zv.cells.toList c=(dec c 0).map u8v:=by
                         intro c
                         rw[p1]
                         induction c with
                         |zero=>rfl
                         |succ c ih=>simp only[repV,ih];simp[dec,u8v]
                       have hlen:(repV zv.cells.toList c).length=c:=by rw[hrp];simp[B_]
                       refine key hd hr hx hy z1 (by rw[p1];rfl) e2 e3 λb=>⟨_,_,I_,rfl,by simp[hlen],by simp,λ_=>⟨rfl,by simp⟩,Nat.pow_pos xI,?_,λv hv=>?_⟩
                       . simp only[List.drop_zero]
                         rw[List.take_of_length_le xI,hrp]
                       . rw[hrp] at hv;obtain⟨a,_,rfl⟩:=List.mem_map.1 hv;rfl
                     . cases hz1
                 . cases e
             . split at e
               . rename_i zz hz0
                 cases hz1:(Nat.beq zz.length m&&all1 (repC zz c)) with
                 |false=>rw[hz1] at e;cases e
                 |true=>
                   rw[hz1] at e
                   simp only[Bool.and_eq_true] at hz1
                   simp only[cond_true] at e
                   obtain⟨h',e1,e2,e3⟩:=Tr.setK_ok _ _ _ _ _ _ e
                   refine⟨_,h',_,e1,λ{β L F} hd hr hx hy=>?_⟩
                   obtain⟨zv,z1,z2⟩:=B2_ (β:=β) hz0
                   have hlm:zv.cells.toList.length=m:=by rw[z2.length];exact Nat.eq_of_beq_eq_true hz1.1
                   have hlen:(repV zv.cells.toList c).length=c*m:=by rw[Be_,hlm]
                   have hR:=K8_ z2 c
                   have hlr:=hR.length
                   refine key hd hr hx hy z1 hlm e2 e3 λb=>⟨_,_,I_,rfl,by simp[hlen],by simp;omega,λ_=>⟨rfl,by simp;omega⟩,?_,B3_ hR hz1.2⟩
                   simp only[List.drop_zero]
                   rw[List.take_of_length_le xI]
                   exact hR.mono (Bq_ (hr.fr nx (Nat.le_refl _)).1)
               . cases e
         . cases e
       . cases e
     . cases e
   . cases e
 . cases e
end
end Go.CE
namespace Go.CE
open Go.SW
noncomputable section
variable {P:Program} {n:Nat} {N:SW.Rest} {F:Fr} {H:Hp} {L:Ls} {ty T T' T2:TypeId} {x y z:Operand} {β:Be} {f:Fe} {h:He} {nx:Nat}
theorem Fv_ {k len m cap b o i:Nat} {e ats T0:TypeId} {d2:TypeDesc} {sv:Value} {vs news:List Value} {w:World} (hT:P.underlying T=some (.slice e)) (hT2:P.underlying T2=some d2) (hd2:G8_ d2=true) (hk:Sz P e k) (hs:Src P N H L k sv m news) (hone:∀ u∈news,u.oneCell'=true)
   (hm:Mem N H L w) (hi:L i=some (b,bx T0 vs)) (hle:len+m<=cap) (hl:o+len*k+news.length<=vs.length) :
   ∃ w',(Builtin.append_ #[T,T2] ats #[.slice (some ⟨b,o,none⟩) len cap,sv]).run P w = .ok (.slice (some ⟨b,o,none⟩) (len+m) cap) w'/\Mem N H (lupd L i (some (b,bx T0 (Ao_ vs (o+len*k) news)))) w':=by
 obtain⟨hlen,hcells⟩:=hs.2 w hm;obtain⟨w',L',e1,e2,e3,e4⟩:=Mem.storeA (P:=P) b i (o+len*k) news vs 0 L w hm hi xI hone;have hLL:L'=lupd L i (some (b,bx T0 (Ao_ vs (o+len*k) news))):=funext λq=>by
   by_cases e':q=i
   . subst e';rw[E_,e4];rfl
   . rw[C_ _ _ _ _ e',e3 q e']
 subst hLL;refine⟨w',?_,e2⟩;rw[F8_ hT hT2 hd2 hk hlen hle];simp[hcells,J_,e1]
theorem Kc_ {k len m cap bytes:Nat} {e ats:TypeId} {d2:TypeDesc} {sv:Value} {base:Option Addr} {zs old news:List Value} {w:World} (j:Nat) (hT:P.underlying T=some (.slice e)) (hT2:P.underlying T2=some d2) (hd2:G8_ d2=true) (hk:Sz P e k) (hb:By P e bytes) (h0:0<bytes) (hz:Zr P e zs) (hzl:zs.length=k) (hzo:∀ u∈zs,u.oneCell'=true)
   (hs:Src P N H L k sv m news) (hm:Mem N H L w) (hle:¬len+m<=cap) (hbd:(len+m)*bytes<=140737488355328) (hold:∀ w,Mem N H L w->(Builtin.firstCells k len (.slice base len cap)).run P w = .ok old.toArray w) (hol:old.length=len*k) :
   ∃ w' nc b rest,(Builtin.append_ #[T,T2] ats #[.slice base len cap,sv]).run P w = .ok (.slice (some ⟨b,0,none⟩) (len+m) nc) w'/\len+m<=nc/\(old++news++rest).length=nc*k/\(∀ u∈rest,u.oneCell'=true)/\Mem N H (lupd L j (some (b,bx e (old++news++rest)))) w':=by
 obtain⟨inf,hinf,hbb⟩:=hb w;obtain⟨hlen,hcells⟩:=hs.2 w hm;have hfit:=growslice_fits (need:=len+m) (old:=cap) (bytes:=bytes) xI hbd;have hgrow:=Lp_ (P:=P) (ats:=ats) (base:=base) hT hT2 hd2 hk hlen hle hinf xI (by rw[hbb];omega);obtain⟨nc,hnc⟩:∃ nc,nc=(Question.appendCap (len+m) cap e).cut (w.tape w.drawn (Question.appendCap (len+m) cap e)):=⟨_,rfl⟩;have hnge:len+m<=nc:=by rw[hnc];simp only[Question.cut];omega
 have hzc:∀ q,(Builtin.zeroCells zs.toArray q).size=q*k:=λq=>by simp[Builtin.zeroCells,hzl]
 refine⟨_,nc,w.heap.size,(Builtin.zeroCells zs.toArray (nc-(len+m))).toList,?_,hnge,?_,λu hu=>?_,(hm.drew (w.drawn+1)).push j _⟩;rw[hgrow];obtain⟨z,hz1,hz2⟩:=hz w.drew;obtain⟨inf',hinf',_⟩:=hb w.drew;obtain⟨_,hcells'⟩:=hs.2 w.drew (hm.drew (w.drawn+1));have hold':=hold w.drew (hm.drew (w.drawn+1));have hq:(Question.appendCap (len+m) cap e).forced=false:=rfl;simp[hq,hinf',hcells',hz1,hz2,newRow,bx,hold',<- hnc];exact yO
 . simp only[List.length_append,Array.length_toList,hzc,hs.1,hol]
   rw[<- Nat.add_mul,<- Nat.add_mul]
   congr 1;omega
 simp only[Builtin.zeroCells,Array.toList_map,List.mem_map] at hu;obtain⟨q,hq,rfl⟩:=hu;have h1:q<(nc-(len+m))*zs.length:=by simpa using hq
 have h0:0<zs.length:=Nat.pos_of_ne_zero λe=>by rw[e] at h1;simp at h1
 have hmod:q%zs.length<zs.length:=Nat.mod_lt _ h0;have :zs.toArray[q%zs.toArray.size]! = zs[q%zs.length]:=by simp[hmod]
 rw[this];exact hzo _ (List.getElem_mem hmod)
theorem Mem.renum {w:World} {i j:Nat} {x:Option (Nat×Obj)} (hm:Mem N H (lupd L i x) w) (hj:L j=none) (hij:j≠i):Mem N H (lupd (lupd L i none) j x) w:=by
 have hx:∀ q (y:Nat×Obj),lupd (lupd L i none) j x q=some y->∃ q',lupd L i x q'=some y/\(q=j/\q'=i\/q≠j/\q'=q/\q≠i):=λq y e=>by
   by_cases e1:q=j
   . subst e1;rw[E_] at e;exact⟨i,by rw[E_];exact e, .inl ⟨rfl,rfl⟩⟩
   . rw[C_ _ _ _ _ e1] at e
     obtain⟨e2,e3⟩:=J2_ e
     exact⟨q,by rw[C_ _ _ _ _ e2];exact e3, .inr ⟨e1,rfl,e2⟩⟩
 refine hm.sub (λq y e=>?_) (λq q' y y' e e' hb=>?_);obtain⟨p,h1,_⟩:=hx q y e;exact⟨p,h1⟩
 . obtain⟨p,h1,c1⟩:=hx q y e
   obtain⟨p',h2,c2⟩:=hx q' y' e'
   obtain⟨yb,yo⟩:=y;obtain⟨yb',yo'⟩:=y'
   cases (show yb=yb' from hb)
   have :=hm.ll p p' yb yo yo' h1 h2
   omega
theorem Post.take {h1 h2:He} {i:Nat} {hb hb0:HB} {q:Pl} {x:Option (Nat×Obj)} (hr:HR β h nx L) (h0:h.get i=some hb0) (g1:h1.get i=some .dead) (g2:∀ j,j≠i->h1.get j=h.get j) (g3:h2.get nx=some hb) (g4:∀ j,j≠nx->h2.get j=h1.get j) (hB:BR (bset β nx q) nx hb x) :
   Post β h nx L (bset β nx q) h2 (nx+1) (lupd (lupd L i none) nx x):=
 (Post.set hr h0 g1 g2 (show BR β i .dead none from rfl)).trans (.new (Post.set hr h0 g1 g2 (show BR β i .dead none from rfl)).hr g3 g4 hB)
end
end Go.CE
namespace Go.CE
open Go.SW
noncomputable section
variable {P:Program} {n:Nat} {N:SW.Rest} {F:Fr} {H:Hp} {L:Ls} {ty T T' T2:TypeId} {x y z:Operand} {β:Be} {f:Fe} {h:He} {nx:Nat}
inductive CC where
 |b (n x:Nat)
 |c (cs:List CV)
def CC.len:CC->Nat
 | .b n _=>n
 | .c cs=>cs.length
def CC.R (β:Be):CC->List Value->Prop
 | .b n x,vs=>x<256 ^ n/\vs=(dec n x).map u8v
 | .c cs,vs=>VRs β cs vs/\∀ v∈vs,v.oneCell'=true
theorem CC.R.length {c:CC} {vs:List Value} (hr:c.R β vs):vs.length=c.len:=by
 cases c with
 |b n x=>rw[hr.2];simp[CC.len,B_]
 |c cs=>exact hr.1.length
theorem CC.R.one {c:CC} {vs:List Value} (hr:c.R β vs):∀ v∈vs,v.oneCell'=true:=by
 cases c with
 |b n x=>intro v hv;rw[hr.2] at hv;obtain⟨a,_,rfl⟩:=List.mem_map.1 hv;rfl
 |c cs=>exact hr.2
theorem CC.R.mono {β':Be} (hl:β.le β') {c:CC} {vs:List Value} (hr:c.R β vs):c.R β' vs:=by
 cases c with
 |b n x=>exact hr
 |c cs=>exact⟨hr.1.mono hl,hr.2⟩
def CC.sub (o m:Nat) (c:CC):Option CC:=bif Nat.ble (o+m) c.len then (match c with
 | .b _ x=>some (.b m (x/256 ^ o%256 ^ m))
 | .c cs=>some (.c ((cs.drop o).take m))) else none
theorem CC.sub_ok {o m:Nat} {c d:CC} {vs:List Value} (e:c.sub o m=some d) (hr:c.R β vs):d.R β ((vs.drop o).take m)/\d.len=m/\o+m<=c.len:=by
 unfold CC.sub at e
 cases hb:Nat.ble (o+m) c.len with
 |false=>rw[hb] at e;cases e
 |true=>
   rw[hb] at e
   have hle:=Nat.le_of_ble_eq_true hb
   simp only[cond_true] at e
   split at e
   . rename_i l x
     simp only[Option.some.injEq] at e;subst e
     simp only[CC.len] at hle
     refine⟨⟨Nat.mod_lt _ (Nat.pow_pos xI),?_⟩,rfl,hle⟩
     rw[hr.2,<- List.map_drop,<- List.map_take,De_ o l x xI,Cj_ m (l-o) _ xI]
   . rename_i cs
     simp only[Option.some.injEq] at e;subst e
     simp only[CC.len] at hle
     exact⟨⟨(hr.1.drop o).take m,λv hv=>hr.2 v (List.mem_of_mem_drop (List.mem_of_mem_take hv))⟩,by simp[CC.len];omega,hle⟩
def CC.app (c d:CC):Option CC:=match c with
 | .b n x=>match d with
   | .b m y=>some (.b (n+m) (x+y*256 ^ n))
   | .c _=>none
 | .c cs=>match d with
   | .c ds=>some (.c (cs++ds))
   | .b _ _=>none
theorem CC.app_ok {c d e:CC} {vs us:List Value} (h:c.app d=some e) (hc:c.R β vs) (hd:d.R β us):e.R β (vs++us)/\e.len=c.len+d.len:=by
 unfold CC.app at h
 split at h
 . split at h
   simp only[Option.some.injEq] at h;subst h
   exact⟨⟨Me_ hc.1 hd.1,by rw[hc.2,hd.2,<- List.map_append,Es_ _ _ _ _ hc.1]⟩,rfl⟩
   . cases h
 . split at h
   simp only[Option.some.injEq] at h;subst h
   exact⟨⟨hc.1.app hd.1,λv hv=>(List.mem_append.1 hv).elim (hc.2 v) (hd.2 v)⟩,by simp[CC.len]⟩
   . cases h
def CC.put (o:Nat) (c d:CC):Option CC:=bif Nat.ble (o+d.len) c.len then (match c with
 | .b n x=>match d with
   | .b m u=>some (.b n (x%256 ^ o+u*256 ^ o+x/256 ^ (o+m)*256 ^ (o+m)))
   | .c _=>none
 | .c cs=>match d with
   | .c ds=>some (.c (D8_ cs o ds))
   | .b _ _=>none) else none
theorem CC.put_ok {o:Nat} {c d e:CC} {vs us:List Value} (h:c.put o d=some e) (hc:c.R β vs) (hd:d.R β us):e.R β (Ao_ vs o us)/\e.len=c.len/\o+d.len<=c.len:=by
 unfold CC.put at h
 cases hb:Nat.ble (o+d.len) c.len with
 |false=>rw[hb] at h;cases h
 |true=>
   rw[hb] at h
   have hle:=Nat.le_of_ble_eq_true hb
   simp only[cond_true] at h
   split at h
   . rename_i l x
     split at h
     . rename_i m u
       simp only[Option.some.injEq] at h;subst h
       simp only[CC.len] at hle
       obtain⟨d1,d2⟩:=Od_ hc.1 hd.1 hle
       refine⟨⟨d2,?_⟩,rfl,hle⟩
       rw[hc.2,hd.2,B0_ _ _ _ (by simp[B_];omega)]
       simp only[List.length_map,B_]
       rw[<- List.map_take,<- List.map_drop,<- List.map_append,<- List.map_append,d1]
     . cases h
   . split at h
     . simp only[Option.some.injEq] at h;subst h
       exact⟨⟨Fa_ _ _ _ hc.1 hd.1,C4_ _ _ _ hc.2 hd.2⟩,by simp[CC.len,Bj_],hle⟩
     . cases h
def hbC:HB->Option (TypeId×CC×Bool)
 | .cells T cs gr=>some (T, .c cs,gr)
 | .bys T n x gr=>some (T, .b n x,gr)
 |_=>none
def CC.hb (T:TypeId) (c:CC) (gr:Bool):HB:=match c with
 | .b n x=> .bys T n x gr
 | .c cs=> .cells T cs gr
theorem BR.cc {i:Nat} {hb:HB} {c:CC} {gr:Bool} {x:Option (Nat×Obj)} (hB:BR β i hb x) (e:hbC hb=some (T,c,gr)):∃ q vs,β i=some q/\x=some (q.b,bx T vs)/\vs.length=q.s+q.r/\c.len<=q.r/\(gr=false->q.s=0/\q.r=c.len)/\c.R β ((vs.drop q.s).take c.len)/\(∀ v∈vs,v.oneCell'=true):=by
 unfold hbC at e
 split at e
 simp only[Option.some.injEq,Prod.mk.injEq] at e;obtain⟨rfl,rfl,rfl⟩:=e;obtain⟨q,vs,h1,h2,h3,h4,h5,h6,h7⟩:=hB;exact⟨q,vs,h1,h2,h3,h4,h5,⟨h6,λv hv=>h7 v (List.mem_of_mem_drop (List.mem_of_mem_take hv))⟩,h7⟩;simp only[Option.some.injEq,Prod.mk.injEq] at e;obtain⟨rfl,rfl,rfl⟩:=e;obtain⟨q,vs,h1,h2,h3,h4,h5,h6,h7,h8⟩:=hB;exact⟨q,vs,h1,h2,h3,h4,h5,⟨h6,h7⟩,h8⟩
 . cases e
theorem CC.br {i:Nat} {c:CC} {gr:Bool} {q:Pl} {vs:List Value} (h1:β i=some q) (h3:vs.length=q.s+q.r) (h4:c.len<=q.r) (h5:gr=false->q.s=0/\q.r=c.len) (h6:c.R β ((vs.drop q.s).take c.len)) (h7:∀ v∈vs,v.oneCell'=true):BR β i (c.hb T gr) (some (q.b,bx T vs)):=by
 cases c with
 |b n x=>exact⟨q,vs,h1,rfl,h3,h4,h5,h6.1,h6.2,h7⟩
 |c cs=>exact⟨q,vs,h1,rfl,h3,h4,h5,h6.1,h7⟩
def CC.nil (isb:Bool):CC:=bif isb then .b 0 0 else .c []
theorem CC.nil_ok {isb:Bool}:(CC.nil isb).R β []/\(CC.nil isb).len=0:=by
 cases isb
 exact⟨⟨.nil,λv hv=>by cases hv⟩,rfl⟩
 exact⟨⟨by simp,rfl⟩,rfl⟩
def srcE (h:He) (isb:Bool) (k:Nat) (a:CV):Option (Nat×CC):=match a with
 | .str n x=>bif isb then some (n, .b n x) else none
 | .nils=>some (0,CC.nil isb)
 | .sl i o len _=>match len with
   |0=>some (0,CC.nil isb)
   |_=>match h.get i with
     |some hb=>match hbC hb with
       |some (_,c,_)=>match c.sub o (len*k) with
         |some d=>some (len,d)
         |none=>none
       |none=>none
     |none=>none
 | .slu i o len _=>match len with
   |0=>some (0,CC.nil isb)
   |_=>match h.get i with
     |some hb=>match hbC hb with
       |some (_,c,_)=>match c.sub o (len*k) with
         |some d=>some (len,d)
         |none=>none
       |none=>none
     |none=>none
 |_=>none
theorem Ss_ {k:Nat} {a:Option Addr} {c:Nat}:Src P N H L k (.slice a 0 c) 0 []:=⟨by simp,λw _=>⟨by simp [Builtin.lenOf],by
 cases a<;>simp[Builtin.firstCells,loadCells,loadCellsFrom]⟩⟩
theorem Le_ {b o i len cap k T0:Nat} {vs:List Value} (hi:L i=some (b,bx T0 vs)) (hl:o+len*k<=vs.length):Src P N H L k (.slice (some ⟨b,o,none⟩) len cap) len (SW.sub vs o (len*k)):=by
 have hlen:(SW.sub vs o (len*k)).length=len*k:=by simp[SW.sub];omega
 refine⟨hlen,λw hm=>⟨by simp[Builtin.lenOf],?_⟩⟩
 have :=run_loadCells_list (P:=P) w ⟨b,o,none⟩ (SW.sub vs o (len*k)) (λj v hj=>by
   rw[J_]
   refine hm.cellL hi ?_
   simp only[SW.sub,List.getElem?_take,List.getElem?_drop] at hj
   split at hj
   . exact hj
   . cases hj)
 rw[hlen] at this;exact yY
theorem Hn_ {isb:Bool} {k m:Nat} {a:CV} {d:CC} {v:Value} (e:srcE h isb k a=some (m,d)) (hk:isb=true->k=1) (hr:HR β h nx L) (hv:VR β a v):∃ us,Src P N H L k v m us/\d.R β us:=by
 have nil:∀ {aa:Option Addr} {c:Nat},∃ us,Src P N H L k (.slice aa 0 c) 0 us/\(CC.nil isb).R β us:=λ{aa c}=>⟨[],Ss_,CC.nil_ok.1⟩;have blk:∀ {i o len cap:Nat} {q:Pl} {hb:HB} {T0:TypeId} {c:CC} {gr:Bool} {d:CC},β i=some q->h.get i=some hb->hbC hb=some (T0,c,gr)->c.sub o (len*k)=some d->∃ us,Src P N H L k (.slice (some ⟨q.b,q.s+o,none⟩) len cap) len us/\d.R β us:=by
   intro i o len cap q hb T0 c gr d hq hi hc hs
   obtain⟨q',vs,f1,f2,f3,f4,f5,f6,f7⟩:=(hr.br i _ hi).cc hc
   rw[hq] at f1;cases f1
   obtain⟨s1,s2,s3⟩:=CC.sub_ok hs f6
   refine⟨_,Le_ f2 xI,?_⟩
   rw[<- Fw_ (m:=c.len) s3]
   exact s1
 unfold srcE at e
 split at e
 . rename_i l x
   cases isb with
   |false=>cases e
   |true=>
     simp only[cond_true,Option.some.injEq,Prod.mk.injEq] at e
     obtain⟨rfl,rfl⟩:=e
     have :=hk Y;subst this
     simp only[VR] at hv
     rw[hv.2]
     have hs:=src_str (P:=P) (N:=N) (H:=H) (L:=L) (l:=dec l x)
     rw[B_] at hs
     exact⟨_,hs,hv.1,rfl⟩
 simp only[Option.some.injEq,Prod.mk.injEq] at e;obtain⟨rfl,rfl⟩:=e;simp only[VR] at hv;subst hv;exact nil
 . rename_i i o len cap
   simp only[VR] at hv;obtain⟨q,hq,rfl⟩:=hv
   cases len with
   |zero=>simp only[Option.some.injEq,Prod.mk.injEq] at e;obtain⟨rfl,rfl⟩:=e;exact nil
   |succ len=>
     simp only at e
     split at e
     . rename_i hb hi
       split at e
       . rename_i T0 c gr hc
         split at e
         . exact yA
         . cases e
       . cases e
     . cases e
 . rename_i i o len k'
   simp only[VR] at hv;obtain⟨q,cc,aa,hq,_,hle,rfl,ha⟩:=hv
   cases len with
   |zero=>simp only[Option.some.injEq,Prod.mk.injEq] at e;obtain⟨rfl,rfl⟩:=e;exact nil
   |succ len=>
     simp only at e
     have :=ha xI;subst this
     split at e
     . rename_i hb hi
       split at e
       . rename_i T0 c gr hc
         split at e
         . exact yA
         . cases e
       . cases e
     . cases e
 . cases e
end
end Go.CE
