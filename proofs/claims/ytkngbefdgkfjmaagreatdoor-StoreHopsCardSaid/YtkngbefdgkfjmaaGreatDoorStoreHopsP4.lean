/-
  A part of the proof of StoreHops: What functions answer, printed by program out of their walks: stairwelllaw23.StoreRenews.
-/
import Derived.Test.YtkngbefdgkfjmaaGreatDoorStoreHopsP2
import Derived.Test.YtkngbefdgkfjmaaGreatDoorStoreHopsP3
import Derived.KernelRfl
import Derived.Shelf.LaysM
import Derived.Shelf.Strings.FieldsFuncAny
import Derived.Shelf.Pu.ParseUintPublic10
import Derived.Lib.SmallJoins
import Derived.Test.YtkngbefdgkfjmaaGreatDoorProg
import Derived.Shelf.Strings.Split
import Derived.Test.YtkngbefdgkfjmaaGreatDoorStoreHopsP1
set_option linter.unusedVariables false
set_option linter.unusedSimpArgs false
set_option maxRecDepth 100000
set_option maxHeartbeats 4000000
namespace Go.SW.V
open Go.SW
def B5_:List ItemR->Lo Unit Bool
  |[]=> .fin ()
  | x2::t=>(bif decide (4<(x2.mail.hops)) then
 .ret false
 else B5_ t)
def Bl_ (r:Int) (r3:B_×Q_×Int) (r4:Ar_):List QueueR->Lo B_ Bool
  |[]=> .fin r3.1
  | x3::t1=>(lp0 (lt (Di_ r4.stock (x3.name)) fun r7=>
 lt (Es_ r7) fun r8=>
 B5_ r8) (
 Bl_ r r3 r4 t1) (fun r=> .ret r))
def Az_ (p:PolicyR) (r:Int):List DeedR->B_->Bool
  |[],x=>true
  | x4::t2,x=>(lp1 (lt (H_ x) fun r2=>
 lt (K_ x x4) fun r3=>
 lt (H_ r3.1) fun r4=>
 (lp0 ((bif ((decide ((x4.kind)=10))&&(decide ((x4.frm)<16))) then
 (bif ((decide (r3.2.2=0))&&((decide ((x4.number)<=(A16.get r2.seen ((x4.frm).toNat))))||(!decide ((A16.get r4.seen ((x4.frm).toNat))=(x4.number))))) then
 .ret false
 else lt (K_ r3.1 x4) fun r5=>
 (bif ((decide (r3.2.2=0))&&(!decide (r5.2.2=13))) then
 .ret false
 else .fin ()))
 else (bif !decide (r4.seen=r2.seen) then
 .ret false
 else .fin ()))) (
 (bif (((!decide (r3.2.2=0))&&(!(Hn_ r4 (H_ x))))||(decide (((gt p.places ((r).toNat)).bytes)<(Ae_ r4.stock)))) then
 .ret false
 else lt (Cb_ r4.stock) fun r6=>
 Bl_ r r3 r4 r6)) (fun r=> .ret r))) (fun x1=>
 Az_ p r t2 x1) (fun r=>r))
def F6_ (p:PolicyR) (place:Int) (l:List DeedR):Bool:=
 (bif !(Jp_) then
 false
 else (bif ((!(Ky_ p))||(!(Hs_ l))) then
 true
 else lt (Jo_ p place) fun r=>
 lt (Cv_ p r) fun r1=>
 Az_ p r l r1))
variable {P:Program} {n:Nat} {N:Rest} {H0:Env} {all rest:List Oper} {Q:Qs} {ks:List Kt} {fF:Nat->PV} {fL:Nat->Blk} {T ty d:Nat} {pos:String} {af:Array Edge} {x y z:Operand} {K:St->Prop}
structure EfR where
  F:Nat->PV
  L:Nat->Blk
  eq:Option (Nat×Nat)
def mkE (tb:Tb) (n:Nat) (i b:Nat) (F:Nat->PV) (L:Nat->Blk) (o:Oper):Option EfR:=
  match o.guard with
  |some _=>none
  |none=>match o.dst with
    |none=>none
    |some d=>match Nat.blt d n with
      |false=>none
      |true=>match o.op with
        | .alloc T=>match lkT tb T with
          |some ti=>match evL ti.zero with
            |some zs=>match Bh_ zs with
              |true=>some ⟨updp F d (.own i b 0),lups L i (.box b T zs),none⟩
              |false=>none
            |none=>none
          |none=>none
        | .box T x=>match evP F x with
          | .agg cs=>match Bh_ cs with
            |true=>some ⟨updp F d (.own i b 0),lups L i (.box b T cs),none⟩
            |false=>none
          |v=>match evS v with
            |some p=>match p.one with
              |true=>some ⟨updp F d (.own i b 0),lups L i (.box b T [p]),none⟩
              |false=>none
            |none=>none
        |_=>none
def stE (tb:Tb) (F:Nat->PV) (L:Nat->Blk) (o:Oper):Option EfR:=
  match o.guard with
  |some _=>none
  |none=>match o.dst with
    |some _=>none
    |none=>match o.op with
      | .store T x y=>match evP F x with
        | .own i b off=>match L i with
          | .box b' T0 cs=>match lkT tb T with
            |some ti=>match evP F y with
              | .agg ps=>match Bh_ ps with
                |true=>match all1 ps with
                  |true=>match Nat.beq ps.length ti.size with
                    |true=>match Nat.ble (off+ti.size) cs.length with
                      |true=>match evL (cs.take off++(ps++cs.drop (off+ti.size))) with
                        |some cs'=>some ⟨F,lups L i (.box b T0 cs'),some (b',b)⟩
                        |none=>none
                      |false=>none
                    |false=>none
                  |false=>none
                |false=>none
              |v=>match Nat.beq ti.size 1 with
                |true=>match evS v with
                  |some p=>match p.one with
                    |true=>match Nat.blt off cs.length with
                      |true=>match evL (cs.set off p) with
                        |some cs'=>some ⟨F,lups L i (.box b T0 cs'),some (b',b)⟩
                        |none=>none
                      |false=>none
                    |false=>none
                  |none=>none
                |false=>none
            |none=>none
          |_=>none
        |_=>none
      |_=>none
def kindE (o:Op):Nat:=
  match o with
  | .alloc _=>0
  | .box _ _=>0
  | .store _ _ _=>1
  |_=>2
def runE (tb:Tb) (n:Nat):Nat->List Nat->(Nat->Nat)->Cf->List Kt->(Nat->PV)->(Nat->Blk)->List Prop->List Nat->List Nat->Option RR
  |0,_,_,c,ks,F,L,ps,as0,bs=>frcP ps fun ps=>frcN as0 fun as0=>frcN bs fun bs=>some ⟨c,ks,F,L,ps,as0,bs⟩
  |k+1,is,B,c,ks,F,L,ps,as0,bs=>
    match c with
    | .ops all (o::rest)=>match kindE o.op with
      |0=>match is with
        |[]=>none
        |i::is=>match mkE tb n i (B 0) F L o with
          |some ⟨F,L,_⟩=>runE tb n k is (fun i=>B (i+1)) (.ops all rest) ks F L ps as0 bs
          |none=>none
      |1=>match stE tb F L o with
        |some ⟨F,L,e⟩=>match e with
          |some (a,b)=>runE tb n k is B (.ops all rest) ks F L ps (a::as0) (b::bs)
          |none=>none
        |none=>none
      |_=>match run tb n 1 (.ops all (o::rest)) ks F L ps as0 bs with
        |some ⟨c,ks,F,L,ps,as0,bs⟩=>runE tb n k is B c ks F L ps as0 bs
        |none=>none
    |c=>match run tb n 1 c ks F L ps as0 bs with
      |some ⟨c,ks,F,L,ps,as0,bs⟩=>runE tb n k is B c ks F L ps as0 bs
      |none=>none
theorem mkE_ok {tb:Tb} (ht:tbB P tb=true) {i:Nat} {F:Nat->PV} {L:Nat->Blk} {o:Oper} (h:∀ b,∃ r,mkE tb n i b F L o=some r/\Hd P n N H0 Q (.ops all rest) ks ⟨r.F,r.L⟩):Hd P n N H0 Q (.ops all (o::rest)) ks ⟨F,L⟩:=by
  obtain⟨dst,op,ty,pos,af,g⟩:=o
  have h0:=h 0
  cases g with
  |some q=>obtain⟨r,h1,_⟩:=h0;simp[mkE] at h1
  |none=>
    cases dst with
    |none=>obtain⟨r,h1,_⟩:=h0;simp[mkE] at h1
    |some d=>
      cases hd:Nat.blt d n with
      |false=>obtain⟨r,h1,_⟩:=h0;simp[mkE,hd] at h1
      |true=>
        cases op with
        |alloc T=>
          simp only[mkE,hd] at h
          cases hti:lkT tb T with
          |none=>rw[hti] at h;obtain⟨r,h1,_⟩:=h 0;simp at h1
          |some ti=>
            rw[hti] at h
            simp only at h
            cases hz:evL ti.zero with
            |none=>rw[hz] at h;obtain⟨r,h1,_⟩:=h 0;simp at h1
            |some zs=>
              rw[hz] at h
              simp only at h
              cases hn:Bh_ zs with
              |false=>rw[hn] at h;obtain⟨r,h1,_⟩:=h 0;simp at h1
              |true=>
                rw[hn] at h
                refine ef (alloc ht i hti hz hn hd fun b=>?_)
                obtain⟨r,h1,h2⟩:=h b
                simp only[Option.some.injEq] at h1
                subst h1;exact h2
        |box T x=>
          simp only[mkE,hd] at h
          split at h
          · rename_i cs hx
            cases hn:Bh_ cs with
            |false=>rw[hn] at h;obtain⟨r,h1,_⟩:=h 0;simp at h1
            |true=>
              rw[hn] at h
              refine ef (boxA i hx hn hd fun b=>?_)
              obtain⟨r,h1,h2⟩:=h b
              simp only[Option.some.injEq] at h1
              subst h1;exact h2
          · cases hs:evS (evP F x) with
            |none=>rw[hs] at h;obtain⟨r,h1,_⟩:=h 0;simp at h1
            |some p=>
              rw[hs] at h
              simp only at h
              cases ho:p.one with
              |false=>rw[ho] at h;obtain⟨r,h1,_⟩:=h 0;simp at h1
              |true=>
                rw[ho] at h
                refine ef (box1 i hs ho hd fun b=>?_)
                obtain⟨r,h1,h2⟩:=h b
                simp only[Option.some.injEq] at h1
                subst h1;exact h2
        |_=>obtain⟨r,h1,_⟩:=h0;simp[mkE,hd] at h1
theorem stE_ok {tb:Tb} (ht:tbB P tb=true) {F:Nat->PV} {L:Nat->Blk} {o:Oper} {r:EfR} (h:stE tb F L o=some r) (he:∀ q,r.eq=some q->q.1=q.2) (k:Hd P n N H0 Q (.ops all rest) ks ⟨r.F,r.L⟩):Hd P n N H0 Q (.ops all (o::rest)) ks ⟨F,L⟩:=by
  obtain⟨dst,op,ty,pos,af,g⟩:=o
  cases g with
  |some q=>simp[stE] at h
  |none=>
    cases dst with
    |some d=>simp[stE] at h
    |none=>
      cases op with
      |store T x y=>
        simp only[stE] at h
        split at h
        · rename_i i b off hx
          split at h
          · rename_i b' T0 cs hb
            split at h
            · rename_i ti hti
              split at h
              · rename_i ps hy
                split at h
                · rename_i hn
                  split at h
                  · rename_i ho
                    split at h
                    · rename_i hsz
                      split at h
                      · rename_i hl
                        split at h
                        · rename_i cs' hc
                          simp only[Option.some.injEq] at h
                          subst h
                          exact ef (storeA ht hx hb hti hy hn ho (Nat.eq_of_beq_eq_true hsz) hl (he _ rfl) hc k)
                        · cases h
                      · cases h
                    · cases h
                  · cases h
                · cases h
              · split at h
                · rename_i hsz
                  split at h
                  · rename_i p hs
                    split at h
                    · rename_i ho
                      split at h
                      · rename_i hl
                        split at h
                        · rename_i cs' hc
                          simp only[Option.some.injEq] at h
                          subst h
                          exact ef (store1 ht hx hb hti (Nat.eq_of_beq_eq_true hsz) hs ho hl (he _ rfl) hc k)
                        · cases h
                      · cases h
                    · cases h
                  · cases h
                · cases h
            · cases h
          · cases h
        · cases h
      |_=>simp[stE] at h
def okR (P:Program) (n:Nat) (N:Rest) (H0:Env) (Q:Qs) (r:RR):Prop:=AllP r.ps/\r.as0=r.bs/\Hd P n N H0 Q r.c r.ks ⟨r.F,r.L⟩
theorem runE_ok {tb:Tb} (ht:tbB P tb=true):∀ (k:Nat) (is:List Nat) (c:Cf) (ks:List Kt) (F:Nat->PV) (L:Nat->Blk) (ps:List Prop) (as0 bs:List Nat),(∀ B:Nat->Nat,∃ r,runE tb n k is B c ks F L ps as0 bs=some r/\okR P n N H0 Q r)->AllP ps/\as0=bs/\Hd P n N H0 Q c ks ⟨F,L⟩:=by
  intro k
  induction k with
  |zero=>
    intro is c ks F L ps as0 bs h
    obtain⟨r,h1,h2,h3,h4⟩:=h (fun _=>0)
    simp only[runE,Nz_,Q0_,Option.some.injEq] at h1
    subst h1
    exact⟨h2,h3,h4⟩
  |succ k ih=>
    intro is c ks F L ps as0 bs h
    have one:(∀ B:Nat->Nat,∃ r,(match run tb n 1 c ks F L ps as0 bs with
        |some ⟨c,ks,F,L,ps,as0,bs⟩=>runE tb n k is B c ks F L ps as0 bs
        |none=>none)=some r/\okR P n N H0 Q r)->AllP ps/\as0=bs/\Hd P n N H0 Q c ks ⟨F,L⟩:=by
      intro h
      cases hr:run tb n 1 c ks F L ps as0 bs with
      |none=>obtain⟨r,h1,_⟩:=h (fun _=>0);rw[hr] at h1;cases h1
      |some q=>
        obtain⟨c',ks',F',L',ps',as',bs'⟩:=q
        obtain⟨i1,i2,i3⟩:=ih is c' ks' F' L' ps' as' bs' (fun B=>by obtain⟨r,h1,h2⟩:=h B;rw[hr] at h1;exact⟨r,h1,h2⟩)
        obtain⟨j1,j2,j3⟩:=run_ok ht (Q:=Q) (N:=N) (H0:=H0) 1 c ks F L ps as0 bs _ hr i1 i2
        exact⟨j1,j2,j3 i3⟩
    cases c with
    |code c=>exact one h
    |ex e=>exact one h
    |ops all l=>
      cases l with
      |nil=>exact one h
      |cons o rest=>
        simp only[runE] at h
        split at h
        · cases is with
          |nil=>obtain⟨r,h1,_⟩:=h (fun _=>0);cases h1
          |cons i is=>
            have hb:∀ b,∃ r,mkE tb n i b F L o=some r/\AllP ps/\as0=bs/\Hd P n N H0 Q (.ops all rest) ks ⟨r.F,r.L⟩:=by
              intro b
              cases hm:mkE tb n i b F L o with
              |none=>obtain⟨r,h1,_⟩:=h (fun _=>b);simp only[hm] at h1;cases h1
              |some q=>
                obtain⟨F',L',e⟩:=q
                refine⟨_,rfl,ih is (.ops all rest) ks F' L' ps as0 bs fun B=>?_⟩
                obtain⟨r,h1,h2⟩:=h (fun j=>match j with|0=>b|j+1=>B j)
                simp only[hm] at h1
                exact⟨r,h1,h2⟩
            obtain⟨_,_,q1,q2,_⟩:=hb 0
            exact⟨q1,q2,mkE_ok ht fun b=>by obtain⟨r,h1,_,_,h2⟩:=hb b;exact⟨r,h1,h2⟩⟩
        · cases hs:stE tb F L o with
          |none=>obtain⟨r,h1,_⟩:=h (fun _=>0);rw[hs] at h1;cases h1
          |some q=>
            obtain⟨F',L',e⟩:=q
            cases e with
            |none=>obtain⟨r,h1,_⟩:=h (fun _=>0);rw[hs] at h1;cases h1
            |some ab=>
              obtain⟨a,b⟩:=ab
              obtain⟨i1,i2,i3⟩:=ih is (.ops all rest) ks F' L' ps (a::as0) (b::bs) (fun B=>by obtain⟨r,h1,h2⟩:=h B;rw[hs] at h1;exact⟨r,h1,h2⟩)
              simp only[List.cons.injEq] at i2
              exact⟨i1,i2.2,stE_ok ht hs (fun q hq=>by cases hq;exact i2.1) i3⟩
        · exact one h
theorem gmp {tb:Tb} (ht:tbB P tb=true) (k:Nat) (is:List Nat) {c c':Cf} {ks':List Kt} {F':(Nat->Nat)->Nat->PV} {L':(Nat->Nat)->Nat->Blk} {ps:(Nat->Nat)->List Prop} {as0 bs:(Nat->Nat)->List Nat} (h:∀ B,runE tb n k is B c ks fF fL [] [] []=some ⟨c',ks',F' B,L' B,ps B,as0 B,bs B⟩) (he:∀ B,as0 B=bs B) (hp:∀ B,AllP (ps B)) (next :∀ B:Nat->Nat,Hd P n N H0 Q c' ks' ⟨F' B,L' B⟩):Hd P n N H0 Q c ks ⟨fF,fL⟩:=
  (runE_ok ht k is c ks fF fL [] [] [] fun B=>⟨_,h B,hp B,he B,next B⟩).2.2
theorem gx {tb:Tb} (ht:tbB P tb=true) (k:Nat) {c c':Cf} {ks':List Kt} {F':Nat->PV} {L':Nat->Blk} {as0 bs:List Nat} (next :Hd P n N H0 Q c' ks' ⟨F',L'⟩) (h:run tb n k c ks fF fL [] [] []=some ⟨c',ks',F',L',[],as0,bs⟩:=by exact rfl) (he:as0=bs:=by exact rfl):Hd P n N H0 Q c ks ⟨fF,fL⟩:=go ht k h he trivial next
theorem gm {tb:Tb} (ht:tbB P tb=true) (k:Nat) (is:List Nat) {c c':Cf} {ks':List Kt} {F':(Nat->Nat)->Nat->PV} {L':(Nat->Nat)->Nat->Blk} {as0 bs:(Nat->Nat)->List Nat} (next :∀ B:Nat->Nat,Hd P n N H0 Q c' ks' ⟨F' B,L' B⟩) (h:∀ B,runE tb n k is B c ks fF fL [] [] []=some ⟨c',ks',F' B,L' B,[],as0 B,bs B⟩:=by exact fun _=>rfl) (he:∀ B,as0 B=bs B:=by exact fun _=>rfl):Hd P n N H0 Q c ks ⟨fF,fL⟩:=gmp ht k is h he (fun _=>trivial) next
abbrev jIn (xs:List Nat) (j:Option Nat):Bool:=match j with|none=>true|some j=>memB xs j
theorem sA {tb:Tb} {ti:TI} {i b b' off T0:Nat} {cs ps cs':List PV} (ht:tbB P tb=true) (k:K ⟨fF,lups fL i (.box b T0 cs')⟩) (hx:evP fF x = .own i b off:=by exact rfl) (hb:fL i = .box b' T0 cs:=by exact rfl) (hti:lkT tb T=some ti:=by exact rfl) (hy:evP fF y = .agg ps:=by exact rfl) (hn:Bh_ ps=true:=by exact rfl) (ho:all1 ps=true:=by exact rfl) (hsz:ps.length=ti.size:=by exact rfl) (hl:Nat.ble (off+ti.size) cs.length=true:=by exact rfl) (hbb:b'=b:=by exact rfl) (hc:evL (cs.take off++(ps++cs.drop (off+ti.size)))=some cs':=by exact rfl):E1 P n N H0 all ⟨none, .store T x y,ty,pos,af,none⟩ (some i) ⟨fF,fL⟩ K:=storeA ht hx hb hti hy hn ho hsz hl hbb hc k
theorem sO {tb:Tb} {ti:TI} {i b b' off T0:Nat} {cs cs':List PV} {p:PV} (ht:tbB P tb=true) (k:K ⟨fF,lups fL i (.box b T0 cs')⟩) (hx:evP fF x = .own i b off:=by exact rfl) (hb:fL i = .box b' T0 cs:=by exact rfl) (hti:lkT tb T=some ti:=by exact rfl) (hsz:ti.size=1:=by exact rfl) (hy:evS (evP fF y)=some p:=by exact rfl) (ho:p.one=true:=by exact rfl) (hl:Nat.blt off cs.length=true:=by exact rfl) (hbb:b'=b:=by exact rfl) (hc:evL (cs.set off p)=some cs':=by exact rfl):E1 P n N H0 all ⟨none, .store T x y,ty,pos,af,none⟩ (some i) ⟨fF,fL⟩ K:=store1 ht hx hb hti hsz hy ho hl hbb hc k
theorem aL {tb:Tb} {ti:TI} {zs:List PV} (ht:tbB P tb=true) (i:Nat) (k:∀ b,K ⟨updp fF d (.own i b 0),lups fL i (.box b T zs)⟩) (hti:lkT tb T=some ti:=by exact rfl) (hz:evL ti.zero=some zs:=by exact rfl) (hn:Bh_ zs=true:=by exact rfl) (hd:Nat.blt d n=true:=by exact rfl):E1 P n N H0 all ⟨some d, .alloc T,ty,pos,af,none⟩ (some i) ⟨fF,fL⟩ K:=alloc ht i hti hz hn hd k
theorem eC {f:FuncId} {args:List PV} {res:PV} {as0:Array Operand} {ats:Array TypeId} (h:Fn P H0.g f args res) (ha:argsP fF x as0.toList=some (f,args)) (k:res.wf->K ⟨updp fF d res,fL⟩) (hd:Nat.blt d n=true:=by exact rfl):E1 P n N H0 all ⟨some d, .call ⟨.value x,as0,ats⟩,ty,pos,af,none⟩ none ⟨fF,fL⟩ K:=ecall h ha hd k
theorem vE {xs:List Nat} {fuel:Nat} {listed:Array Bool} {o:Oper} {j:Option Nat} (i:Nat) (hi:nth all i=some o) (h:E1 P n N H0 all o j ⟨fF,fL⟩ (fun s'=>Hv P n N H0 Q (some xs) all fuel (listed.setIfInBounds i true) ks s')) (hr:Region.ready .any all.toArray listed=[i]:=by kernel_rfl) (hj:jIn xs j=true:=by exact rfl):Hv P n N H0 Q (some xs) all (fuel+1) listed ks ⟨fF,fL⟩:=ve i hi hr hj h
theorem vT {xs:Option (List Nat)} {fuel:Nat} {listed:Array Bool} {o:Oper} {j:Option Nat} (i:Nat) (hi:nth all i=some o) (h:E1 P n N H0 all o j ⟨fF,fL⟩ (fun s'=>Hv P n N H0 Q none all fuel (listed.setIfInBounds i true) ks s')) (hr:Region.ready .any all.toArray listed=[i]:=by kernel_rfl) (ht:Yg_ all listed i=true:=by kernel_rfl):Hv P n N H0 Q xs all (fuel+1) listed ks ⟨fF,fL⟩:=vt i hi hr ht h
theorem vD {xs:Option (List Nat)} {fuel:Nat} {listed:Array Bool} (k:Hd P n N H0 Q (.ex .normal) ks ⟨fF,fL⟩) (h:Region.ready .any all.toArray listed=[]:=by kernel_rfl):Hv P n N H0 Q xs all fuel listed ks ⟨fF,fL⟩:=vdone h k
theorem aN (xs:List Nat) (m:Nat) {id:Nat} {ops:Array Oper} (hmx:P.follows .mixedOrders=true) (h:Hv P n N H0 Q (some xs) ops.toList m (Array.replicate m false) ks ⟨fF,fL⟩) (hm:ops.toList.length=m:=by exact rfl):Hd P n N H0 Q (.code (.region id ops true)) ks ⟨fF,fL⟩:=any xs m hmx hm h
theorem gX {tb:Tb} (ht:tbB P tb=true) (order:List Nat) (f:Nat) {xs:Option (List Nat)} {fuel:Nat} {listed:Array Bool} {F':Nat->PV} {L':Nat->Blk} {as0 bs:List Nat} (next :Hv P n N H0 Q xs all f (lst listed order) ks ⟨F',L'⟩) (hf:fuel=f+order.length:=by exact rfl) (hc:chkV n all order listed=true:=by kernel_rfl) (h:runV tb xs all order fF fL [] [] []=some ⟨F',L',[],as0,bs⟩:=by exact rfl) (he:as0=bs:=by exact rfl):Hv P n N H0 Q xs all fuel listed ks ⟨fF,fL⟩:=gov ht order f hf hc h he trivial next
theorem vC {xs:Option (List Nat)} {fuel:Nat} {listed:Array Bool} {f:FuncId} {args:List PV} {res:PV} {as0:Array Operand} {ats:Array TypeId} (i:Nat) (hi:nth all i=some ⟨some d, .call ⟨.value x,as0,ats⟩,ty,pos,af,none⟩) (h:Fn P H0.g f args res) (ha:argsP fF x as0.toList=some (f,args)) (k:res.wf->Hv P n N H0 Q xs all fuel (listed.setIfInBounds i true) ks ⟨updp fF d res,fL⟩) (hck:(rdB all listed i&&apB n all listed i ⟨some d, .call ⟨.value x,as0,ats⟩,ty,pos,af,none⟩&&Nat.blt d n&&nosB (.call ⟨.value x,as0,ats⟩))=true:=by kernel_rfl) (hf:res.flat=true:=by exact rfl):Hv P n N H0 Q xs all (fuel+1) listed ks ⟨fF,fL⟩:=vcall i hi hck h hf ha k
theorem nX {ι:Type _} {keep kL:List Nat} {G:Nat->PV} {GL:Nat->Blk} {lv:ι->List (Nat×PV)} {lL:ι->List (Nat×Blk)} {Φ:ι->Prop} {μ:ι->Nat} {m:Nat} {ks:List Kt} {Q:Qs} (x':ι) (hΦ:Φ x') (h3:AllF fF (lv x')) (h4:AllL fL (lL x')) (h1:keep.map fF=keep.map G:=by exact rfl) (h2:kL.map fL=kL.map GL:=by exact rfl) (hm:μ x'<m:=by decide):Hd P n N H0 Q (.ex .normal) (.lp (LJ (fun x=>⟨mkF (lv x) keep G,mkL (lL x) kL GL⟩) Φ μ m)::ks) ⟨fF,fL⟩:=next x' h1 h2 h3 h4 hm hΦ
theorem cE {α:Type} {v a b:α} {c:Operand} {p q:Code} {t:Bool} (e:v = bif t then a else b) (ht:t=true->v=a->Hd P n N H0 Q (.code p) ks ⟨fF,fL⟩) (hf:t=false->v=b->Hd P n N H0 Q (.code q) ks ⟨fF,fL⟩) (hc:evP fF c = .bool t:=by exact rfl):Hd P n N H0 Q (.code (.cond c p q)) ks ⟨fF,fL⟩:=cnd hc (fun h=>ht h (e.trans (by rw[h];rfl))) (fun h=>hf h (e.trans (by rw[h];rfl)))
theorem cD {α:Type} {v a b:α} {c:Operand} {p q:Code} {t:Prop} [Decidable t] (e:v = bif decide t then a else b) (ht:t->v=a->Hd P n N H0 Q (.code p) ks ⟨fF,fL⟩) (hf:¬t->v=b->Hd P n N H0 Q (.code q) ks ⟨fF,fL⟩) (hc:evP fF c = .bool (decide t):=by exact rfl):Hd P n N H0 Q (.code (.cond c p q)) ks ⟨fF,fL⟩:=cE e (fun h=>ht (of_decide_eq_true h)) (fun h=>hf (of_decide_eq_false h)) hc
theorem cN {α:Type} {v a b:α} {c:Operand} {p q:Code} {t:Prop} [Decidable t] (e:v = bif !decide t then a else b) (ht:¬t->v=a->Hd P n N H0 Q (.code p) ks ⟨fF,fL⟩) (hf:t->v=b->Hd P n N H0 Q (.code q) ks ⟨fF,fL⟩) (hc:evP fF c = .bool (!decide t):=by exact rfl):Hd P n N H0 Q (.code (.cond c p q)) ks ⟨fF,fL⟩:=cE e (fun h=>ht (by simpa using h)) (fun h=>hf (by simpa using h)) hc
theorem fC {tb:Tb} {G:Gb} {m:Nat} {f:FuncId} {fn:Func} {c:Code} {args:List PV} {res:PV} (hf:P.funcs[f]? = some fn) (ht:tbB P tb=true) (hn:fn.ntmps=m) (h:PV.wfs args->∀ N H,G.p H->Hd P m N ⟨H,G⟩ (rtK tb fn.results.toList res) (.code c) [] ⟨Kx_ args,fun _=> .no⟩) (hb:fn.body=some c:=by exact rfl) (hs:Nat.ble args.length m=true:=by exact rfl) (h1:(fn.name == "runtime.NumGoroutine")=false:=by kernel_rfl) (h2:fn.body.isNone=false:=by kernel_rfl) (hno:res.noOsl=true:=by exact rfl) (hna:Bh_ args=true:=by exact rfl):Fn P G f args res:=fn_cw ht hf hb hn hs (W_ hf h1 h2) hno hna h
variable {tb:Tb} {rs:List ResultVar} {as0 bs:List Nat} {res q0 q1 q2 q3:PV}
theorem qr1 (h:Fn_ tb ⟨fF,fL⟩ rs=some ([q0],as0,bs):=by exact rfl) (he:as0=bs:=by exact rfl) (hp:PLe q0 res:=by exact ple rfl):Hd P n N H0 (rtK tb rs res) (.ex .ret) [] ⟨fF,fL⟩:=rt1 h he hp
theorem qr2 (h:Fn_ tb ⟨fF,fL⟩ rs=some ([q0,q1],as0,bs):=by exact rfl) (he:as0=bs:=by exact rfl) (hp:PLe (.tup [q0,q1]) res:=by exact ple rfl):Hd P n N H0 (rtK tb rs res) (.ex .ret) [] ⟨fF,fL⟩:=rt2 h he hp
theorem qr3 (h:Fn_ tb ⟨fF,fL⟩ rs=some ([q0,q1,q2],as0,bs):=by exact rfl) (he:as0=bs:=by exact rfl) (hp:PLe (.tup [q0,q1,q2]) res:=by exact ple rfl):Hd P n N H0 (rtK tb rs res) (.ex .ret) [] ⟨fF,fL⟩:=rt3 h he hp
theorem qr4 (h:Fn_ tb ⟨fF,fL⟩ rs=some ([q0,q1,q2,q3],as0,bs):=by exact rfl) (he:as0=bs:=by exact rfl) (hp:PLe (.tup [q0,q1,q2,q3]) res:=by exact ple rfl):Hd P n N H0 (rtK tb rs res) (.ex .ret) [] ⟨fF,fL⟩:=rt4 h he hp
theorem cV {α β:Type} {v:β} {g:α} {kf:α->β} {f:FuncId} {args:List PV} {xs:Array Operand} {ats:Array TypeId} (e:v=lt g kf) (enc:α->PV) (h:Fn P H0.g f args (enc g)) (ha:argsP fF x xs.toList=some (f,args)) (k:∀ r,r=g->v=kf r->(enc r).wf->Hd P n N H0 Q (.ops all rest) ks ⟨updp fF d (enc r),fL⟩) (hd:Nat.blt d n=true:=by exact rfl):Hd P n N H0 Q (.ops all (⟨some d, .call ⟨.value x,xs,ats⟩,ty,pos,af,none⟩::rest)) ks ⟨fF,fL⟩:=
  callv g enc h ha hd fun r hr w=>k r hr (e.trans (Ge_ hr)) w
theorem gy {tb:Tb} (ht:tbB P tb=true) (k:Nat) {c c':Cf} {ks':List Kt} {F':Nat->PV} {L':Nat->Blk} {ps:List Prop} {as0 bs:List Nat} (next :Hd P n N H0 Q c' ks' ⟨F',L'⟩) (h:run tb n k c ks fF fL [] [] []=some ⟨c',ks',F',L',ps,as0,bs⟩:=by exact rfl) (he:as0=bs:=by exact rfl) (hp:AllP ps:=by repeat' (first|exact trivial|refine And.intro ?_ ?_|exact fun hc=>hc|exact rfl|exact fun hc=>rfl|omega|(intro hc;omega)|(intro hc;rw[hc];rfl))):Hd P n N H0 Q c ks ⟨fF,fL⟩:=go ht k h he hp next
theorem gmy {tb:Tb} (ht:tbB P tb=true) (k:Nat) (is:List Nat) {c c':Cf} {ks':List Kt} {F':(Nat->Nat)->Nat->PV} {L':(Nat->Nat)->Nat->Blk} {ps:(Nat->Nat)->List Prop} {as0 bs:(Nat->Nat)->List Nat} (next :∀ B:Nat->Nat,Hd P n N H0 Q c' ks' ⟨F' B,L' B⟩) (h:∀ B,runE tb n k is B c ks fF fL [] [] []=some ⟨c',ks',F' B,L' B,ps B,as0 B,bs B⟩:=by exact fun _=>rfl) (he:∀ B,as0 B=bs B:=by exact fun _=>rfl) (hp:∀ B,AllP (ps B):=by intro B;repeat' (first|exact trivial|refine And.intro ?_ ?_|exact fun hc=>hc|exact rfl|exact fun hc=>rfl|omega|(intro hc;omega)|(intro hc;rw[hc];rfl))):Hd P n N H0 Q c ks ⟨fF,fL⟩:=gmp ht k is h he hp next
theorem gXy {tb:Tb} (ht:tbB P tb=true) (order:List Nat) (f:Nat) {xs:Option (List Nat)} {fuel:Nat} {listed:Array Bool} {F':Nat->PV} {L':Nat->Blk} {ps:List Prop} {as0 bs:List Nat} (next :Hv P n N H0 Q xs all f (lst listed order) ks ⟨F',L'⟩) (hf:fuel=f+order.length:=by exact rfl) (hc:chkV n all order listed=true:=by kernel_rfl) (h:runV tb xs all order fF fL [] [] []=some ⟨F',L',ps,as0,bs⟩:=by exact rfl) (he:as0=bs:=by exact rfl) (hp:AllP ps:=by repeat' (first|exact trivial|refine And.intro ?_ ?_|exact fun hc=>hc|exact rfl|exact fun hc=>rfl|omega|(intro hc;omega)|(intro hc;rw[hc];rfl))):Hv P n N H0 Q xs all fuel listed ks ⟨fF,fL⟩:=gov ht order f hf hc h he hp next
end Go.SW.V
namespace Go.SW.V
open Go.SW
inductive EqL {α:Type _} (F G:Nat->α):List Nat->Prop
  |nil:EqL F G []
  |cons {k:Nat} {l:List Nat}:F k=G k->EqL F G l->EqL F G (k::l)
theorem EqL.map {α:Type _} {F G:Nat->α}:∀ {l:List Nat},EqL F G l->l.map F=l.map G
  |[],_=>rfl
  |k::l, .cons h hl=>by rw[List.map_cons,List.map_cons,h,hl.map]
variable {P:Program} {n:Nat} {N:Rest} {H0:Env} {fF:Nat->PV} {fL:Nat->Blk}
theorem nZ {ι:Type _} {keep kL:List Nat} {G:Nat->PV} {GL:Nat->Blk} {lv:ι->List (Nat×PV)} {lL:ι->List (Nat×Blk)} {Φ:ι->Prop} {μ:ι->Nat} {m:Nat} {ks:List Kt} {Q:Qs} (x':ι) (hΦ:Φ x') (h3:AllF fF (lv x')) (h4:AllL fL (lL x'))
    (h1:EqL fF G keep:=by ((repeat' (first|exact EqL.nil|refine EqL.cons ?_ ?_))<;>(conv=>lhs;whnf)<;>(conv=>rhs;whnf)<;>exact rfl))
    (h2:EqL fL GL kL:=by ((repeat' (first|exact EqL.nil|refine EqL.cons ?_ ?_))<;>(conv=>lhs;whnf)<;>(conv=>rhs;whnf)<;>exact rfl))
    (hm:μ x'<m:=by decide):Hd P n N H0 Q (.ex .normal) (.lp (LJ (fun x=>⟨mkF (lv x) keep G,mkL (lL x) kL GL⟩) Φ μ m)::ks) ⟨fF,fL⟩:=next x' h1.map h2.map h3 h4 hm hΦ
theorem nY {ι:Type _} {keep kL:List Nat} {G:Nat->PV} {GL:Nat->Blk} {lv:ι->List (Nat×PV)} {lL:ι->List (Nat×Blk)} {Φ:ι->Prop} {μ:ι->Nat} {m:Nat} {ks:List Kt} {Q:Qs} (x':ι) (h3:AllF fF (lv x')) (h4:AllL fL (lL x')) (hm:μ x'<m) (hΦ:Φ x')
    (h1:EqL fF G keep:=by ((repeat' (first|exact EqL.nil|refine EqL.cons ?_ ?_))<;>(conv=>lhs;whnf)<;>(conv=>rhs;whnf)<;>exact rfl))
    (h2:EqL fL GL kL:=by ((repeat' (first|exact EqL.nil|refine EqL.cons ?_ ?_))<;>(conv=>lhs;whnf)<;>(conv=>rhs;whnf)<;>exact rfl)):Hd P n N H0 Q (.ex .normal) (.lp (LJ (fun x=>⟨mkF (lv x) keep G,mkL (lL x) kL GL⟩) Φ μ m)::ks) ⟨fF,fL⟩:=next x' h1.map h2.map h3 h4 hm hΦ
end Go.SW.V
namespace Go.Proofs
open Go.Shelf
def Tryz.lays229_ren:Go.Shelf.Ren:=⟨fun|229=>295|n=>n,fun|9=>9|40=>406|31=>244|152=>443|3=>3|0=>0|4=>4|21=>21|154=>445|n=>n,fun|n=>n⟩
theorem Tryz.lays229:Go.Proofs.Lays.n229 Tryz.prog Tryz.lays229_ren:={
  mixed:=by kernel_rfl
  f229:=Tryz.func295.trans (congrArg some (by kernel_rfl))
  t0:=Tryz.underlying0
  a0:=Tryz.isAgg0
  z0:=Tryz.sizeOf0
  v0:=Tryz.zeroValue0
  t3:=Tryz.underlying3
  a3:=Tryz.isAgg3
  z3:=Tryz.sizeOf3
  v3:=Tryz.zeroValue3
  t4:=Tryz.underlying4
  a4:=Tryz.isAgg4
  z4:=Tryz.sizeOf4
  v4:=Tryz.zeroValue4
  t9:=Tryz.underlying9
  a9:=Tryz.isAgg9
  z9:=Tryz.sizeOf9
  v9:=Tryz.zeroValue9
  t21:=Tryz.underlying21
  a21:=Tryz.isAgg21
  z21:=Tryz.sizeOf21
  v21:=Tryz.zeroValue21
  t31:=Tryz.underlying244
  a31:=Tryz.isAgg244
  z31:=Tryz.sizeOf244
  v31:=Tryz.zeroValue244
  t40:=Tryz.underlying406
  a40:=Tryz.isAgg406
  z40:=Tryz.sizeOf406
  v40:=Tryz.zeroValue406
  t152:=Tryz.underlying443
  a152:=Tryz.isAgg443
  z152:=Tryz.sizeOf443
  v152:=Tryz.zeroValue443
  t154:=Tryz.underlying445
  a154:=Tryz.isAgg445
  z154:=Tryz.sizeOf445
  v154:=Tryz.zeroValue445}
open Go.RowKit Go.Lib in
theorem Tryz.strings_FieldsFunc (g:Nat) (lb:Array Value) (eg:∀ args w,(callFunc g args).run Tryz.prog w = .ok (.enter g args) w) (p:Nat->Bool) (s:ByteArray) (w:World) (hs:s.size<=4294967296) (hp:PredAt Tryz.prog g lb encR p w) :
    Calls Tryz.prog 295 #[.string s, .func (.func g) #[] lb] w fun e w'=>∃ A,e = .returned (.slice (some ⟨A,0,none⟩) (Lib.goFieldsP p s).length (Lib.goFieldsP p s).length)/\w.heap.size<=A /\
      w'.ownsRow w.heap.size 9 1 (.slice (some ⟨A,0,none⟩) (Lib.goFieldsP p s).length (Lib.goFieldsP p s).length) (Lib.goFieldsP p s).length ((Lib.goFieldsP p s).map Value.string)/\Below w.heap.size w w':=Any.strings_FieldsFunc Tryz.lays229 g lb eg p s w hs hp (by kernel_rfl) (by kernel_rfl)
def Tryz.laysPu14_ren:Go.Shelf.Ren:=⟨fun|14=>355|16=>369|17=>370|19=>376|20=>377|21=>378|22=>379|23=>380|24=>381|25=>382|27=>384|26=>383|28=>385|29=>386|30=>387|31=>388|32=>389|33=>390|35=>392|34=>391|36=>393|37=>394|38=>395|39=>396|40=>397|n=>n,fun|9=>9|3=>3|22=>36|24=>422|25=>466|4=>4|34=>486|5=>5|36=>457|37=>418|0=>0|39=>488|21=>21|44=>492|47=>454|50=>496|48=>494|2=>2|52=>498|55=>500|59=>503|60=>90|20=>20|61=>504|65=>507|66=>508|67=>376|n=>n,fun|0=>3|1=>4|2=>5|3=>6|4=>7|n=>n⟩
theorem Tryz.laysPu14:Go.Proofs.LaysPu.n14 Tryz.prog Tryz.laysPu14_ren:={
  mixed:=by kernel_rfl
  f14:=Tryz.func355.trans (congrArg some (by kernel_rfl))
  f16:=Tryz.func369.trans (congrArg some (by kernel_rfl))
  f17:=Tryz.func370.trans (congrArg some (by kernel_rfl))
  f19:=Tryz.func376.trans (congrArg some (by kernel_rfl))
  f20:=Tryz.func377.trans (congrArg some (by kernel_rfl))
  f21:=Tryz.func378.trans (congrArg some (by kernel_rfl))
  f22:=Tryz.func379.trans (congrArg some (by kernel_rfl))
  f23:=Tryz.func380.trans (congrArg some (by kernel_rfl))
  f24:=Tryz.func381.trans (congrArg some (by kernel_rfl))
  f25:=Tryz.func382.trans (congrArg some (by kernel_rfl))
  f26:=Tryz.func383.trans (congrArg some (by kernel_rfl))
  f27:=Tryz.func384.trans (congrArg some (by kernel_rfl))
  f28:=Tryz.func385.trans (congrArg some (by kernel_rfl))
  f29:=Tryz.func386.trans (congrArg some (by kernel_rfl))
  f30:=Tryz.func387.trans (congrArg some (by kernel_rfl))
  f31:=Tryz.func388.trans (congrArg some (by kernel_rfl))
  f32:=Tryz.func389.trans (congrArg some (by kernel_rfl))
  f33:=Tryz.func390.trans (congrArg some (by kernel_rfl))
  f34:=Tryz.func391.trans (congrArg some (by kernel_rfl))
  f35:=Tryz.func392.trans (congrArg some (by kernel_rfl))
  f36:=Tryz.func393.trans (congrArg some (by kernel_rfl))
  f37:=Tryz.func394.trans (congrArg some (by kernel_rfl))
  f38:=Tryz.func395.trans (congrArg some (by kernel_rfl))
  f39:=Tryz.func396.trans (congrArg some (by kernel_rfl))
  f40:=Tryz.func397.trans (congrArg some (by kernel_rfl))
  t0:=Tryz.underlying0
  a0:=Tryz.isAgg0
  z0:=Tryz.sizeOf0
  v0:=Tryz.zeroValue0
  i0:=by kernel_rfl
  t2:=Tryz.underlying2
  a2:=Tryz.isAgg2
  z2:=Tryz.sizeOf2
  v2:=Tryz.zeroValue2
  i2:=by kernel_rfl
  t3:=Tryz.underlying3
  a3:=Tryz.isAgg3
  z3:=Tryz.sizeOf3
  v3:=Tryz.zeroValue3
  i3:=by kernel_rfl
  t4:=Tryz.underlying4
  a4:=Tryz.isAgg4
  z4:=Tryz.sizeOf4
  v4:=Tryz.zeroValue4
  i4:=by kernel_rfl
  t5:=Tryz.underlying5
  a5:=Tryz.isAgg5
  z5:=Tryz.sizeOf5
  v5:=Tryz.zeroValue5
  i5:=by kernel_rfl
  t9:=Tryz.underlying9
  a9:=Tryz.isAgg9
  z9:=Tryz.sizeOf9
  v9:=Tryz.zeroValue9
  i9:=by kernel_rfl
  t20:=Tryz.underlying20
  a20:=Tryz.isAgg20
  z20:=Tryz.sizeOf20
  v20:=Tryz.zeroValue20
  i20:=by kernel_rfl
  t21:=Tryz.underlying21
  a21:=Tryz.isAgg21
  z21:=Tryz.sizeOf21
  v21:=Tryz.zeroValue21
  i21:=by kernel_rfl
  t22:=Tryz.underlying36
  a22:=Tryz.isAgg36
  z22:=Tryz.sizeOf36
  v22:=Tryz.zeroValue36
  i22:=by kernel_rfl
  t24:=Tryz.underlying422
  a24:=Tryz.isAgg422
  z24:=Tryz.sizeOf422
  v24:=Tryz.zeroValue422
  i24:=by kernel_rfl
  t25:=Tryz.underlying466
  a25:=Tryz.isAgg466
  z25:=Tryz.sizeOf466
  v25:=Tryz.zeroValue466
  i25:=by kernel_rfl
  t34:=Tryz.underlying486
  a34:=Tryz.isAgg486
  z34:=Tryz.sizeOf486
  v34:=Tryz.zeroValue486
  i34:=by kernel_rfl
  c34:=by kernel_rfl
  t36:=Tryz.underlying457
  a36:=Tryz.isAgg457
  z36:=Tryz.sizeOf457
  v36:=Tryz.zeroValue457
  i36:=by kernel_rfl
  t37:=Tryz.underlying418
  a37:=Tryz.isAgg418
  z37:=Tryz.sizeOf418
  v37:=Tryz.zeroValue418
  i37:=by kernel_rfl
  t39:=Tryz.underlying488
  a39:=Tryz.isAgg488
  z39:=Tryz.sizeOf488
  v39:=Tryz.zeroValue488
  i39:=by kernel_rfl
  t44:=Tryz.underlying492
  a44:=Tryz.isAgg492
  z44:=Tryz.sizeOf492
  v44:=Tryz.zeroValue492
  i44:=by kernel_rfl
  t47:=Tryz.underlying454
  a47:=Tryz.isAgg454
  z47:=Tryz.sizeOf454
  v47:=Tryz.zeroValue454
  i47:=by kernel_rfl
  t48:=Tryz.underlying494
  a48:=Tryz.isAgg494
  z48:=Tryz.sizeOf494
  v48:=Tryz.zeroValue494
  i48:=by kernel_rfl
  t50:=Tryz.underlying496
  a50:=Tryz.isAgg496
  z50:=Tryz.sizeOf496
  v50:=Tryz.zeroValue496
  i50:=by kernel_rfl
  t52:=Tryz.underlying498
  a52:=Tryz.isAgg498
  z52:=Tryz.sizeOf498
  v52:=Tryz.zeroValue498
  i52:=by kernel_rfl
  t55:=Tryz.underlying500
  a55:=Tryz.isAgg500
  z55:=Tryz.sizeOf500
  v55:=Tryz.zeroValue500
  i55:=by kernel_rfl
  t59:=Tryz.underlying503
  a59:=Tryz.isAgg503
  z59:=Tryz.sizeOf503
  v59:=Tryz.zeroValue503
  i59:=by kernel_rfl
  t60:=Tryz.underlying90
  a60:=Tryz.isAgg90
  z60:=Tryz.sizeOf90
  v60:=Tryz.zeroValue90
  i60:=by kernel_rfl
  t61:=Tryz.underlying504
  a61:=Tryz.isAgg504
  z61:=Tryz.sizeOf504
  t65:=Tryz.underlying507
  a65:=Tryz.isAgg507
  z65:=Tryz.sizeOf507
  v65:=Tryz.zeroValue507
  i65:=by kernel_rfl
  t66:=Tryz.underlying508
  a66:=Tryz.isAgg508
  z66:=Tryz.sizeOf508
  v66:=Tryz.zeroValue508
  i66:=by kernel_rfl
  t67:=Tryz.underlying376
  a67:=Tryz.isAgg376
  z67:=Tryz.sizeOf376
  v67:=Tryz.zeroValue376
  i67:=by kernel_rfl
  g0:=by kernel_rfl
  m0:=by kernel_rfl
  g1:=by kernel_rfl
  m1:=by kernel_rfl
  g2:=by kernel_rfl
  m2:=by kernel_rfl
  g3:=by kernel_rfl
  m3:=by kernel_rfl
  g4:=by kernel_rfl
  m4:=by kernel_rfl}
open Go.RowKit Go.Lib in
theorem Tryz.strconv_ParseUint_10_at64_ok (s:ByteArray) (hmax:s.size<=9223372036854775806) (u:Nat) (h:Lib.parseUintB 64 s.data.toList = .ok u) (w:World) :
    Calls Tryz.prog 355 #[.string s, .int .i64 10, .int .i64 64] w fun e w'=>e = .returned (.tuple #[.int .u64 u, .nilIface])/\(w'=w\/w'=Lib.bytesWorld w 5 s):=Any.strconv_ParseUint_10_at64_ok Tryz.laysPu14 s hmax u h w
open Go.RowKit Go.Lib in
theorem Tryz.isBlank (w:World):PredAt Tryz.prog 296 #[] encR (fun r=>decide ((r:Int)=32)) w:=fun W r _=>by
  unfold FnGives
  go_enter Tryz.func296,Tryz.ntmps296
  go_wp2
  go_ret
  exact⟨rfl,0,rfl⟩
end Go.Proofs
namespace Go.SW
open Go.Proofs Go.RowKit
theorem strings_Flds (H:Hp) (s:Bs) (hs:s.length<=65536):Ph Tryz.prog 295 #[str s, .func (.func 296) #[] #[]] H (fun v H'=>∃ (a:Option Addr) (c:Nat),v = .slice a (flds s).length c/\SlH strE 1 H' (.slice a (flds s).length c) (flds s)):=by
  refine ph_rowB (T:=9) (flds_str s) (fun w hw=>by have :=Xs_ s w hw;omega) fun N L w hm=>?_
  have :=Tryz.strings_FieldsFunc 296 #[] (enters_of Tryz.func296 (by kernel_rfl) rfl) _ ⟨s.toArray⟩ w (by simp[ByteArray.size];omega) (Tryz.isBlank w)
  refine this.mono fun e w' ⟨A,h1,h2,h3,h4⟩=>⟨A,?_,h2,?_,h4⟩
  · rw[h1,List.length_map]
  · rw[List.length_map];exact h3
theorem strconv_PU (s:Bs) (hl:s.length<=19) (h0:0<s.length) (hd:E6_ s=true) (w:World):Calls Tryz.prog 355 #[str s, .int .i64 10, .int .i64 64] w fun e w'=>e = .returned (.tuple #[.int .u64 (dec s:Int), .nilIface])/\Below w.heap.size w w':=by
  refine (Tryz.strconv_ParseUint_10_at64_ok ⟨s.toArray⟩ (by simp[ByteArray.size];omega) (dec s) (dec_ok hl h0 hd).1 w).mono fun e w' ⟨he,hw⟩=>⟨he,?_⟩
  rcases hw with rfl|rfl
  · exact Below.refl _ _
  · exact Go.Joins.below_bytesWorld _ _ _ _ (Nat.le_refl _)
end Go.SW
namespace Go.Proofs
open Go.Shelf
def Tryz.lays146_ren:Go.Shelf.Ren:=⟨fun|146=>246|221=>294|268=>333|138=>334|143=>335|195=>351|197=>352|218=>353|219=>354|260=>364|217=>365|225=>366|224=>367|267=>368|266=>374|314=>375|n=>n,fun|9=>9|31=>244|3=>3|4=>4|0=>0|105=>463|21=>21|5=>5|46=>457|119=>480|139=>483|138=>482|146=>484|51=>90|n=>n,fun|1=>0|3=>1|4=>2|n=>n⟩
theorem Tryz.lays146:Go.Proofs.Lays.n146 Tryz.prog Tryz.lays146_ren:={
  mixed:=by kernel_rfl
  f138:=Tryz.func334.trans (congrArg some (by kernel_rfl))
  f143:=Tryz.func335.trans (congrArg some (by kernel_rfl))
  f146:=Tryz.func246.trans (congrArg some (by kernel_rfl))
  f195:=Tryz.func351.trans (congrArg some (by kernel_rfl))
  f197:=Tryz.func352.trans (congrArg some (by kernel_rfl))
  f217:=Tryz.func365.trans (congrArg some (by kernel_rfl))
  f218:=Tryz.func353.trans (congrArg some (by kernel_rfl))
  f219:=Tryz.func354.trans (congrArg some (by kernel_rfl))
  f221:=Tryz.func294.trans (congrArg some (by kernel_rfl))
  f224:=Tryz.func367.trans (congrArg some (by kernel_rfl))
  f225:=Tryz.func366.trans (congrArg some (by kernel_rfl))
  f260:=Tryz.func364.trans (congrArg some (by kernel_rfl))
  f266:=Tryz.func374.trans (congrArg some (by kernel_rfl))
  f267:=Tryz.func368.trans (congrArg some (by kernel_rfl))
  f268:=Tryz.func333.trans (congrArg some (by kernel_rfl))
  f314:=Tryz.func375.trans (congrArg some (by kernel_rfl))
  t0:=Tryz.underlying0
  a0:=Tryz.isAgg0
  z0:=Tryz.sizeOf0
  v0:=Tryz.zeroValue0
  t3:=Tryz.underlying3
  a3:=Tryz.isAgg3
  z3:=Tryz.sizeOf3
  v3:=Tryz.zeroValue3
  t4:=Tryz.underlying4
  a4:=Tryz.isAgg4
  z4:=Tryz.sizeOf4
  v4:=Tryz.zeroValue4
  t5:=Tryz.underlying5
  a5:=Tryz.isAgg5
  z5:=Tryz.sizeOf5
  v5:=Tryz.zeroValue5
  t9:=Tryz.underlying9
  a9:=Tryz.isAgg9
  z9:=Tryz.sizeOf9
  v9:=Tryz.zeroValue9
  t21:=Tryz.underlying21
  a21:=Tryz.isAgg21
  z21:=Tryz.sizeOf21
  v21:=Tryz.zeroValue21
  t31:=Tryz.underlying244
  a31:=Tryz.isAgg244
  z31:=Tryz.sizeOf244
  v31:=Tryz.zeroValue244
  t46:=Tryz.underlying457
  a46:=Tryz.isAgg457
  z46:=Tryz.sizeOf457
  v46:=Tryz.zeroValue457
  t51:=Tryz.underlying90
  a51:=Tryz.isAgg90
  z51:=Tryz.sizeOf90
  v51:=Tryz.zeroValue90
  t105:=Tryz.underlying463
  a105:=Tryz.isAgg463
  z105:=Tryz.sizeOf463
  v105:=Tryz.zeroValue463
  t119:=Tryz.underlying480
  a119:=Tryz.isAgg480
  z119:=Tryz.sizeOf480
  t138:=Tryz.underlying482
  a138:=Tryz.isAgg482
  z138:=Tryz.sizeOf482
  v138:=Tryz.zeroValue482
  t139:=Tryz.underlying483
  a139:=Tryz.isAgg483
  z139:=Tryz.sizeOf483
  v139:=Tryz.zeroValue483
  t146:=Tryz.underlying484
  a146:=Tryz.isAgg484
  z146:=Tryz.sizeOf484
  v146:=Tryz.zeroValue484
  g1:=by kernel_rfl
  g3:=by kernel_rfl
  g4:=by kernel_rfl}
open Go.RowKit Go.Lib in
theorem Tryz.strings_Split (s sep:ByteArray) (m:Int) (w:World) (hs:s.size<4294967281) (hm:w.cell? ⟨0,0,none⟩=some (.int .i64 m)) (h1:1<=sep.size) :
    Calls Tryz.prog 246 #[.string s, .string sep] w fun e w'=>
      e = .returned (.slice (some ⟨w.heap.size,0,none⟩) (Lib.countB s sep+1) (Lib.countB s sep+1))/\w'=w.alloc (.cells ((Lib.splitB sep 0 (Lib.countB s sep) s).map Value.string).toArray 9):=Any.strings_Split Tryz.lays146 (by kernel_rfl) s sep m w hs hm h1
end Go.Proofs
namespace Go.SW
open Go.Proofs
theorem strings_Split (H:Hp) (s p:Bs) (hp:p=[46]) (hML:GInt H 0) (hs:s.length<4294967281):Ph Tryz.prog 246 #[str s,str p] H (fun v H'=>∃ (a:Option Addr) (c:Nat),v = .slice a (dots s).length c/\SlH strE 1 H' (.slice a (dots s).length c) (dots s)):=by
  subst hp
  refine ph_strs (T:=9) (fun w hw=>by have :=Ma_ s w hw;omega) fun N L w hm=>?_
  obtain⟨m,hc⟩:=hML.cell hm
  refine (Tryz.strings_Split ⟨s.toArray⟩ ⟨#[46]⟩ m w (by simpa [Ho_] using hs) hc (by decide)).mono fun e w' ⟨he,hw⟩=>⟨?_,?_⟩
  · rw[he,Qb_]
  · rw[hw,O7_]
theorem strings_SplitL (H:Hp) (s p:Bs) (hp:p=[10]) (hML:GInt H 0) (hs:s.length<4294967281):Ph Tryz.prog 246 #[str s,str p] H (fun v H'=>∃ (a:Option Addr) (c:Nat),v = .slice a (cuts 10 s).length c/\SlH strE 1 H' (.slice a (cuts 10 s).length c) (cuts 10 s)):=by
  subst hp
  refine ph_strs (T:=9) (fun w hw=>by have :=L9_ 10 s w hw;omega) fun N L w hm=>?_
  obtain⟨m,hc⟩:=hML.cell hm
  refine (Tryz.strings_Split ⟨s.toArray⟩ ⟨#[10]⟩ m w (by simpa [Ho_] using hs) hc (by decide)).mono fun e w' ⟨he,hw⟩=>⟨?_,?_⟩
  · rw[he,Vt_]
  · rw[hw,O6_]
theorem ag417:Ag Tryz.prog 417 false:=fun w=>by kernel_rfl
theorem ag9:Ag Tryz.prog 9 false:=fun w=>by kernel_rfl
theorem cb343:Z_ Tryz.prog 343:=W_ Tryz.func343 (by kernel_rfl) (by kernel_rfl)
theorem U2_:Fld Tryz.prog 420 0 0:=fun b o w=>by kernel_rfl
theorem la420_420:liesAt Tryz.prog Tryz.prog.depth 420 (2/Tryz.prog.cellsOf 420) 0 420 1=true:=by kernel_rfl
theorem ne361:NoEsc Tryz.prog 361:=noEsc_of Tryz.func361 (by kernel_rfl) (by kernel_rfl) (by kernel_rfl) (by kernel_rfl)
theorem sz417:Sz Tryz.prog 417 1:=fun w=>by kernel_rfl
theorem sz9:Sz Tryz.prog 9 1:=fun w=>by kernel_rfl
theorem ti420:∃ j,Tryz.prog.info? 420=some j:=Option.isSome_iff_exists.1 (by kernel_rfl)
theorem tz420:∃ j,Tryz.prog.info? 420=some j/\j.size≠0:=exInfo (by kernel_rfl)
set_option maxRecDepth 100000 in
theorem copyCheck {n:Nat} {N:Rest} {F:Fr} {H:Hp} {L:Ls} {ops:List Oper} {ty d:Nat} {pos:String} {af:Array Edge} {K:Fr->Hp->Ls->Prop} {x:Operand} {ats:Array TypeId} {b:Nat} {p v:Value} (i:Nat) (hx:ev F x = .pointer (some ⟨b,0,none⟩)) (hi:L i=some (b,bx 420 [p,v]))
    (hp:p = .pointer none\/p = .pointer (some ⟨b,0,none⟩)) (hd:Nat.blt d n=true) (k:K (upd F d (.tuple #[])) H (lupd L i (some (b,bx 420 [.pointer (some ⟨b,0,none⟩),v])))):Op1 Tryz.prog n N ops ⟨some d, .call ⟨.value (.func 343),#[x],ats⟩,ty,pos,af,none⟩ K F H L:=by
  refine op1_in (en_f (vs:=[.pointer (some ⟨b,0,none⟩)]) cb343 (by simp[evs,hx])) Tryz.func343 rfl Tryz.ntmps343 rfl hd (Gg_ (Dl_ (ol rfl (Go_ (v:= .pointer (some ⟨_,_,none⟩)) rfl) (ol rfl (Ei_ rfl) (ol rfl (C2_ rfl U2_) ?_)))))
  refine ol rfl (Gt_ (i:=i) (v:=p) rfl ag417 hi rfl) ?_
  rcases hp with rfl|rfl
  · refine ol rfl (lo_pnil rfl rfl Tryz.underlying417) (G1_ (Gj_ (Y0_ rfl rfl (Dl_ (ol rfl (Go_ (v:= .pointer (some ⟨_,_,none⟩)) rfl) ?_)))))
    refine ol rfl (Go_ (v:= .pointer (some ⟨_,_,none⟩)) rfl) (ol rfl (Vj_ (i:=i) rfl hi rfl Tryz.underlying417 Tryz.underlying471 (tz420).choose_spec.1 (tz420).choose_spec.2) (ol rfl (lo_noEsc (v:= .pointer (some ⟨_,_,none⟩)) ne361 rfl) (ol rfl (Rn_ (i:=i) rfl hi Tryz.underlying471 Tryz.underlying417 (ti420).choose_spec la420_420) (ol rfl (Ei_ rfl) (ol rfl (C2_ rfl U2_) ?_)))))
    refine ow1 (Hl_ (i:=i) (v:= .pointer (some ⟨_,_,none⟩)) rfl rfl rfl sz417 hi rfl ?_)
    refine G1_ ?_
    exact fnK_n (res0 rfl) (.refl _) k
  · refine ol rfl (P3_ rfl rfl Tryz.underlying417) (G1_ (Gj_ (So_ rfl rfl (Gg_ (Dl_ ?_)))))
    refine ol rfl (Go_ (v:= .pointer (some ⟨_,_,none⟩)) rfl) (ol rfl (Ei_ rfl) (ol rfl (C2_ rfl U2_) (ol rfl (Gt_ (i:=i) (v:= .pointer (some ⟨b,0,none⟩)) rfl ag417 hi rfl) (ol rfl (Go_ (v:= .pointer (some ⟨_,_,none⟩)) rfl) (ol rfl (Vh_ rfl rfl Tryz.underlying417 (ti420).choose_spec) ?_)))))
    refine G1_ (Gj_ (So_ rfl rfl (Uw_ (fnK_n (res0 rfl) (.refl _) ?_))))
    rwa [Ws_ hi] at k
theorem sz5:Sz Tryz.prog 5 1:=fun w=>by kernel_rfl
theorem ag371:Ag Tryz.prog 371 true:=fun w=>by kernel_rfl
theorem ag418:Ag Tryz.prog 418 false:=fun w=>by kernel_rfl
theorem by5:By Tryz.prog 5 1:=by_of (by kernel_rfl)
theorem cb310:Z_ Tryz.prog 310:=W_ Tryz.func310 (by kernel_rfl) (by kernel_rfl)
theorem cb311:Z_ Tryz.prog 311:=W_ Tryz.func311 (by kernel_rfl) (by kernel_rfl)
theorem co5:Tryz.prog.cellsOf 5=1:=by kernel_rfl
theorem Zi_:Fld Tryz.prog 371 0 0:=fun b o w=>by kernel_rfl
theorem Qy_:Fld Tryz.prog 420 1 1:=fun b o w=>by kernel_rfl
theorem mixd:Tryz.prog.follows .mixedOrders=true:=by kernel_rfl
theorem sz371:Sz Tryz.prog 371 2:=fun w=>by kernel_rfl
theorem sz418:Sz Tryz.prog 418 1:=fun w=>by kernel_rfl
theorem zr371:Zr Tryz.prog 371 [str [], .int .i64 0]:=fun w=>⟨.agg #[str [], .int .i64 0],by kernel_rfl,rfl⟩
theorem zr420:Zr Tryz.prog 420 [.pointer none, .slice none 0 0]:=fun w=>⟨.agg #[.pointer none, .slice none 0 0],by kernel_rfl,rfl⟩
theorem zr5:Zr Tryz.prog 5 [.int .u8 0]:=fun w=>⟨.int .u8 0,by kernel_rfl,rfl⟩
theorem zx5:∃ z,∀ w,(zeroValue 5).run Tryz.prog w = .ok z w:=⟨.int .u8 0,fun w=>by kernel_rfl⟩
theorem out_Num (H:Hp) (o:Out) (n:Int) (n_r:0<=n/\n<=18446744073709551615) (bytes:Int) (bytes_r:-9223372036854775808<=bytes/\bytes<=9223372036854775807) (hlen:o.s.length<=4611686018427387904):Pr Tryz.prog 256 #[.agg (Out.cells o).toArray, .int .u64 n, .int .i64 bytes] H (.agg (Out.cells (C_ o n bytes)).toArray):=by
  refine pr_cw Tryz.func256 rfl Tryz.ntmps256 rfl (fun N=>?_)
  refine Gg_ (Dl_ (ow1 (op1_box (cs:=[_,_]) 0 rfl rfl (fun b1=>?_))))
  refine ow1 (Ow_ 1 rfl zr371 (fun b2=>?_))
  refine G1_ (Gj_ (Gg_ (Dl_ (ow1 (Ow_ 2 rfl zr420 (fun b3=>?_))))))
  refine G1_ (Gj_ (Gg_ (Gg_ (Dl_ (omi rfl rfl ?_)))))
  refine ol rfl (lo_max rfl rfl) (ol rfl (lo_min rfl rfl) (ol rfl (lo_sub rfl rfl (W8_ (by omega))) (oai rfl rfl (G1_ (Gj_ ?_)))))
  refine Qk_ ?_
  refine cw_loop5 [8,13,14,15,16,17,18,19,20,21,22] [2,3,4] (fun (j:Nat) (bs:Bs) (p:Value) (v:Value) (en:Option (Nat×Obj)) G=>upd (G) 8 (.int .i64 ((j:Int)-1))) (fun (j:Nat) (bs:Bs) (p:Value) (v:Value) (en:Option (Nat×Obj)) G=>lupd (lupd (G) 2 (some (b3,bx 420 [p,v]))) 3 (en)) (fun (j:Nat) (bs:Bs) (p:Value) (v:Value) (en:Option (Nat×Obj)) H'=>bs++numB j n.toNat=numB (numK bytes) n.toNat/\bs.length+j=numK bytes/\OwnV 1 5 v en bs.length (bs.map u8v)/\(bs.length=0->v = .slice none 0 0)/\(p = .pointer none\/p = .pointer (some ⟨b3,0,none⟩))) (fun (j:Nat) (bs:Bs) (p:Value) (v:Value) (en:Option (Nat×Obj))=>j) (numK bytes) [] (.pointer none) (.slice none 0 0) none (Ul_ (P4_ (by first|exact Ww_|(repeat (first|exact Wv_|refine off_upd rfl ?_|refine T3_ rfl ?_)))) (congrArg (Value.int .i64) (show min (max bytes 0) 8-1=((numK bytes:Nat):Int)-1 by unfold numK;omega))) (Kg_ (Kg_ (On_ T4_) rfl) rfl) ?_ ?_
  · exact⟨rfl,by simp,L1_,fun _=>rfl, .inl rfl⟩
  intro j bs p v en J5 JL5 H5 hp4 hl5
  obtain⟨hk1,hk2,ho,hz,hpp⟩:=hp4
  have hk8:numK bytes<=8:=by unfold numK;omega
  refine Gg_ (Gg_ (Dl_ (omi rfl rfl (ol rfl (lo_geq rfl rfl) (G1_ ?_)))))
  refine Gj_ (Ql_ rfl (fun h6=>?_) (fun h6=>?_))
  · have p7:=dt h6
    refine Uw_ (Gj_ (Gg_ (Qk_ (Dl_ (omi rfl rfl ?_)))))
    refine omi rfl rfl (ol rfl (lo_mul rfl rfl (W8_ (by omega))) (ol rfl (lo_shr rfl rfl (by omega)) ?_))
    have :=wr_u8 (Int.fdiv n (2 ^ (min ((8*((j:Int)-1)):Int).toNat (IntKind.bits .u64))))
    refine ol rfl (Vf_ rfl (by rw[Tryz.underlying36];rfl) Tryz.underlying5) ?_
    refine ow1 (op1_in (en_f cb310 rfl) Tryz.func310 rfl Tryz.ntmps310 rfl rfl ?_)
    refine Gg_ (Dl_ (ol rfl (Hu_ rfl) (G1_ (Gj_ (Gg_ ?_)))))
    refine Dl_ (ol rfl (Go_ (v:= .pointer (some ⟨_,_,none⟩)) rfl) ?_)
    refine ow1 (copyCheck 2 rfl rfl hpp rfl ?_)
    refine G1_ (Gj_ (Gg_ (Dl_ (ol rfl (Go_ (v:= .pointer (some ⟨_,_,none⟩)) rfl) (ol rfl (Go_ (v:= .pointer (some ⟨_,_,none⟩)) rfl) ?_)))))
    refine ol rfl (Ei_ rfl) (ol rfl (C2_ rfl Qy_) (ol rfl (Gt_ (i:=2) rfl ag418 rfl rfl) (omi rfl rfl ?_)))
    refine ow1 (P5_ (cs:=[_]) 4 rfl Tryz.underlying418 sz5 zx5 rfl ⟨rfl,rfl,trivial⟩ rfl rfl (by decide) (fun b8=>?_))
    refine ow1 (op1_app 3 rfl rfl Tryz.underlying418 Tryz.underlying418 rfl sz5 by5 (by decide) zr5 ho (src_bx (i:=4) rfl rfl) (List.all_eq_true.1 rfl) rfl (by omega) rfl (fun v9 en10 ho11=>?_))
    have ho12:=byte_app (bs:=bs) ho11 (by first|rfl|simp) (wrap8r _)
    refine ol rfl (Ei_ rfl) (ol rfl (C2_ rfl Qy_) ?_)
    refine ow1 (Hl_ (i:=2) rfl rfl (ownV_one ho12) sz418 rfl rfl ?_)
    refine G1_ (Gj_ (Gg_ (Dl_ (ol rfl (Hu_ rfl) (G1_ ?_)))))
    refine Gj_ (V6_ (fnK_r (res1 rfl (rv_t rfl)) (.refl _) (G1_ (blkK_n (Gj_ ?_)))))
    refine Dl_ (omi rfl rfl (ol rfl (lo_sub rfl rfl (W8_ (by omega))) (oai rfl rfl (G1_ ?_))))
    refine next5 (j-1) (bs++[UInt8.ofNat ((IntKind.wrap .u8 (Int.fdiv n (2 ^ (min ((8*((j:Int)-1)):Int).toNat (IntKind.bits .u64)))))).toNat]) (.pointer (some ⟨b3,0,none⟩)) v9 en10 (Ul_ (P4_ (by first|exact Ww_|(repeat (first|exact Wv_|refine off_upd rfl ?_|refine T3_ rfl ?_)))) (congrArg (Value.int .i64) (show ((j:Int)-1)-1=((j-1:Nat):Int)-1 by omega))) (Kg_ (Kg_ (On_ (by first|exact T4_|(repeat (first|exact offl_mask|refine offl_upd rfl ?_|refine X5_ rfl ?_)))) rfl) rfl) hl5 ?_ ?_
    · refine⟨?_,?_,ho12,(nz_of ho12 (by simp)), .inr rfl⟩
      · rw[byte_of n_r.1 (by omega) (by omega),List.append_assoc,<- hk1]
        obtain⟨q,rfl⟩:∃ q,j=q+1:=⟨j-1,by omega⟩
        simp[numB]
      simp;omega
    omega
  have p13:=df h6
  refine Y1_ (seqK_e (loopK_e (blkK_hit (Gj_ (Gg_ ?_)))))
  refine Yz_ 3 mixd (vw_q 0 rfl (by kernel_rfl) (by repeat (first|exact Gh_|exact LLe.refl _|exact Ee_|refine Gy_ ?_ rfl)) (fun _ _ hh hl=>C2_ rfl Zi_) ?_)
  refine vw_q 1 rfl (by kernel_rfl) (by repeat (first|exact Gh_|exact LLe.refl _|exact Ee_|refine Gy_ ?_ rfl)) (fun _ _ hh hl=>Gt_ (i:=0) (v:=str _) rfl ag9 (hl _ _ rfl) rfl) ?_
  refine vw_e 2 rfl (by kernel_rfl) (op1_in (en_f cb311 rfl) Tryz.func311 rfl Tryz.ntmps311 rfl rfl ?_)
  refine Gg_ (Dl_ (ol rfl (Hu_ (v:=str _) rfl) (G1_ (Gj_ (Gg_ ?_)))))
  refine Yz_ 3 mixd ?_
  refine vw_q 0 rfl (by kernel_rfl) (by repeat (first|exact Gh_|exact LLe.refl _|exact Ee_|refine Gy_ ?_ rfl)) (fun _ _ hh hl=>Go_ (v:= .pointer (some ⟨_,_,none⟩)) rfl) ?_
  refine vw_q 1 rfl (by kernel_rfl) (by repeat (first|exact Gh_|exact LLe.refl _|exact Ee_|refine Gy_ ?_ rfl)) (fun _ _ hh hl=>Ei_ rfl) ?_
  refine vw_q 2 rfl (by kernel_rfl) (by repeat (first|exact Gh_|exact LLe.refl _|exact Ee_|refine Gy_ ?_ rfl)) (fun _ _ hh hl=>C2_ rfl Qy_) ?_
  refine vw_q 3 rfl (by kernel_rfl) (by repeat (first|exact Gh_|exact LLe.refl _|exact Ee_|refine Gy_ ?_ rfl)) (fun _ _ hh hl=>Gt_ (i:=2) rfl ag418 (hl _ _ rfl) rfl) ?_
  refine vw_q 4 rfl (by kernel_rfl) (by repeat (first|exact Gh_|exact LLe.refl _|exact Ee_|refine Gy_ ?_ rfl)) (fun _ _ hh hl=>lo_usd rfl ho hz) ?_
  refine vw_q 5 rfl (by kernel_rfl) (by repeat (first|exact Gh_|exact LLe.refl _|exact Ee_|refine Gy_ ?_ rfl)) (fun _ _ hh hl=>Go_ (v:= .pointer (some ⟨_,_,none⟩)) rfl) ?_
  refine vw_q 6 rfl (by kernel_rfl) (by repeat (first|exact Gh_|exact LLe.refl _|exact Ee_|refine Gy_ ?_ rfl)) (fun _ _ hh hl=>Ei_ rfl) ?_
  refine vw_q 7 rfl (by kernel_rfl) (by repeat (first|exact Gh_|exact LLe.refl _|exact Ee_|refine Gy_ ?_ rfl)) (fun _ _ hh hl=>C2_ rfl Qy_) ?_
  refine vw_q 8 rfl (by kernel_rfl) (by repeat (first|exact Gh_|exact LLe.refl _|exact Ee_|refine Gy_ ?_ rfl)) (fun _ _ hh hl=>Gt_ (i:=2) rfl ag418 (hl _ _ rfl) rfl) ?_
  refine vw_q 9 rfl (by kernel_rfl) (by repeat (first|exact Gh_|exact LLe.refl _|exact Ee_|refine Gy_ ?_ rfl)) (fun _ _ hh hl=>P2_ rfl ho Tryz.underlying418) ?_
  refine vw_e 10 rfl (by kernel_rfl) (op1_ustr (l:=bs) 3 rfl rfl Tryz.underlying454 co5 ho hz (by have hq:=Bj_ (numK bytes) n.toNat;simp[numK] at *;omega) rfl ?_)
  refine⟨⟨(.refl _),(by repeat (first|exact Gh_|exact LLe.refl _|exact Ee_|refine Gy_ ?_ rfl))⟩,?_⟩
  refine vw_q 11 rfl (by kernel_rfl) (by repeat (first|exact Gh_|exact LLe.refl _|exact Ee_|refine Gy_ ?_ rfl)) (fun _ _ hh hl=>Hu_ (v:=str _) rfl) ?_
  refine Vy_ (by kernel_rfl) (Gj_ (V6_ (fnK_r (res1 rfl (rv_t (v:=str _) rfl)) (.refl _) ?_)))
  refine⟨⟨(.refl _),(by repeat (first|exact Gh_|exact LLe.refl _|exact Ee_|refine Gy_ ?_ rfl))⟩,?_⟩
  refine vw_q 3 rfl (by kernel_rfl) (by repeat (first|exact Gh_|exact LLe.refl _|exact Ee_|refine Gy_ ?_ rfl)) (fun _ _ hh hl=>lo_cat rfl rfl (by have hq:=Bj_ (numK bytes) n.toNat;simp[numK] at *;omega)) ?_
  refine vw_q 4 rfl (by kernel_rfl) (by repeat (first|exact Gh_|exact LLe.refl _|exact Ee_|refine Gy_ ?_ rfl)) (fun _ _ hh hl=>C2_ rfl Zi_) ?_
  refine vw_t 5 rfl (by kernel_rfl) (by kernel_rfl) (Hl_ (i:=0) (v:=str _) rfl rfl rfl sz9 rfl rfl ?_)
  refine Vy_ (by kernel_rfl) (Gj_ (Gg_ (Dl_ (ol rfl (Ng_ (i:=0) (vs:=[_,_]) rfl ag371 sz371 rfl rfl rfl) ?_))))
  refine ow1 (P6_ (i:=1) (vs:=[_,_]) rfl rfl rfl sz371 rfl rfl rfl ?_)
  refine G1_ (Gj_ (V6_ (fnK_r (res1 rfl (rv_c (i:=1) (vs:=[_,_]) rfl ag371 sz371 rfl rfl rfl)) ((HLe.refl _).trans hl5) ?_)))
  obtain rfl :j=0:=by omega
  simp only[numB,List.append_nil] at hk1
  subst hk1
  rfl
end Go.SW
namespace Go.SW.V
open Go.SW Go.Proofs
def gb:Gb:=⟨fun H=>GInt H 0,fun H H' hl h=>h.mono hl⟩
theorem gbML {H:Hp} (h:gb.p H):GInt H 0:=h
abbrev ty9:TI:=⟨.str,1,16,[.str []]⟩
def tbv1:Tb:=[(9,ty9)]
theorem tv1:tbB Tryz.prog tbv1=true:=by kernel_rfl
theorem r4_letter (c:Int):Fn Tryz.prog gb 134 [.int .u8 c] (.bool (letter c)):=by
  refine fC Tryz.func134 tv1 Tryz.ntmps134 fun w N H hG=>?_;refine gy tv1 33 ?_;refine rt1 rfl rfl (ple ?_)
  simp[letter, *]
theorem Pc_ (s:Bs):Fn Tryz.prog gb 193 [.str s] (.bool (plain s)):=by
  refine fC Tryz.func193 tv1 Tryz.ntmps193 fun w N H hG=>?_;have s_l:s.length<=9223372036854775807:=w.1;refine gx tv1 14 ?_;refine loop (ι:=Nat) [0,5,6] [] (fun k=>[(7, .int .i64 (k:Int))]) (fun k=>[]) (fun k=>k<=s.length/\(s.drop k).all (fun c=>letter c.toNat)=plain s) (fun k=>s.length-k) 0 ⟨rfl,trivial⟩ trivial ?_ ?_
  · exact⟨by omega,rfl⟩
  rintro k hp1;obtain⟨hk1,hk2⟩:=hp1;refine gx tv1 6 ?_;refine cn rfl (fun p3=>?_) fun p21=>?_
  · have :=u8r (s.getD k 0);refine gx tv1 14 ?_;refine q1 (sidx tv1 k rfl rfl rfl rfl rfl (by omega)) rfl fun w4=>?_;refine gy tv1 16 ?_;refine cnd rfl (fun h5=>?_) (fun h5=>?_)
    · have h6:=bl h5;have p7:=dt h6;have h8:=br h5;have p9:=dt h8;refine gx tv1 2 ?_;refine cndT rfl h5 ?_;refine gy tv1 8 ?_;refine next (k+1) rfl rfl ⟨rfl,trivial⟩ trivial ?_ ?_
      · omega
      exact⟨by omega,by rw[<- hk2,Hq_ (k:=k) (by omega),List.all_cons];generalize ((s.getD k 0).toNat:Int)=z at *;simp[letter, *]⟩
    refine gy tv1 11 ?_;refine cnd rfl (fun h10=>?_) (fun h10=>?_)
    · have h11:=bl h10;have p12:=dt h11;have h13:=br h10;have p14:=dt h13;refine gx tv1 2 ?_;refine cndT rfl h10 ?_;refine gy tv1 8 ?_;refine next (k+1) rfl rfl ⟨rfl,trivial⟩ trivial ?_ ?_
      · omega
      exact⟨by omega,by rw[<- hk2,Hq_ (k:=k) (by omega),List.all_cons];generalize ((s.getD k 0).toNat:Int)=z at *;simp[letter, *]⟩
    refine gx tv1 7 ?_;refine cnd rfl (fun h15=>?_) (fun h15=>?_)
    · have p16:=dt h15;refine gx tv1 2 ?_;refine cndT rfl h15 ?_;refine gy tv1 8 ?_;refine next (k+1) rfl rfl ⟨rfl,trivial⟩ trivial ?_ ?_
      · omega
      exact⟨by omega,by rw[<- hk2,Hq_ (k:=k) (by omega),List.all_cons];generalize ((s.getD k 0).toNat:Int)=z at *;simp[letter, *]⟩
    have p17:=df h15;refine gx tv1 6 ?_;refine cn rfl (fun p19=>?_) fun p20=>?_
    · refine gy tv1 8 ?_;refine next (k+1) rfl rfl ⟨rfl,trivial⟩ trivial ?_ ?_
      · omega
      exact⟨by omega,by rw[<- hk2,Hq_ (k:=k) (by omega),List.all_cons];generalize ((s.getD k 0).toNat:Int)=z at *;simp[letter, *]⟩
    refine gx tv1 12 ?_;refine rt1 rfl rfl (ple ?_);refine congrArg PV.bool ?_;first|(rw[<- hk2,Hq_ (k:=k) (by omega),List.all_cons];generalize ((s.getD k 0).toNat:Int)=z at *;simp[letter, *];done)|(rw[<- hk2,List.drop_of_length_le (by omega)];rfl)
  refine gx tv1 11 ?_;refine rt1 rfl rfl (ple ?_);refine congrArg PV.bool ?_;first|(rw[<- hk2,Hq_ (k:=k) (by omega),List.all_cons];generalize ((s.getD k 0).toNat:Int)=z at *;simp[letter, *];done)|(rw[<- hk2,List.drop_of_length_le (by omega)];rfl)
theorem Cn_ (s:Bs):Fn Tryz.prog gb 109 [.str s] (.int .i64 (D0_ s)):=by
  refine fC Tryz.func109 tv1 Tryz.ntmps109 fun w N H hG=>?_;refine gx tv1 14 ?_;refine cn rfl (fun p2=>?_) fun p3=>?_
  · refine gx tv1 8 ?_;refine rt1 rfl rfl (ple ?_)
    simp[D0_, *]<;>omega
  refine gx tv1 8 ?_;refine cn rfl (fun p5=>?_) fun p6=>?_
  · refine gx tv1 8 ?_;refine rt1 rfl rfl (ple ?_)
    simp[D0_, *]<;>omega
  refine gx tv1 3 ?_;refine call (Pc_ _) rfl rfl fun w7=>?_;refine gx tv1 4 ?_;refine cnd rfl (fun h8=>?_) (fun h8=>?_)
  · have h9:=Cp_ h8;refine gx tv1 8 ?_;refine rt1 rfl rfl (ple ?_)
    simp[D0_, *]<;>omega
  have h10:=Co_ h8;refine gx tv1 9 ?_;refine rt1 rfl rfl (ple ?_)
  simp[D0_, *]<;>omega
theorem cb256:Z_ Tryz.prog 256:=W_ Tryz.func256 (by kernel_rfl) (by kernel_rfl)
abbrev ty3:TI:=⟨.int .i64,1,8,[.int .i64 0]⟩
abbrev ty36:TI:=⟨.int .u64,1,8,[.int .u64 0]⟩
abbrev ty78:TI:=⟨.int .i64,1,8,[.int .i64 0]⟩
abbrev ty371:TI:=⟨.agg [(0,1),(1,1)],2,24,[.str [], .int .i64 0]⟩
def tbv2:Tb:=[(3,ty3),(9,ty9),(36,ty36),(78,ty78),(371,ty371)]
theorem tv2:tbB Tryz.prog tbv2=true:=by kernel_rfl
theorem out_Num (o:Out) (n bytes:Int) (hlen:o.s.length<=4611686018427387904):Fn Tryz.prog gb 256 [.agg (Out.pc o), .int .u64 n, .int .i64 bytes] (.agg (Out.pc (C_ o n bytes))):=
  fn_of_pr (vs:=[.agg [str o.s, .int .i64 o.err].toArray, .int .u64 n, .int .i64 bytes]) (v:= .agg [str (C_ o n bytes).s, .int .i64 (C_ o n bytes).err].toArray) cb256 rfl rfl
    (fun w H=>Sims.cons (Sim.toAgg (Sims.cons (Sim.str w.1.1) (Sims.cons (Sim.int w.1.2.1.1 w.1.2.1.2) Sims.nil))) (Sims.cons (Sim.int w.2.1.1 w.2.1.2) (Sims.cons (Sim.int w.2.2.1.1 w.2.2.1.2) Sims.nil)))
    (fun w H=>Sim.toAgg (Sims.cons (Sim.str (by have :=Af_ o n bytes;omega)) (Sims.cons (Sim.int w.1.2.1.1 w.1.2.1.2) Sims.nil)))
    (fun w H hG=>SW.out_Num H o n w.2.1 bytes w.2.2.1 hlen)
theorem Mn_ (o:Out) (s:Bs) (hlen:o.s.length+s.length<=4611686018427387904:=by ((try have :=hrl (by assumption));first|omega|(simp[C_,By_,Bj_,numK]<;>omega))):Fn Tryz.prog gb 260 [.agg (Out.pc o), .str s] (.agg (Out.pc (By_ o s))):=by
  refine fC Tryz.func260 tv2 Tryz.ntmps260 fun w N H hG=>?_;refine gmp tv2 23 [0,1] (fun _=>rfl) (fun _=>rfl) (fun _=>⟨(by first|omega|(simp<;>omega)),trivial⟩) fun B2=>?_;refine rt1 rfl rfl (ple ?_)
  rfl
theorem Cx_ (o:Out):Fn Tryz.prog gb 261 [.agg (Out.pc o)] (.str o.s):=by
  refine fC Tryz.func261 tv2 Tryz.ntmps261 fun w N H hG=>?_;refine gm tv2 14 [0] fun B2=>?_;refine rt1 rfl rfl (ple ?_)
  rfl
theorem C9_ (o:Out) (s:Bs) (hlen:o.s.length+s.length<=4611686018427386000:=by ((try have :=hrl (by assumption));first|omega|(simp[C_,By_,Bj_,numK]<;>omega))):Fn Tryz.prog gb 257 [.agg (Out.pc o), .str s] (.agg (Out.pc (E_ o s))):=by
  refine fC Tryz.func257 tv2 Tryz.ntmps257 fun w N H hG=>?_;refine gm tv2 14 [0,1] fun B2=>?_;refine cn rfl (fun p5=>?_) fun p11=>?_
  · refine gx tv2 8 ?_;refine cn rfl (fun p7=>?_) fun p9=>?_
    · refine gm tv2 13 [] fun _=>?_;refine rt1 rfl rfl (ple ?_)
      simp[E_,Out.pc, *]
    refine gm tv2 10 [] fun _=>?_;refine rt1 rfl rfl (ple ?_)
    simp[E_,Out.pc, *]
  refine gx tv2 7 ?_;refine q1 (qconv tv2 rfl rfl rfl rfl (Ub_ (by omega))) rfl fun w12=>?_;refine call (out_Num _ _ _ (by ((try have :=hrl (by assumption));first|omega|(simp[C_,By_,Bj_,numK]<;>omega)))) rfl rfl fun w13=>?_;have :=Af_ o (s.length:Int) 2;refine gx tv2 1 ?_;refine call (Mn_ _ _) rfl rfl fun w14=>?_;have :=F2_ (C_ o (s.length:Int) 2) s;refine gm tv2 4 [] fun _=>?_;refine rt1 rfl rfl (ple ?_)
  simp[E_,Out.pc, *]
theorem cb315:Z_ Tryz.prog 315:=W_ Tryz.func315 (by kernel_rfl) (by kernel_rfl)
theorem cb346:Z_ Tryz.prog 346:=W_ Tryz.func346 (by kernel_rfl) (by kernel_rfl)
theorem cb362:Z_ Tryz.prog 362:=W_ Tryz.func362 (by kernel_rfl) (by kernel_rfl)
abbrev ty455:TI:=⟨.agg [(0,1),(1,1)],2,24,[.str [], .int .i64 0]⟩
def tbv3:Tb:=[(9,ty9),(78,ty78),(455,ty455)]
theorem tv3:tbB Tryz.prog tbv3=true:=by kernel_rfl
theorem octet_New (s:Bs):Fb Tryz.prog gb 315 [.str s] 455 (In.pc (⟨s,0⟩)):=by
  refine fb_cw tv3 Tryz.func315 rfl Tryz.ntmps315 rfl cb315 rfl rfl fun w N H hG=>?_;refine gm tv3 14 [0] fun B2=>?_;refine rb rfl rfl rfl rfl rfl ?_;exact W3_
theorem in_Fail (i:In) (code:Int):Fm Tryz.prog gb 362 [.int .i64 code] 455 (In.pc i) (.tup []) (In.pc (F5_ i code)):=by
  refine fm_cw tv3 Tryz.func362 rfl Tryz.ntmps362 rfl cb362 rfl rfl rfl rfl fun w wp b N H hG=>?_;refine gx tv3 3 ?_;refine q1 (qpne Tryz.underlying425 rfl rfl) rfl fun w1=>?_;refine gy tv3 13 ?_;refine cnd rfl (fun h2=>?_) (fun h2=>?_)
  · have h3:=bl h2;have h4:=bl h3;have h5:=br h3;have p6:=dt h5;have h7:=br h2;have h8:=Cp_ h7;have p9:=df h8;refine gm tv3 11 [] fun _=>?_;refine rm0n rfl rfl ?_ rfl rfl rfl ?_
    · exact ple (by first|rfl|(simp[F5_, *];done))
    refine ples ?_
    first|rfl|(simp[F5_,In.pc, *];done)|(simp only[F5_];split<;>simp_all [In.pc])
  refine gx tv3 1 ?_;refine rm0n rfl rfl ?_ rfl rfl rfl ?_
  · exact ple (by first|rfl|(simp[F5_, *];done))
  refine ples ?_
  first|rfl|(simp[F5_,In.pc, *];done)|(simp only[F5_];split<;>simp_all [In.pc])
theorem in_Raw (i:In) (n:Int):Fm Tryz.prog gb 346 [.int .i64 n] 455 (In.pc i) (.str ((Gw_ i n).1)) (In.pc ((Gw_ i n).2)):=by
  refine fm_cw tv3 Tryz.func346 rfl Tryz.ntmps346 rfl cb346 rfl rfl rfl rfl fun w wp b N H hG=>?_;refine gx tv3 11 ?_;refine q1 (qpeq Tryz.underlying425 rfl rfl) rfl fun w1=>?_;refine gx tv3 14 ?_;refine cnd rfl (fun h2=>?_) (fun h2=>?_)
  · have h3:=Cp_ h2;have p4:=df h3;refine gx tv3 2 ?_;refine cndT rfl h2 ?_;refine gx tv3 8 ?_;refine rm1 rfl rfl ?_ rfl rfl rfl ?_
    · exact ple (by first|rfl|(simp[Gw_,F5_, *];done))
    refine ples ?_
    first|rfl|(simp[Gw_,F5_,In.pc, *];done)|(simp only[Gw_,F5_];split<;>simp_all [In.pc])
  have h5:=Co_ h2;have p6:=dt h5;refine gx tv3 6 ?_;refine cn rfl (fun p8=>?_) fun p9=>?_
  · refine gx tv3 8 ?_;refine rm1 rfl rfl ?_ rfl rfl rfl ?_
    · exact ple (by first|rfl|(simp[Gw_,F5_, *];done))
    refine ples ?_
    first|rfl|(simp[Gw_,F5_,In.pc, *];done)|(simp only[Gw_,F5_];split<;>simp_all [In.pc])
  refine gx tv3 12 ?_;refine cn rfl (fun p11=>?_) fun p13=>?_
  · refine gx tv3 3 ?_;refine ef (ecallm (in_Fail _ _) rfl rfl rfl rfl rfl fun w12 w12p=>?_);refine gx tv3 10 ?_;refine rm1 rfl rfl ?_ rfl rfl rfl ?_
    · exact ple (by first|rfl|(simp[Gw_,F5_, *];done))
    refine ples ?_
    first|rfl|(simp[Gw_,F5_,In.pc, *];done)|(simp only[Gw_,F5_];split<;>simp_all [In.pc])
  refine gx tv3 10 ?_;refine q1 (sshi tv3 (n).toNat rfl rfl rfl rfl (by omega) (by omega)) rfl fun w14=>?_;refine gx tv3 11 ?_;refine q1 (sslo tv3 (n).toNat rfl rfl rfl rfl (by omega) (by omega)) rfl fun w15=>?_;refine gm tv3 12 [] fun _=>?_;refine rm1 rfl rfl ?_ rfl rfl rfl ?_
  · exact ple (by first|rfl|(simp[Gw_,F5_, *];done))
  refine ples ?_
  first|rfl|(simp[Gw_,F5_,In.pc, *];done)|(simp only[Gw_,F5_];split<;>simp_all [In.pc])
theorem cb246:Z_ Tryz.prog 246:=W_ Tryz.func246 (by kernel_rfl) (by kernel_rfl)
abbrev Sd_:TI:=⟨.slc 9,1,24,[.sl strc []]⟩
def tbv4:Tb:=[(9,ty9),(244,Sd_)]
theorem tv4:tbB Tryz.prog tbv4=true:=by kernel_rfl
theorem strings_Split (s p:Bs) (hp:p=[46]) (hs:s.length<4294967281):Fn Tryz.prog gb 246 [.str s, .str p] (.sl strc (dots s)):=
  ⟨cb246,rfl,fun N H L w us hg hsim hm=>by
    obtain⟨v1,_,rfl,h1,h2⟩:=hsim.inv_cons;obtain⟨v2,_,rfl,h3,h4⟩:=h2.inv_cons
    cases h4.inv_nil
    rw[h1.inv_str.1,h3.inv_str.1]
    refine (SW.strings_Split H s p hp (gbML hg) hs N L w hm).mono fun _ _ ⟨v,H',h5,⟨a,c,h6,h7⟩,h8,h9⟩=>⟨v,H',h5,?_,h8,h9⟩
    rw[h6]
    exact Sim.of_slh (k:=1) ⟨h7.1,fun m hm=>by
      obtain⟨cs,hE,hat⟩:=h7.2 m hm;obtain⟨hE1,hE2⟩:=hE;subst hE1;exact⟨_,⟨rfl,Sims.nil.cons (Sim.str hE2),fun u hu=>by simp at hu;subst hu;rfl⟩,hat⟩⟩ (by have :=Y6_ s;omega)⟩
theorem Lh_ (s:Bs) (hs:s.length<4294967281:=by omega):Fn Tryz.prog gb 319 [.str s] (.sl strc (Br_ s)):=by
  refine fC Tryz.func319 tv4 Tryz.ntmps319 fun w N H hG=>?_;refine gx tv4 12 ?_;refine cn rfl (fun p2=>?_) fun p3=>?_
  · refine gx tv4 7 ?_;refine rt1 rfl rfl ?_;refine L3_ ?_
    simp[Br_, *]
  refine gx tv4 5 ?_;refine call (strings_Split _ _ (by rfl) (by omega)) rfl rfl fun w4=>?_;refine gx tv4 4 ?_;refine rt1 rfl rfl (ple ?_)
  simp[Br_, *]
theorem Un_ (s:Bs) (besides:List Bs):Fn Tryz.prog gb 267 [.str s, .sl strc besides] (.int .i64 (keyE besides s)):=by
  refine fC Tryz.func267 tv4 Tryz.ntmps267 fun w N H hG=>?_;have s_l:s.length<=9223372036854775807:=w.1;have besides_l:besides.length<=140737488355328:=w.2.1.1;refine gx tv4 14 ?_;refine cn rfl (fun p2=>?_) fun p3=>?_
  · refine gx tv4 8 ?_;refine rt1 rfl rfl (ple ?_)
    simp[keyE, *]
  refine gx tv4 9 ?_;refine call (Lh_ _) rfl rfl fun w4=>?_;refine gx tv4 5 ?_;refine loop (ι:=Nat) [0,1,9,10,11,12,13,14] [] (fun k=>[(15, .int .i64 (k:Int))]) (fun k=>[]) (fun k=>k<=(Br_ s).length/\(Br_ s).any (Ra_ besides)=((Br_ s).drop k).any (Ra_ besides)) (fun k=>(Br_ s).length-k) 0 ⟨rfl,trivial⟩ trivial ?_ ?_
  · exact⟨Nat.zero_le _,by simp⟩
  rintro k hp5;obtain⟨hk1,hk2⟩:=hp5;have hwl:=Sg_ s;refine gx tv4 6 ?_;refine cn rfl (fun p7=>?_) fun p26=>?_
  · obtain⟨c8,hc9⟩:=getE (xs:=Br_ s) (m:=k) (by omega);have c8_l:c8.length<=9223372036854775807:=(w4.2 c8 (List.mem_of_getElem? hc9)).1;refine gx tv4 6 ?_;refine q1 (qidx tv4 k rfl rfl rfl hc9 rfl rfl rfl rfl) rfl fun w10=>?_;refine gx tv4 13 ?_;refine loop (ι:=Nat) [0,1,6,9,10,11,12,13,14,15,16,17,18,19,20] [] (fun j=>[(21, .int .i64 (j:Int))]) (fun j=>[]) (fun j=>j<=besides.length/\besides.contains c8=(besides.drop j).contains c8) (fun j=>besides.length-j) 0 ⟨rfl,trivial⟩ trivial ?_ ?_
    · exact⟨Nat.zero_le _,by simp⟩
    rintro j hp11;obtain⟨hj1,hj2⟩:=hp11;refine gx tv4 6 ?_;refine cn rfl (fun p13=>?_) fun p20=>?_
    · obtain⟨c14,hc15⟩:=getE (xs:=besides) (m:=j) (by omega);have c14_l:c14.length<=9223372036854775807:=(w.2.1.2 c14 (List.mem_of_getElem? hc15)).1;refine gx tv4 6 ?_;refine q1 (qidx tv4 j rfl rfl rfl hc15 rfl rfl rfl rfl) rfl fun w16=>?_;refine gx tv4 11 ?_;refine cn rfl (fun p18=>?_) fun p19=>?_
      · refine gy tv4 12 ?_;refine next (k+1) rfl rfl ⟨rfl,trivial⟩ trivial ?_ ?_
        · omega
        refine⟨by omega,?_⟩
        rw[hk2,Cj_ hc9,List.any_cons]
        have hb:Ra_ besides c8=false:=by
          unfold Ra_
          rw[hj2,Cj_ hc15]
          first|(simp[*];done)|simp_all
        simp[hb]
      refine gy tv4 7 ?_;refine next (j+1) rfl rfl ⟨rfl,trivial⟩ trivial ?_ ?_
      · omega
      refine⟨by omega,?_⟩
      rw[hj2,Cj_ hc15,List.contains_cons]
      simp[*]
    refine gx tv4 11 ?_;refine callg rfl (fun hc=>(Pc_ _)) rfl ⟨(fun hc=>hc),trivial⟩ rfl rfl fun _=>?_;refine gy tv4 4 ?_;refine cnd rfl (fun h21=>?_) (fun h21=>?_)
    · refine gx tv4 12 ?_;refine rt1 rfl rfl (ple ?_);have hb:Ra_ besides c8=true:=by
        unfold Ra_
        rw[hj2,List.drop_of_length_le (by omega)]
        first|(simp[*];done)|simp_all
      unfold keyE
      rw[if_neg (by omega),hk2,Cj_ hc9,List.any_cons,hb]
      rfl
    have h22:=orl h21;have p23:=df h22;have h24:=orr h21;have h25:=Co_ h24;refine gy tv4 7 ?_;refine next (k+1) rfl rfl ⟨rfl,trivial⟩ trivial ?_ ?_
    · omega
    refine⟨by omega,?_⟩
    rw[hk2,Cj_ hc9,List.any_cons]
    have hb:Ra_ besides c8=false:=by
      unfold Ra_
      rw[hj2,List.drop_of_length_le (by omega)]
      first|(simp[*];done)|simp_all
    simp[hb]
  refine gx tv4 12 ?_;refine rt1 rfl rfl (ple ?_)
  unfold keyE
  rw[if_neg (by omega),hk2,List.drop_of_length_le (by omega)]
  rfl
theorem Um_ (s:Bs):Fn Tryz.prog gb 195 [.str s] (.int .i64 (keyE [] s)):=by
  refine fC Tryz.func195 tv4 Tryz.ntmps195 fun w N H hG=>?_;refine gx tv4 8 ?_;refine call (Fn.le (Un_ _ []) (A_ (ple rfl) (A_ M_ V_)) (ple rfl) rfl) rfl rfl fun w1=>?_;refine gx tv4 4 ?_;refine rt1 rfl rfl (ple ?_)
  rfl
theorem ag2:Ag Tryz.prog 2 false:=fun w=>by kernel_rfl
theorem ag5:Ag Tryz.prog 5 false:=fun w=>by kernel_rfl
theorem ag9:Ag Tryz.prog 9 false:=fun w=>by kernel_rfl
theorem eqg242:Tryz.prog.eqGuardType Tryz.prog.depth 242=false:=by kernel_rfl
theorem mixd:Tryz.prog.follows .mixedOrders=true:=by kernel_rfl
theorem veq242 (p q:Pair):∀ (H:Hp) (vs us:List Value),Sims H (Pair.pc p) vs->Sims H (Pair.pc q) us->EqV Tryz.prog 10000 242 (.agg vs.toArray) (.agg us.toArray) (decide (p=q)):=by
  intro H vs us hv hu;obtain⟨_,_,rfl,v0,v_0⟩:=hv.inv_cons;obtain⟨_,_,rfl,v1,v_1⟩:=v_0.inv_cons;obtain⟨_,_,rfl,v2,v_2⟩:=v_1.inv_cons;obtain⟨_,_,rfl,v3,v_3⟩:=v_2.inv_cons
  cases v_3.inv_nil
  cases v0.inv_str.1;cases v1.inv_int.1;cases v2.inv_int.1;cases v3.inv_str.1
  obtain⟨_,_,rfl,u0,u_0⟩:=hu.inv_cons;obtain⟨_,_,rfl,u1,u_1⟩:=u_0.inv_cons;obtain⟨_,_,rfl,u2,u_2⟩:=u_1.inv_cons;obtain⟨_,_,rfl,u3,u_3⟩:=u_2.inv_cons
  cases u_3.inv_nil
  cases u0.inv_str.1;cases u1.inv_int.1;cases u2.inv_int.1;cases u3.inv_str.1
  exact EqV.to' (Gm_ Tryz.underlying242 (by kernel_rfl) (Fq_ (by decide) ag9 rfl rfl (Kw_ Tryz.underlying9) (Fq_ (by decide) ag5 rfl rfl (Bb_ Tryz.underlying5) (Fq_ (by decide) ag2 rfl rfl (Bb_ Tryz.underlying2) (Fq_ (by decide) ag9 rfl rfl (Kw_ Tryz.underlying9) Gl_))))) (by obtain⟨a0,a1,a2,a3⟩:=p;obtain⟨b0,b1,b2,b3⟩:=q;rw[Bool.eq_iff_iff];simp)
abbrev ty2:TI:=⟨.int .i64,1,8,[.int .i64 0]⟩
abbrev ty5:TI:=⟨.int .u8,1,1,[.int .u8 0]⟩
abbrev ty61:TI:=⟨.slc 242,1,24,[.sl Pair.pc []]⟩
abbrev ty242:TI:=⟨.agg [(0,1),(1,1),(2,1),(3,1)],4,48,[.str [], .int .u8 0, .int .i64 0, .str []]⟩
def tbv5:Tb:=[(2,ty2),(5,ty5),(9,ty9),(61,ty61),(242,ty242)]
theorem tv5:tbB Tryz.prog tbv5=true:=by kernel_rfl
theorem Za_ (a:List Pair) (b:List Pair):Fn Tryz.prog gb 286 [.sl Pair.pc a, .sl Pair.pc b] (.bool (decide (a=b))):=by
  refine fC Tryz.func286 tv5 Tryz.ntmps286 fun w N H hG=>?_;have a_l:a.length<=140737488355328:=w.1.1;have b_l:b.length<=140737488355328:=w.2.1.1;refine gx tv5 15 ?_;refine cnd rfl (fun h1=>?_) (fun h1=>?_)
  · have h2:=Cp_ h1;have p3:=df h2;refine gx tv5 7 ?_;refine rt1 rfl rfl (ple ?_);exact congrArg PV.bool (Qq_ (by assumption)).symm
  have h4:=Co_ h1;have p5:=dt h4;refine gx tv5 11 ?_;refine loop (ι:=Nat) [0,1,6,7,8,9,10,11,12] [] (fun k=>[(13, .int .i64 (k:Int))]) (fun k=>[]) (fun k=>k<=a.length /\ decide (a=b) = decide (a.drop k=b.drop k)) (fun k=>a.length-k) 0 ⟨rfl,trivial⟩ trivial ?_ ?_
  · exact⟨Nat.zero_le _,rfl⟩
  rintro k hp6;obtain⟨hk1,hk2⟩:=hp6;refine gx tv5 6 ?_;refine cnd rfl (fun h7=>?_) (fun h7=>?_)
  · have p8:=dt h7;refine gx tv5 11 ?_;refine aN [0,1,2,3,4,5] 9 mixd ?_;refine gX tv5 [0,1] 7 ?_;obtain⟨c9,hc10⟩:=getE (xs:=a) (m:=k) (by omega);have c9_w:=Pair.pwf (w.1.2 c9 (List.mem_of_getElem? hc10));refine vq 2 (qidx tv5 k rfl rfl rfl hc10 rfl rfl rfl rfl) rfl (by kernel_rfl) rfl fun w11=>?_;refine gX tv5 [3,4,5] 3 ?_;obtain⟨c12,hc13⟩:=getE (xs:=b) (m:=k) (by omega);have c12_w:=Pair.pwf (w.2.1.2 c12 (List.mem_of_getElem? hc13));refine vq 6 (qidx tv5 k rfl rfl rfl hc13 rfl rfl rfl rfl) rfl (by kernel_rfl) rfl fun w14=>?_;refine gX tv5 [7] 1 ?_;refine vq 8 (sane rfl rfl eqg242 (veq242 c9 c12)) rfl (by kernel_rfl) rfl fun w15=>?_;refine vD ?_;refine gx tv5 1 ?_;refine cnd rfl (fun h16=>?_) (fun h16=>?_)
    · have h17:=Cp_ h16;have p18:=df h17;refine gx tv5 11 ?_;refine rt1 rfl rfl (ple ?_);exact congrArg PV.bool (Nd_ hk2 (Cj_ hc10) (Cj_ hc13) (by assumption)).symm
    have h19:=Co_ h16;have p20:=dt h19;refine gy tv5 7 ?_;refine next (k+1) rfl rfl ⟨rfl,trivial⟩ trivial ?_ ?_
    · omega
    exact⟨by omega,Ne_ hk2 (Cj_ hc10) (Cj_ hc13) (by assumption)⟩
  have p21:=df h7;refine gx tv5 11 ?_;refine rt1 rfl rfl (ple ?_);exact congrArg PV.bool (Qp_ hk2 (by omega) (by omega)).symm
theorem S1_ (a:List Pair) (b:List Pair):Fn Tryz.prog gb 265 [.sl Pair.pc a, .sl Pair.pc b] (.bool (decide (a=b))):=by
  refine fC Tryz.func265 tv5 Tryz.ntmps265 fun w N H hG=>?_;refine gx tv5 9 ?_;refine call (Za_ _ _) rfl rfl fun w1=>?_;refine gx tv5 4 ?_;refine rt1 rfl rfl (ple ?_)
  rfl
theorem Zv_ (s:List Pair) (f:FuncId) (f_fst f_cap:List PV) (f_p:Pair->Bool) (f_h:∀ x,Fn Tryz.prog gb f (argsP.apL f_fst ((.agg (Pair.pc x))::f_cap)) (.bool (f_p x))):Fn Tryz.prog gb 317 [.sl Pair.pc s, .fn f f_fst f_cap] (.int .i64 (idxP f_p s)):=by
  refine fC Tryz.func317 tv5 Tryz.ntmps317 fun w N H hG=>?_;have s_l:s.length<=140737488355328:=w.1.1;refine gx tv5 14 ?_;refine loop (ι:=Nat) [0,1,6,7] [] (fun k=>[(8, .int .i64 (k:Int))]) (fun k=>[]) (fun k=>k<=s.length/\idxP f_p s=idxF f_p k (s.drop k)) (fun k=>s.length-k) 0 ⟨rfl,trivial⟩ trivial ?_ ?_
  · exact⟨Nat.zero_le _,rfl⟩
  rintro k hp1;obtain⟨hk1,hk2⟩:=hp1;refine gx tv5 6 ?_;refine cnd rfl (fun h2=>?_) (fun h2=>?_)
  · have p3:=dt h2;obtain⟨c4,hc5⟩:=getE (xs:=s) (m:=k) (by omega);have c4_w:=Pair.pwf (w.1.2 c4 (List.mem_of_getElem? hc5));refine gx tv5 15 ?_;refine q1 (qidx tv5 k rfl rfl rfl hc5 rfl rfl rfl rfl) rfl fun w6=>?_;refine gx tv5 1 ?_;refine call (f_h c4) rfl rfl fun w7=>?_;refine gx tv5 2 ?_;refine cnd rfl (fun h8=>?_) (fun h8=>?_)
    · refine gx tv5 12 ?_;refine rt1 rfl rfl (ple ?_);exact congrArg (PV.int .i64) (I3_ hk2 (Cj_ hc5) (by assumption)).symm
    refine gy tv5 7 ?_;refine next (k+1) rfl rfl ⟨rfl,trivial⟩ trivial ?_ ?_
    · omega
    exact⟨by omega,Hd_ hk2 (Cj_ hc5) (by assumption)⟩
  have p9:=df h2;refine gx tv5 11 ?_;refine rt1 rfl rfl (ple ?_);exact congrArg (PV.int .i64) (I2_ hk2 (by omega)).symm
theorem Xt_ (p:Pair) (key:Bs):Fn Tryz.prog gb 318 [.agg (Pair.pc p), .el [.str key] 0] (.bool (decide (p.key=key))):=by
  refine fC Tryz.func318 tv5 Tryz.ntmps318 fun w N H hG=>?_;refine gm tv5 16 [0] fun B2=>?_;refine rt1 rfl rfl (ple ?_)
  rfl
theorem S0_ (h:List Pair) (key:Bs):Fn Tryz.prog gb 266 [.sl Pair.pc h, .str key] (.tup [.agg (Pair.pc ((Pf_ h key).getD Pair.zero)), .bool ((Pf_ h key).isSome)]):=by
  refine fC Tryz.func266 tv5 Tryz.ntmps266 fun w N H hG=>?_;refine gm tv5 10 [0,1] fun B2=>?_;refine freeze (i:=0) (t:=3) rfl rfl rfl rfl ?_;refine gx tv5 1 ?_;refine call (Zv_ _ _ _ _ (fun z_4:Pair=>decide (z_4.key=key)) (fun z_4=>Xt_ z_4 key)) rfl rfl fun w5=>?_;have hix5:=F1_ (fun z_4:Pair=>decide (z_4.key=key)) h;refine gx tv5 10 ?_;refine cn rfl (fun p7=>?_) fun p9=>?_
  · refine gm tv5 9 [] fun _=>?_;refine rt2 rfl rfl ?_;refine ple ?_;have e:=Q7_ (by assumption);have e2:Pf_ h key=none:=by unfold Pf_;rw[<- e];congr 1;funext x;exact Om_ _ _
    rw[e2];rfl
  obtain⟨c10,hc11⟩:=getE (xs:=h) (m:=(idxP (fun z_4:Pair=>decide (z_4.key=key)) h).toNat) (by omega);have c10_w:=Pair.pwf (w.1.2 c10 (List.mem_of_getElem? hc11));refine gx tv5 6 ?_;refine q1 (qidx tv5 (idxP (fun z_4:Pair=>decide (z_4.key=key)) h).toNat rfl rfl (by omega) hc11 rfl rfl rfl rfl) rfl fun w12=>?_;refine gm tv5 6 [] fun _=>?_;refine rt2 rfl rfl ?_;refine ple ?_;have e:=(Wh_ (by assumption) hc11).2;have e2:Pf_ h key=some c10:=by unfold Pf_;rw[<- e];congr 1;funext x;exact Om_ _ _
  rw[e2];rfl
theorem Zq_ (p:Pair) (ahead:List Pair):Fn Tryz.prog gb 194 [.agg (Pair.pc p), .sl Pair.pc ahead] (.int .i64 (Fm_ p ahead)):=by
  refine fC Tryz.func194 tv5 Tryz.ntmps194 fun w N H hG=>?_;refine gm tv5 11 [0] fun B2=>?_;refine call (Cn_ _) rfl rfl fun w3=>?_;refine gx tv5 9 ?_;refine cnd rfl (fun h4=>?_) (fun h4=>?_)
  · have h5:=Cp_ h4;have p6:=df h5;refine gx tv5 8 ?_;refine rt1 rfl rfl (ple ?_);refine congrArg (PV.int .i64) ?_
    simp only[bl1] at *
    unfold Fm_
    (repeat' split)<;>first|rfl|(exfalso;omega)|(exfalso;simp_all;done)|(exfalso;simp_all;omega)|grind
  have h7:=Co_ h4;have p8:=dt h7;refine gx tv5 7 ?_;refine call (S0_ _ _) rfl rfl fun w9=>?_;refine gm tv5 18 [1] fun B11=>?_;refine cnd rfl (fun h12=>?_) (fun h12=>?_)
  · have p13:=dt h12;refine gx tv5 8 ?_;refine rt1 rfl rfl (ple ?_);refine congrArg (PV.int .i64) ?_
    simp only[bl1] at *
    unfold Fm_
    (repeat' split)<;>first|rfl|(exfalso;omega)|(exfalso;simp_all;done)|(exfalso;simp_all;omega)|grind
  have p14:=df h12;refine gy tv5 14 ?_;refine cnd rfl (fun h15=>?_) (fun h15=>?_)
  · have h16:=bl h15;have p17:=dt h16;have h18:=br h15;have p19:=dt h18;refine gx tv5 8 ?_;refine rt1 rfl rfl (ple ?_);refine congrArg (PV.int .i64) ?_
    simp only[bl1] at *
    unfold Fm_
    (repeat' split)<;>first|rfl|(exfalso;omega)|(exfalso;simp_all;done)|(exfalso;simp_all;omega)|grind
  refine gy tv5 18 ?_;refine cnd rfl (fun h20=>?_) (fun h20=>?_)
  · have h21:=bl h20;have h22:=bl h21;have p23:=dt h22;have h24:=br h21;have h25:=Cp_ h24;have p26:=df h25;have h27:=br h20;have h28:=Cp_ h27;have p29:=df h28;refine gx tv5 8 ?_;refine rt1 rfl rfl (ple ?_);refine congrArg (PV.int .i64) ?_
    simp only[bl1] at *
    unfold Fm_
    (repeat' split)<;>first|rfl|(exfalso;omega)|(exfalso;simp_all;done)|(exfalso;simp_all;omega)|grind
  refine gy tv5 14 ?_;refine cnd rfl (fun h30=>?_) (fun h30=>?_)
  · have h31:=bl h30;have p32:=dt h31;have h33:=br h30;have h34:=Cp_ h33;have p35:=df h34;refine gx tv5 2 ?_;refine cndT rfl h30 ?_;refine gx tv5 8 ?_;refine rt1 rfl rfl (ple ?_);refine congrArg (PV.int .i64) ?_
    simp only[bl1] at *
    unfold Fm_
    (repeat' split)<;>first|rfl|(exfalso;omega)|(exfalso;simp_all;done)|(exfalso;simp_all;omega)|grind
  refine gy tv5 12 ?_;refine cnd rfl (fun h36=>?_) (fun h36=>?_)
  · have h37:=bl h36;have h38:=Cp_ h37;have p39:=df h38;have h40:=br h36;have h41:=Cp_ h40;have p42:=df h41;refine gx tv5 8 ?_;refine rt1 rfl rfl (ple ?_);refine congrArg (PV.int .i64) ?_
    simp only[bl1] at *
    unfold Fm_
    (repeat' split)<;>first|rfl|(exfalso;omega)|(exfalso;simp_all;done)|(exfalso;simp_all;omega)|grind
  refine gx tv5 6 ?_;refine cnd rfl (fun h43=>?_) (fun h43=>?_)
  · refine gx tv5 8 ?_;refine rt1 rfl rfl (ple ?_);refine congrArg (PV.int .i64) ?_
    simp only[bl1] at *
    unfold Fm_
    (repeat' split)<;>first|rfl|(exfalso;omega)|(exfalso;simp_all;done)|(exfalso;simp_all;omega)|grind
  refine gx tv5 9 ?_;refine rt1 rfl rfl (ple ?_);refine congrArg (PV.int .i64) ?_
  simp only[bl1] at *
  unfold Fm_
  (repeat' split)<;>first|rfl|(exfalso;omega)|(exfalso;simp_all;done)|(exfalso;simp_all;omega)|grind
theorem Hi_ (h:List Pair):Fn Tryz.prog gb 112 [.sl Pair.pc h] (.int .i64 (Fr_ h)):=by
  refine fC Tryz.func112 tv5 Tryz.ntmps112 fun w N H hG=>?_;refine gx tv5 13 ?_;refine cn rfl (fun p2=>?_) fun p3=>?_
  · refine gx tv5 7 ?_;refine rt1 rfl rfl (ple ?_)
    simp[Fr_, *]
  refine gx tv5 11 ?_;refine loop (ι:=Nat) [0,6,7,8,9,10] [] (fun k=>[(11, .int .i64 (k:Int))]) (fun k=>[]) (fun k=>k<=h.length/\Jc_ [] h=Jc_ (h.take k) (h.drop k)) (fun k=>h.length-k) 0 ⟨rfl,trivial⟩ trivial ?_ ?_
  · exact⟨Nat.zero_le _,rfl⟩
  rintro k hp4;obtain⟨hk1,hk2⟩:=hp4;refine gx tv5 6 ?_;refine cn rfl (fun p6=>?_) fun p19=>?_
  · obtain⟨c7,hc8⟩:=getE (xs:=h) (m:=k) (by omega);have c7_w:=Pair.pwf (w.1.2 c7 (List.mem_of_getElem? hc8));refine gx tv5 7 ?_;refine q1 (qidx tv5 k rfl rfl rfl hc8 rfl rfl rfl rfl) rfl fun w9=>?_;refine gm tv5 7 [0] fun B11=>?_;refine aN [1,2,3,4,5,6] 6 mixd ?_;refine gX tv5 [0,1,2] 3 ?_;refine vq 3 (lshi tv5 k rfl rfl rfl rfl rfl (fun _=>rfl) rfl (by omega)) rfl (by kernel_rfl) rfl fun w12=>?_;refine vC 4 rfl (Zq_ _ _) rfl fun w13=>?_;have :=T6_ c7 (h.take k);refine gX tv5 [5] 0 ?_;refine vD ?_;refine gx tv5 7 ?_;refine cnd rfl (fun h14=>?_) (fun h14=>?_)
    · have h15:=Cp_ h14;have p16:=df h15;refine gx tv5 12 ?_;refine rt1 rfl rfl (ple ?_)
      unfold Fr_
      rw[if_neg (by omega),hk2,Cj_ hc8]
      simp only[Jc_]
      rw[if_pos (by omega)]
    have h17:=Co_ h14;have p18:=dt h17;refine gy tv5 7 ?_;refine next (k+1) rfl rfl ⟨rfl,trivial⟩ trivial ?_ ?_
    · omega
    refine⟨by omega,?_⟩
    rw[hk2,Cj_ hc8,takeE hc8]
    simp only[Jc_]
    rw[if_neg (by omega)]
  refine gx tv5 11 ?_;refine rt1 rfl rfl (ple ?_)
  unfold Fr_
  rw[if_neg (by omega),hk2,List.drop_of_length_le (by omega)]
  rfl
abbrev ty4:TI:=⟨.bool,1,1,[.bool false]⟩
abbrev ty63:TI:=⟨.agg [(0,1),(1,1),(2,1),(3,1),(4,1),(5,1)],6,88,[.str [], .str [], .bool false, .str [], .sl Pair.pc [], .bool false]⟩
def tbv9:Tb:=[(4,ty4),(9,ty9),(61,ty61),(63,ty63)]
theorem tv9:tbB Tryz.prog tbv9=true:=by kernel_rfl
theorem Qo_ (a:BindR) (b:BindR):Fn Tryz.prog gb 191 [.agg (BindR.pc a), .agg (BindR.pc b)] (.bool (decide (a=b))):=by
  refine fC Tryz.func191 tv9 Tryz.ntmps191 fun w N H hG=>?_;refine gmy tv9 40 [0,1] fun B2=>?_;refine callg rfl (fun hc=>(S1_ _ _)) rfl ⟨(fun hc=>hc),(fun hc=>hc),trivial⟩ rfl rfl fun _=>?_;refine gy tv9 12 ?_;refine rt1 rfl rfl (ple ?_);exact congrArg PV.bool (by rw[Bool.eq_iff_iff];first|(simp[BindR.eq_iff,and_assoc];done)|(simp[BindR.eq_iff];grind))
theorem Nc_ (yes:Bool):Fn Tryz.prog gb 259 [.bool yes] (.int .u64 (bitN yes)):=by
  refine fC Tryz.func259 tv9 Tryz.ntmps259 fun w N H hG=>?_;refine gx tv9 11 ?_;refine cnd rfl (fun h1=>?_) (fun h1=>?_)
  · refine gx tv9 7 ?_;refine rt1 rfl rfl (ple ?_)
    simp only[bitN, *];rfl
  refine gx tv9 8 ?_;refine rt1 rfl rfl (ple ?_)
  simp only[bitN, *];rfl
theorem cb316:Z_ Tryz.prog 316:=W_ Tryz.func316 (by kernel_rfl) (by kernel_rfl)
abbrev ty418:TI:=⟨.slc 5,1,24,[.sl u8c []]⟩
def tbv6:Tb:=[(5,ty5),(9,ty9),(36,ty36),(418,ty418)]
theorem tv6:tbB Tryz.prog tbv6=true:=by kernel_rfl
theorem in_Num (i:In) (bytes:Int):Fm Tryz.prog gb 316 [.int .i64 bytes] 455 (In.pc i) (.int .u64 (((Q8_ i bytes)).1)) (In.pc (((Q8_ i bytes)).2)):=by
  refine fm_cw tv6 Tryz.func316 rfl Tryz.ntmps316 rfl cb316 rfl rfl rfl rfl fun w wp b N H hG=>?_;have hb0:=N5_ i (min bytes 8);refine gx tv6 16 ?_;refine ef (ecallm (in_Raw _ (min bytes 8)) rfl rfl rfl rfl rfl fun w1 w1p=>?_);refine ef (ss2b tv6 rfl rfl rfl rfl rfl rfl rfl (by omega) rfl ?_);refine gx tv6 5 ?_;refine loop (ι:=Nat) [0,1,4,8,9,10,11,12,13] [0] (fun k=>[(5, .int .u64 (beN ((Gw_ i (min bytes 8)).1.take k):Int)),(14, .int .i64 (k:Int))]) (fun k=>[]) (fun k=>k<=(Gw_ i (min bytes 8)).1.length) (fun k=>(Gw_ i (min bytes 8)).1.length-k) 0 ⟨rfl,rfl,trivial⟩ trivial ?_ ?_
  · exact Nat.zero_le _
  rintro k hp2;have hb:=N5_ i (min bytes 8);refine gx tv6 6 ?_;refine cn rfl (fun p4=>?_) fun p8=>?_
  · obtain⟨c5,hc6⟩:=getE (xs:=(Gw_ i (min bytes 8)).1) (m:=k) (by omega);refine gx tv6 6 ?_;refine q1 (qidx tv6 k rfl rfl rfl hc6 rfl rfl rfl rfl) rfl fun w7=>?_;have :=Ii_ ((BitVec.ofInt (IntKind.bits .u64) (IntKind.wrap .u64 ((beN ((Gw_ i (min bytes 8)).1.take k):Int)*2 ^ (min (8:Int).toNat (IntKind.bits .u64)))) |||BitVec.ofInt (IntKind.bits .u64) ((c5).toNat:Int)).toNat)
    refine gy tv6 18 ?_;refine next (k+1) rfl rfl ⟨(congrArg (PV.int .u64) (num_step hc6 (by omega))),rfl,trivial⟩ trivial ?_ ?_
    · omega
    omega
  refine gx tv6 12 ?_;refine rm1 rfl rfl ?_ rfl rfl rfl ?_
  · refine ple ?_
    simp only[Q8_]
    rw[List.take_of_length_le (by omega)]
  exact ples rfl
def tbv7:Tb:=[(9,ty9),(244,Sd_)]
theorem tv7:tbB Tryz.prog tbv7=true:=by kernel_rfl
theorem Hh_ (pattern:Bs) (key:Bs) (hp:pattern.length<4294967281:=by first|omega|(simp;done)|decide) (hk:key.length<4294967281:=by first|omega|(simp;done)|decide):Fn Tryz.prog gb 307 [.str pattern, .str key] (.bool (mt (Br_ pattern) (Br_ key))):=by
  refine fC Tryz.func307 tv7 Tryz.ntmps307 fun w N H hG=>?_;refine gx tv7 8 ?_;refine call (Lh_ _) rfl rfl fun w1=>?_;refine gx tv7 1 ?_;refine call (Lh_ _) rfl rfl fun w2=>?_;refine gx tv7 18 ?_;refine loop (ι:=Nat×Nat×Int×Nat) [0,1,5,6,11,12,13,14] [] (fun ⟨i,j,b,f⟩=>[(7, .int .i64 (i:Int)),(8, .int .i64 (j:Int)),(9, .int .i64 b),(10, .int .i64 (f:Int))]) (fun ⟨i,j,b,f⟩=>[]) (fun ⟨i,j,b,f⟩=>MI (Br_ pattern) (Br_ key) i j b f) (fun ⟨i,j,b,f⟩=>mmu (Br_ pattern) (Br_ key) j b f) ⟨0,0,(-1),0⟩ ⟨rfl,rfl,rfl,rfl,trivial⟩ trivial ?_ ?_
  · exact MI.start _ _
  rintro⟨i,j,b,f⟩ hp3;have hmi:=hp3;have hwp:=Sg_ pattern;have hwk:=Sg_ key;have :=hmi.hi;have :=hmi.hj;have :=hmi.hf;have :=hmi.hb;have :=hmi.hbi;refine gx tv7 9 ?_;refine cnd rfl (fun h4=>?_) (fun h4=>?_)
  · have p5:=dt h4;obtain⟨c6,hc7⟩:=getJ (Br_ pattern) i;refine gx tv7 13 ?_;refine q1g [25,26] rfl (fun hc=>qidx tv7 i rfl rfl rfl (hc7 (by first|omega|(simp only[gOf,bl2] at *;omega))) rfl rfl rfl rfl) ⟨(fun hc=>hc),(fun hc=>hc),trivial⟩ rfl rfl rfl fun _=>?_;refine gy tv7 6 ?_;refine cnd rfl (fun h8=>?_) (fun h8=>?_)
    · have h9:=bl h8;have p10:=dt h9;have h11:=br h8;have p12:=dt h11;refine gy tv7 15 ?_;obtain⟨c13,hc14⟩:=getE (xs:=Br_ key) (m:=j) (by omega);refine next ⟨(i+1),j,((i:Int)+1),j⟩ rfl rfl ⟨(congrArg (PV.int .i64) (by omega)),rfl,rfl,rfl,trivial⟩ trivial ?_ ?_
      · exact mmu_hash hmi (by omega)
      exact MI.hash hmi (by rw[(hc7 (by first|omega|(simp only[gOf,bl2] at *;omega)))];simp[*])
    refine gx tv7 1 ?_;refine aN [0,1,2,3,4,5] 23 mixd ?_;refine gX tv7 [0,1,2,3,4,5,6] 16 ?_;refine vqg 7 [41,42] rfl (by kernel_rfl) rfl rfl (fun hc=>qidx tv7 i rfl rfl rfl (hc7 (by first|omega|(simp only[gOf,bl2] at *;omega))) rfl rfl rfl rfl) ⟨(fun hc=>hc),(fun hc=>hc),trivial⟩ rfl fun _=>?_;refine gXy tv7 [8,9,10,11,12] 10 ?_;refine vqg 13 [47,48] rfl (by kernel_rfl) rfl rfl (fun hc=>qidx tv7 i rfl rfl rfl (hc7 (by first|omega|(simp only[gOf,bl2] at *;omega))) rfl rfl rfl rfl) ⟨(fun hc=>hc),(fun hc=>hc),trivial⟩ rfl fun _=>?_;refine gXy tv7 [14,15,16] 6 ?_;obtain⟨c15,hc16⟩:=getJ (Br_ key) j;refine vqg 17 [51,52] rfl (by kernel_rfl) rfl rfl (fun hc=>qidx tv7 j rfl rfl rfl (hc16 (by first|omega|(simp only[gOf,bl2] at *;omega))) rfl rfl rfl rfl) ⟨(fun hc=>hc),(fun hc=>hc),trivial⟩ rfl fun _=>?_;refine gXy tv7 [18,19,20,21,22] 0 ?_;refine vD ?_;refine gx tv7 1 ?_;refine cnd rfl (fun h17=>?_) (fun h17=>?_)
    · have h18:=bl h17;have p19:=dt h18;have h20:=br h17;refine gy tv7 10 ?_;refine next ⟨(i+1),(j+1),b,f⟩ rfl rfl ⟨(congrArg (PV.int .i64) (by omega)),rfl,rfl,rfl,trivial⟩ trivial ?_ ?_
      · exact mmu_step (by omega)
      first|exact MI.step hmi (hc7 (by first|omega|(simp only[gOf,bl2] at *;omega))) (hc16 (by first|omega|(simp only[gOf,bl2] at *;omega))) (by assumption) (by first|exact .inl (by assumption)|exact .inr (by assumption))|exact MI.step hmi (hc7 (by first|omega|(simp only[gOf,bl2] at *;omega))) (hc16 (by first|omega|(simp only[gOf,bl2] at *;omega))) (by simp_all) (by first|(left;simp_all;done)|(right;simp_all;done)|grind)
    refine gx tv7 7 ?_;refine cnd rfl (fun h21=>?_) (fun h21=>?_)
    · have p22:=dt h21;refine gy tv7 15 ?_;have hbad:∀ w,(Br_ pattern)[i]? = some w->w≠[35]/\w≠[42]/\w≠c15:=by
        intro w hw;obtain⟨hlt,_⟩:=List.getElem?_eq_some_iff.1 hw
        rw[(hc7 (by first|omega|(simp only[gOf,bl2] at *;omega)))] at hw;cases hw
        first|exact⟨by assumption,by assumption,by assumption⟩|(refine⟨?_,?_,?_⟩<;>intro q<;>simp_all)
      refine next ⟨b.toNat,(f+1),b,(f+1)⟩ rfl rfl ⟨(congrArg (PV.int .i64) (by omega)),rfl,rfl,rfl,trivial⟩ trivial ?_ ?_
      · exact mmu_back hmi.hf (by omega)
      exact MI.back hmi (hc16 (by first|omega|(simp only[gOf,bl2] at *;omega))) (by omega) hbad
    have p23:=df h21;refine gx tv7 11 ?_;refine rt1 rfl rfl (ple ?_);have hbad:∀ w,(Br_ pattern)[i]? = some w->w≠[35]/\w≠[42]/\w≠c15:=by
      intro w hw;obtain⟨hlt,_⟩:=List.getElem?_eq_some_iff.1 hw
      rw[(hc7 (by first|omega|(simp only[gOf,bl2] at *;omega)))] at hw;cases hw
      first|exact⟨by assumption,by assumption,by assumption⟩|(refine⟨?_,?_,?_⟩<;>intro q<;>simp_all)
    exact congrArg PV.bool (MI.none hmi (hc16 (by first|omega|(simp only[gOf,bl2] at *;omega))) (by omega) hbad).symm
  have p24:=df h4;refine gx tv7 7 ?_;refine loop (ι:=Nat) [0,1,5,6,8,9,10,11,12,13,14,15,16,17,18] [] (fun q=>[(7, .int .i64 (q:Int))]) (fun q=>[]) (fun q=>q<=(Br_ pattern).length/\mt (Br_ pattern) (Br_ key)=mt ((Br_ pattern).drop q) []) (fun q=>(Br_ pattern).length-q) i ⟨rfl,trivial⟩ trivial ?_ ?_
  · exact⟨by omega,hmi.fin (by omega)⟩
  rintro q hp25;obtain⟨hq1,hq2⟩:=hp25;obtain⟨c26,hc27⟩:=getJ (Br_ pattern) q;refine gx tv7 10 ?_;refine q1g [74,75] rfl (fun hc=>qidx tv7 q rfl rfl rfl (hc27 (by first|omega|(simp only[gOf,bl2] at *;omega))) rfl rfl rfl rfl) ⟨(fun hc=>hc),(fun hc=>hc),trivial⟩ rfl rfl rfl fun _=>?_;refine gy tv7 5 ?_;refine cnd rfl (fun h28=>?_) (fun h28=>?_)
  · have h29:=bl h28;have p30:=dt h29;have h31:=br h28;have p32:=dt h31;refine gy tv7 9 ?_;refine next (q+1) rfl rfl ⟨rfl,trivial⟩ trivial ?_ ?_
    · omega
    exact⟨by omega,mt_end hq2 (by rw[(hc27 (by first|omega|(simp only[gOf,bl2] at *;omega)))];simp[*])⟩
  refine gx tv7 15 ?_;refine rt1 rfl rfl (ple ?_);refine congrArg PV.bool ?_
  rw[hq2]
  by_cases hql:q<(Br_ pattern).length
  · rw[mt_endN (hc27 (by first|omega|(simp only[gOf,bl2] at *;omega))) (by first|assumption|simp_all)]
    rw[decide_eq_false_iff_not];omega
  have hqe:q=(Br_ pattern).length:=by omega
  subst hqe
  rw[List.drop_length];simp[mt]
theorem Sf_ (s:Bs):Fn Tryz.prog gb 285 [.str s] (.int .i64 (keyE patB s)):=by
  refine fC Tryz.func285 tv7 Tryz.ntmps285 fun w N H hG=>?_;refine gx tv7 8 ?_;refine ef (bsl 0 strc [[42],[35]] tv7 rfl rfl rfl rfl rfl (fun _=>rfl) rfl (by decide) (by decide) rfl fun u1=>?_);refine ef (calll 0 rfl (Un_ _ _) rfl rfl rfl fun w2=>?_);refine gx tv7 4 ?_;refine rt1 rfl rfl (ple ?_)
  rfl
def tbv8:Tb:=[(2,ty2),(3,ty3),(5,ty5),(9,ty9),(36,ty36),(61,ty61),(242,ty242),(371,ty371)]
theorem tv8:tbB Tryz.prog tbv8=true:=by kernel_rfl
theorem Kc_ (h:List Pair):Fn Tryz.prog gb 258 [.sl Pair.pc h] (.tup [.str (Bk_ h), .int .i64 (Fr_ h)]):=by
  refine fC Tryz.func258 tv8 Tryz.ntmps258 fun w N H hG=>?_;have h_l:h.length<=140737488355328:=w.1.1;refine gx tv8 10 ?_;refine call (Hi_ _) rfl rfl fun w1=>?_;refine gx tv8 9 ?_;refine cnd rfl (fun h2=>?_) (fun h2=>?_)
  · have h3:=Cp_ h2;have p4:=df h3;refine gx tv8 9 ?_;refine rt2 rfl rfl ?_;refine ple ?_
    unfold Bk_
    rw[if_neg (by omega)]
  have h5:=Co_ h2;have p6:=dt h5;refine gx tv8 7 ?_;refine q1 (qconv tv8 rfl rfl rfl rfl (Ub_ (by omega))) rfl fun w7=>?_;refine call (out_Num (⟨[],0⟩:Out) _ _ (by ((try have :=hrl (by assumption));first|omega|(simp[C_,By_,Bj_,numK]<;>omega)))) rfl rfl fun w8=>?_;have nl0:(⟨[],0⟩:Out).s.length=0:=rfl;have :=Af_ (⟨[],0⟩:Out) (h.length:Int) 1;refine gm tv8 13 [0] fun B10=>?_;refine loop (ι:=Nat×Out) [0,2,3,4,5,8,9,10,11,13,14,15,16,17,18,19] [] (fun ⟨k,o⟩=>[(20, .int .i64 (k:Int))]) (fun ⟨k,o⟩=>[(0, .box (B10 0) 371 [.str o.s, .int .i64 o.err])]) (fun ⟨k,o⟩=>k<=h.length/\h.foldl E0_ (C_ ⟨[],0⟩ h.length 1)=(h.drop k).foldl E0_ o/\o.s.length<=8+110*k) (fun ⟨k,o⟩=>h.length-k) ⟨0,(C_ (⟨[],0⟩:Out) (h.length:Int) 1)⟩ ⟨rfl,trivial⟩ ⟨rfl,trivial⟩ ?_ ?_
  · exact⟨Nat.zero_le _,rfl,by simp at *;omega⟩
  rintro⟨k,o⟩ hp11;obtain⟨hk1,hk2,hk3⟩:=hp11;have hok:=Ln_ (h:=h) (by assumption);refine gx tv8 6 ?_;refine cn rfl (fun p13=>?_) fun p36=>?_
  · obtain⟨c14,hc15⟩:=getE (xs:=h) (m:=k) (by omega);have hpk:=hok.2 c14 (List.mem_of_getElem? hc15);have c14_w:=Pair.pwf (w.1.2 c14 (List.mem_of_getElem? hc15));refine gx tv8 6 ?_;refine q1 (qidx tv8 k rfl rfl rfl hc15 rfl rfl rfl rfl) rfl fun w16=>?_;refine gm tv8 6 [1] fun B18=>?_;refine aN [2,3,4,5,6,7] 9 mixd ?_;refine gX tv8 [0,1,2] 6 ?_;refine vC 3 rfl (C9_ _ _) rfl fun w19=>?_;have :=Al_ o c14.key;refine gX tv8 [4,5,6] 2 ?_;refine vC 7 rfl (out_Num _ _ _ (by ((try have :=hrl (by assumption));first|omega|(simp[C_,By_,Bj_,numK]<;>omega)))) rfl fun w20=>?_;have :=Af_ (E_ o c14.key) c14.kind 1;refine vT 8 rfl (sA tv8 ?_);refine vD ?_;refine gx tv8 14 ?_;refine cn rfl (fun p22=>?_) fun p25=>?_
    · refine gx tv8 5 ?_;refine call (out_Num _ _ _ (by ((try have :=hrl (by assumption));first|omega|(simp[C_,By_,Bj_,numK]<;>omega)))) rfl rfl fun w23=>?_;have :=Af_ (C_ (E_ o c14.key) c14.kind 1) (IntKind.wrap .u64 c14.num) 8;refine gmy tv8 9 [] fun _=>?_;refine next ⟨(k+1),(C_ (C_ (E_ o c14.key) c14.kind 1) (IntKind.wrap .u64 c14.num) 8)⟩ rfl rfl ⟨rfl,trivial⟩ ⟨rfl,trivial⟩ ?_ ?_
      · simp only[];omega
      have e:(C_ (C_ (E_ o c14.key) c14.kind 1) (IntKind.wrap .u64 c14.num) 8)=E0_ o c14:=by unfold E0_;first|(rw[if_pos (by omega)];done)|(rw[if_neg (by omega),if_pos (by omega)];done)|(rw[if_neg (by omega),if_neg (by omega),if_pos (by omega)];done)|(rw[if_neg (by omega),if_neg (by omega),if_neg (by omega)];done)
      simp only[]
      rw[e]
      have hlo:=Hx_ (o:=o) (hok.2 c14 (List.mem_of_getElem? hc15));refine⟨by omega,?_,by omega⟩
      rw[hk2,Cj_ hc15,List.foldl_cons]
    refine gx tv8 6 ?_;refine cn rfl (fun p27=>?_) fun p30=>?_
    · refine gx tv8 4 ?_;refine call (C9_ _ _) rfl rfl fun w28=>?_;have :=Al_ (C_ (E_ o c14.key) c14.kind 1) c14.text;refine gmy tv8 9 [] fun _=>?_;refine next ⟨(k+1),(E_ (C_ (E_ o c14.key) c14.kind 1) c14.text)⟩ rfl rfl ⟨rfl,trivial⟩ ⟨rfl,trivial⟩ ?_ ?_
      · simp only[];omega
      have e:(E_ (C_ (E_ o c14.key) c14.kind 1) c14.text)=E0_ o c14:=by unfold E0_;first|(rw[if_pos (by omega)];done)|(rw[if_neg (by omega),if_pos (by omega)];done)|(rw[if_neg (by omega),if_neg (by omega),if_pos (by omega)];done)|(rw[if_neg (by omega),if_neg (by omega),if_neg (by omega)];done)
      simp only[]
      rw[e]
      have hlo:=Hx_ (o:=o) (hok.2 c14 (List.mem_of_getElem? hc15));refine⟨by omega,?_,by omega⟩
      rw[hk2,Cj_ hc15,List.foldl_cons]
    refine gx tv8 6 ?_;refine cn rfl (fun p32=>?_) fun p35=>?_
    · refine gx tv8 5 ?_;refine call (out_Num _ _ _ (by ((try have :=hrl (by assumption));first|omega|(simp[C_,By_,Bj_,numK]<;>omega)))) rfl rfl fun w33=>?_;have :=Af_ (C_ (E_ o c14.key) c14.kind 1) (IntKind.wrap .u64 c14.num) 1;refine gmy tv8 9 [] fun _=>?_;refine next ⟨(k+1),(C_ (C_ (E_ o c14.key) c14.kind 1) (IntKind.wrap .u64 c14.num) 1)⟩ rfl rfl ⟨rfl,trivial⟩ ⟨rfl,trivial⟩ ?_ ?_
      · simp only[];omega
      have e:(C_ (C_ (E_ o c14.key) c14.kind 1) (IntKind.wrap .u64 c14.num) 1)=E0_ o c14:=by unfold E0_;first|(rw[if_pos (by omega)];done)|(rw[if_neg (by omega),if_pos (by omega)];done)|(rw[if_neg (by omega),if_neg (by omega),if_pos (by omega)];done)|(rw[if_neg (by omega),if_neg (by omega),if_neg (by omega)];done)
      simp only[]
      rw[e]
      have hlo:=Hx_ (o:=o) (hok.2 c14 (List.mem_of_getElem? hc15));refine⟨by omega,?_,by omega⟩
      rw[hk2,Cj_ hc15,List.foldl_cons]
    refine gy tv8 8 ?_;refine next ⟨(k+1),(C_ (E_ o c14.key) c14.kind 1)⟩ rfl rfl ⟨rfl,trivial⟩ ⟨rfl,trivial⟩ ?_ ?_
    · simp only[];omega
    have e:(C_ (E_ o c14.key) c14.kind 1)=E0_ o c14:=by unfold E0_;first|(rw[if_pos (by omega)];done)|(rw[if_neg (by omega),if_pos (by omega)];done)|(rw[if_neg (by omega),if_neg (by omega),if_pos (by omega)];done)|(rw[if_neg (by omega),if_neg (by omega),if_neg (by omega)];done)
    simp only[]
    rw[e]
    have hlo:=Hx_ (o:=o) (hok.2 c14 (List.mem_of_getElem? hc15));refine⟨by omega,?_,by omega⟩
    rw[hk2,Cj_ hc15,List.foldl_cons]
  refine gx tv8 8 ?_;refine call (Cx_ _) rfl rfl fun w37=>?_;refine gx tv8 5 ?_;refine rt2 rfl rfl ?_;refine ple ?_
  unfold Bk_
  rw[if_pos (by assumption)]
  rw[List.drop_of_length_le (by omega),List.foldl_nil] at hk2
  rw[show N2_ h=o from hk2]
  have e0:Fr_ h=0:=by assumption
  rw[e0]
theorem ag36:Ag Tryz.prog 36 false:=fun w=>by kernel_rfl
theorem eqg58:Tryz.prog.eqGuardType Tryz.prog.depth 58=false:=by kernel_rfl
theorem eqg60:Tryz.prog.eqGuardType Tryz.prog.depth 60=false:=by kernel_rfl
theorem veq58 (p q:ShopR):∀ (H:Hp) (vs us:List Value),Sims H (ShopR.pc p) vs->Sims H (ShopR.pc q) us->EqV Tryz.prog 10000 58 (.agg vs.toArray) (.agg us.toArray) (decide (p=q)):=by
  intro H vs us hv hu;obtain⟨_,_,rfl,v0,v_0⟩:=hv.inv_cons;obtain⟨_,_,rfl,v1,v_1⟩:=v_0.inv_cons;obtain⟨_,_,rfl,v2,v_2⟩:=v_1.inv_cons
  cases v_2.inv_nil
  cases v0.inv_str.1;cases v1.inv_int.1;cases v2.inv_str.1
  obtain⟨_,_,rfl,u0,u_0⟩:=hu.inv_cons;obtain⟨_,_,rfl,u1,u_1⟩:=u_0.inv_cons;obtain⟨_,_,rfl,u2,u_2⟩:=u_1.inv_cons
  cases u_2.inv_nil
  cases u0.inv_str.1;cases u1.inv_int.1;cases u2.inv_str.1
  exact EqV.to' (Gm_ Tryz.underlying58 (by kernel_rfl) (Fq_ (by decide) ag9 rfl rfl (Kw_ Tryz.underlying9) (Fq_ (by decide) ag5 rfl rfl (Bb_ Tryz.underlying5) (Fq_ (by decide) ag9 rfl rfl (Kw_ Tryz.underlying9) Gl_)))) (by obtain⟨a0,a1,a2⟩:=p;obtain⟨b0,b1,b2⟩:=q;rw[Bool.eq_iff_iff];simp)
theorem veq60 (p q:QueueR):∀ (H:Hp) (vs us:List Value),Sims H (QueueR.pc p) vs->Sims H (QueueR.pc q) us->EqV Tryz.prog 10000 60 (.agg vs.toArray) (.agg us.toArray) (decide (p=q)):=by
  intro H vs us hv hu;obtain⟨_,_,rfl,v0,v_0⟩:=hv.inv_cons;obtain⟨_,_,rfl,v1,v_1⟩:=v_0.inv_cons;obtain⟨_,_,rfl,v2,v_2⟩:=v_1.inv_cons;obtain⟨_,_,rfl,v3,v_3⟩:=v_2.inv_cons
  cases v_3.inv_nil
  cases v0.inv_str.1;cases v1.inv_int.1;cases v2.inv_int.1;cases v3.inv_str.1
  obtain⟨_,_,rfl,u0,u_0⟩:=hu.inv_cons;obtain⟨_,_,rfl,u1,u_1⟩:=u_0.inv_cons;obtain⟨_,_,rfl,u2,u_2⟩:=u_1.inv_cons;obtain⟨_,_,rfl,u3,u_3⟩:=u_2.inv_cons
  cases u_3.inv_nil
  cases u0.inv_str.1;cases u1.inv_int.1;cases u2.inv_int.1;cases u3.inv_str.1
  exact EqV.to' (Gm_ Tryz.underlying60 (by kernel_rfl) (Fq_ (by decide) ag9 rfl rfl (Kw_ Tryz.underlying9) (Fq_ (by decide) ag36 rfl rfl (Bb_ Tryz.underlying36) (Fq_ (by decide) ag36 rfl rfl (Bb_ Tryz.underlying36) (Fq_ (by decide) ag9 rfl rfl (Kw_ Tryz.underlying9) Gl_))))) (by obtain⟨a0,a1,a2,a3⟩:=p;obtain⟨b0,b1,b2,b3⟩:=q;rw[Bool.eq_iff_iff];simp)
abbrev ty58:TI:=⟨.agg [(0,1),(1,1),(2,1)],3,40,[.str [], .int .u8 0, .str []]⟩
abbrev ty60:TI:=⟨.agg [(0,1),(1,1),(2,1),(3,1)],4,48,[.str [], .int .u64 0, .int .u64 0, .str []]⟩
abbrev ty65:TI:=⟨.agg [(0,1),(1,1),(2,1),(3,1),(4,1),(5,1),(6,1)],7,96,[.int .u64 0, .str [], .str [], .sl Pair.pc [], .str [], .int .u64 0, .int .u8 0]⟩
abbrev ty67:TI:=⟨.agg [(0,1),(1,1),(2,3),(5,4),(9,6),(15,1),(16,1),(17,1),(18,1),(19,1),(20,1),(21,7),(28,1)],29,344,[.int .u8 0, .int .u64 0, .str [], .int .u8 0, .str [], .str [], .int .u64 0, .int .u64 0, .str [], .str [], .str [], .bool false, .str [], .sl Pair.pc [], .bool false, .str [], .int .u64 0, .int .u8 0, .int .u8 0, .int .u8 0, .int .u64 0, .int .u64 0, .str [], .str [], .sl Pair.pc [], .str [], .int .u64 0, .int .u8 0, .str []]⟩
def tbv14:Tb:=[(5,ty5),(9,ty9),(36,ty36),(58,ty58),(60,ty60),(61,ty61),(63,ty63),(65,ty65),(67,ty67),(371,ty371)]
theorem tv14:tbB Tryz.prog tbv14=true:=by kernel_rfl
theorem Hk_ (m:Mail):Fn Tryz.prog gb 113 [.agg (Mail.pc m)] (.int .i64 (Ga_ m)):=by
  refine fC Tryz.func113 tv14 Tryz.ntmps113 fun w N H hG=>?_;refine gm tv14 11 [0] fun B2=>?_;refine call (Cn_ _) rfl rfl fun w3=>?_;refine gx tv14 9 ?_;refine cnd rfl (fun h4=>?_) (fun h4=>?_)
  · have h5:=Cp_ h4;have p6:=df h5;refine gx tv14 8 ?_;refine rt1 rfl rfl (ple ?_);refine congrArg (PV.int .i64) ?_
    simp only[bl1] at *
    unfold Ga_
    (repeat' split)<;>first|rfl|(exfalso;omega)|(exfalso;simp_all;done)|(exfalso;simp_all;omega)|grind
  have h7:=Co_ h4;have p8:=dt h7;refine gx tv14 7 ?_;refine call (Um_ _) rfl rfl fun w9=>?_;refine gx tv14 9 ?_;refine cnd rfl (fun h10=>?_) (fun h10=>?_)
  · have h11:=Cp_ h10;have p12:=df h11;refine gx tv14 8 ?_;refine rt1 rfl rfl (ple ?_);refine congrArg (PV.int .i64) ?_
    simp only[bl1] at *
    unfold Ga_
    (repeat' split)<;>first|rfl|(exfalso;omega)|(exfalso;simp_all;done)|(exfalso;simp_all;omega)|grind
  have h13:=Co_ h10;have p14:=dt h13;refine gx tv14 7 ?_;refine call (Hi_ _) rfl rfl fun w15=>?_;refine gx tv14 11 ?_;refine cnd rfl (fun h16=>?_) (fun h16=>?_)
  · have h17:=Cp_ h16;have p18:=df h17;refine gx tv14 9 ?_;refine rt1 rfl rfl (ple ?_);refine congrArg (PV.int .i64) ?_
    simp only[bl1] at *
    unfold Ga_
    (repeat' split)<;>first|rfl|(exfalso;omega)|(exfalso;simp_all;done)|(exfalso;simp_all;omega)|grind
  have h19:=Co_ h16;have p20:=dt h19;refine gx tv14 9 ?_;refine cnd rfl (fun h21=>?_) (fun h21=>?_)
  · have p22:=dt h21;refine gx tv14 8 ?_;refine rt1 rfl rfl (ple ?_);refine congrArg (PV.int .i64) ?_
    simp only[bl1] at *
    unfold Ga_
    (repeat' split)<;>first|rfl|(exfalso;omega)|(exfalso;simp_all;done)|(exfalso;simp_all;omega)|grind
  have p23:=df h21;refine gx tv14 8 ?_;refine cnd rfl (fun h24=>?_) (fun h24=>?_)
  · have p25:=dt h24;refine gx tv14 8 ?_;refine rt1 rfl rfl (ple ?_);refine congrArg (PV.int .i64) ?_
    simp only[bl1] at *
    unfold Ga_
    (repeat' split)<;>first|rfl|(exfalso;omega)|(exfalso;simp_all;done)|(exfalso;simp_all;omega)|grind
  have p26:=df h24;refine gx tv14 9 ?_;refine rt1 rfl rfl (ple ?_);refine congrArg (PV.int .i64) ?_
  simp only[bl1] at *
  unfold Ga_
  (repeat' split)<;>first|rfl|(exfalso;omega)|(exfalso;simp_all;done)|(exfalso;simp_all;omega)|grind
theorem Ml_ (m:Mail):Fn Tryz.prog gb 230 [.agg (Mail.pc m)] (.tup [.str (Dm_ m), .int .i64 (Ga_ m)]):=by
  refine fC Tryz.func230 tv14 Tryz.ntmps230 fun w N H hG=>?_;have m_w:=Mail.pwf w.1;have m_w':=m_w
  simp only[Mail.wf] at m_w'
  have m_head_k:=Mail.kd3 w.1;have m_head_k2:m.head.length<=140737488355328:=w.1.2.2.2.1.1;refine gm tv14 11 [0] fun B2=>?_;refine call (Hk_ _) rfl rfl fun w3=>?_;have :=K2_ m;have hmo3:=fun h=>Fx_ (m:=m) h;refine gx tv14 9 ?_;refine cnd rfl (fun h4=>?_) (fun h4=>?_)
  · have h5:=Cp_ h4;have p6:=df h5;refine gx tv14 9 ?_;refine rt2 rfl rfl ?_;refine ple ?_
    simp[Dm_,Ou_, *]
  have h7:=Co_ h4;have p8:=dt h7;refine gx tv14 6 ?_;refine call (Kc_ _) rfl rfl fun w9=>?_;have :=Fc_ m.head;refine gx tv14 8 ?_;refine aN [1,2,3,4,5,6] 17 mixd ?_;refine gX tv14 [0,1,2] 14 ?_;refine vC 3 rfl (out_Num (⟨[],0⟩:Out) _ _ (by ((try have :=hrl (by assumption));first|omega|(simp[C_,By_,Bj_,numK]<;>omega)))) rfl fun w10=>?_;have nl0:(⟨[],0⟩:Out).s.length=0:=rfl;have :=Af_ (⟨[],0⟩:Out) m.id 8;refine gX tv14 [4,5] 11 ?_;refine vC 6 rfl (C9_ _ _) rfl fun w11=>?_;have :=Al_ (C_ (⟨[],0⟩:Out) m.id 8) m.shop;refine gX tv14 [7,8] 8 ?_;refine vC 9 rfl (C9_ _ _) rfl fun w12=>?_;have :=Al_ (E_ (C_ (⟨[],0⟩:Out) m.id 8) m.shop) m.key;refine gX tv14 [10] 6 ?_;refine vC 11 rfl (Mn_ _ _) rfl fun w13=>?_;have :=F2_ (E_ (E_ (C_ (⟨[],0⟩:Out) m.id 8) m.shop) m.key) (Bk_ m.head);refine gX tv14 [12,13] 3 ?_;refine vC 14 rfl (C9_ _ _) rfl fun w14=>?_;have :=Al_ (By_ (E_ (E_ (C_ (⟨[],0⟩:Out) m.id 8) m.shop) m.key) (Bk_ m.head)) m.body;refine vE 15 rfl (aL tv14 1 fun b15=>?_);refine vT 16 rfl (sA tv14 ?_);refine vD ?_;refine gx tv14 2 ?_;refine aN [2,3,4,5,6,7] 11 mixd ?_;refine gX tv14 [0,1,2] 8 ?_;refine vC 3 rfl (out_Num _ _ _ (by ((try have :=hrl (by assumption));first|omega|(simp[C_,By_,Bj_,numK]<;>omega)))) rfl fun w16=>?_;have :=Af_ (E_ (By_ (E_ (E_ (C_ (⟨[],0⟩:Out) m.id 8) m.shop) m.key) (Bk_ m.head)) m.body) m.due 8;refine gX tv14 [4,5,6] 4 ?_;refine vC 7 rfl (out_Num _ _ _ (by ((try have :=hrl (by assumption));first|omega|(simp[C_,By_,Bj_,numK]<;>omega)))) rfl fun w17=>?_;have :=Af_ (C_ (E_ (By_ (E_ (E_ (C_ (⟨[],0⟩:Out) m.id 8) m.shop) m.key) (Bk_ m.head)) m.body) m.due 8) m.hops 1;refine vC 8 rfl (Cx_ _) rfl fun w18=>?_;refine gX tv14 [9,10] 0 ?_;refine vD ?_;refine gx tv14 2 ?_;refine rt2 rfl rfl ?_;refine ple ?_
  simp[Dm_,Ou_, *]
theorem Pu_ (s:Bs):Fn Tryz.prog gb 111 [.str s] (.int .i64 (Jd_ s)):=by
  refine fC Tryz.func111 tv14 Tryz.ntmps111 fun w N H hG=>?_;refine gx tv14 12 ?_;refine cn rfl (fun p2=>?_) fun p3=>?_
  · refine gx tv14 7 ?_;refine rt1 rfl rfl (ple ?_)
    simp[Jd_, *]
  refine gx tv14 5 ?_;refine call (Cn_ _) rfl rfl fun w4=>?_;refine gx tv14 4 ?_;refine rt1 rfl rfl (ple ?_)
  simp[Jd_, *]
theorem Ik_ (b:Bool) (e:Int):Fn Tryz.prog gb 110 [.bool b, .int .i64 e] (.int .i64 (Fp_ b e)):=by
  refine fC Tryz.func110 tv14 Tryz.ntmps110 fun w N H hG=>?_;refine gx tv14 11 ?_;refine cnd rfl (fun h1=>?_) (fun h1=>?_)
  · refine gx tv14 8 ?_;refine rt1 rfl rfl (ple ?_)
    simp[Fp_, *]
  refine gx tv14 8 ?_;refine rt1 rfl rfl (ple ?_)
  simp[Fp_, *]
theorem Ov_ (a:Mail) (b:Mail):Fn Tryz.prog gb 192 [.agg (Mail.pc a), .agg (Mail.pc b)] (.bool (decide (a=b))):=by
  refine fC Tryz.func192 tv14 Tryz.ntmps192 fun w N H hG=>?_;refine gmy tv14 33 [0,1] fun B2=>?_;refine callg rfl (fun hc=>(S1_ _ _)) rfl ⟨(fun hc=>hc),(fun hc=>hc),trivial⟩ rfl rfl fun _=>?_;refine gy tv14 26 ?_;refine rt1 rfl rfl (ple ?_);exact congrArg PV.bool (by rw[Bool.eq_iff_iff];first|(simp[Mail.eq_iff,and_assoc];done)|(simp[Mail.eq_iff];grind))
theorem Y4_ (a:DeedR) (b:DeedR):Fn Tryz.prog gb 106 [.agg (DeedR.pc a), .agg (DeedR.pc b)] (.bool (decide (a=b))):=by
  refine fC Tryz.func106 tv14 Tryz.ntmps106 fun w N H hG=>?_;refine gmy tv14 26 [0,1] fun B2=>?_;refine q1g [19,21] rfl (fun hc=>saeq rfl rfl eqg58 (veq58 a.shop b.shop)) ⟨(fun hc=>hc),(fun hc=>hc),trivial⟩ rfl rfl rfl fun _=>?_;refine gy tv14 6 ?_;refine q1g [26,28] rfl (fun hc=>saeq rfl rfl eqg60 (veq60 a.queue b.queue)) ⟨(fun hc=>hc),(fun hc=>hc),trivial⟩ rfl rfl rfl fun _=>?_;refine gy tv14 6 ?_;refine callg rfl (fun hc=>(Qo_ _ _)) rfl ⟨(fun hc=>hc),(fun hc=>hc),trivial⟩ rfl rfl fun _=>?_;refine gy tv14 48 ?_;refine callg rfl (fun hc=>(Ov_ _ _)) rfl ⟨(fun hc=>hc),(fun hc=>hc),trivial⟩ rfl rfl fun _=>?_;refine gy tv14 12 ?_;refine rt1 rfl rfl (ple ?_);exact congrArg PV.bool (by rw[Bool.eq_iff_iff];first|(simp[DeedR.eq_iff,and_assoc];done)|(simp[DeedR.eq_iff];grind))
abbrev ty303:TI:=⟨.slc 78,1,24,[.sl i64c []]⟩
def tbv15:Tb:=[(5,ty5),(9,ty9),(36,ty36),(58,ty58),(60,ty60),(61,ty61),(63,ty63),(65,ty65),(67,ty67),(78,ty78),(303,ty303)]
theorem tv15:tbB Tryz.prog tbv15=true:=by kernel_rfl
theorem Y5_ (d:DeedR):Fn Tryz.prog gb 107 [.agg (DeedR.pc d)] (.agg (DeedR.pc (E5_ d))):=by
  refine fC Tryz.func107 tv15 Tryz.ntmps107 fun w N H hG=>?_;refine gm tv15 31 [0,1,2] fun B2=>?_;refine cn rfl (fun p6=>?_) fun p8=>?_
  · refine gm tv15 15 [] fun _=>?_;refine rt1 rfl rfl (ple ?_);have e:E5_ d=(⟨d.kind,d.tick,d.shop,(⟨[],0,0,[]⟩:QueueR),(⟨[],[],false,[],[],false⟩:BindR),[],0,0,0,0,0,(⟨0,[],[],[],[],0,0⟩:Mail),[]⟩:DeedR):=by
      unfold E5_
      repeat (first|rw[if_pos (by omega)]|rw[if_neg (by omega)])
      rfl
    rw[e];rfl
  refine gx tv15 6 ?_;refine cn rfl (fun p10=>?_) fun p12=>?_
  · refine gm tv15 15 [] fun _=>?_;refine rt1 rfl rfl (ple ?_);have e:E5_ d=(⟨d.kind,d.tick,(⟨[],0,[]⟩:ShopR),d.queue,(⟨[],[],false,[],[],false⟩:BindR),[],0,0,0,0,0,(⟨0,[],[],[],[],0,0⟩:Mail),[]⟩:DeedR):=by
      unfold E5_
      repeat (first|rw[if_pos (by omega)]|rw[if_neg (by omega)])
      rfl
    rw[e];rfl
  refine gx tv15 7 ?_;refine cnd rfl (fun h13=>?_) (fun h13=>?_)
  · have p14:=dt h13;refine gx tv15 2 ?_;refine cndT rfl h13 ?_;refine gm tv15 15 [] fun _=>?_;refine rt1 rfl rfl (ple ?_);have e:E5_ d=(⟨d.kind,d.tick,(⟨[],0,[]⟩:ShopR),(⟨[],0,0,[]⟩:QueueR),d.bind,[],0,0,0,0,0,(⟨0,[],[],[],[],0,0⟩:Mail),[]⟩:DeedR):=by
      unfold E5_
      repeat (first|rw[if_pos (by omega)]|rw[if_neg (by omega)])
      rfl
    rw[e];rfl
  have p16:=df h13;refine gx tv15 5 ?_;refine cn rfl (fun p18=>?_) fun p20=>?_
  · refine gm tv15 15 [] fun _=>?_;refine rt1 rfl rfl (ple ?_);have e:E5_ d=(⟨d.kind,d.tick,(⟨[],0,[]⟩:ShopR),(⟨[],0,0,[]⟩:QueueR),d.bind,[],0,0,0,0,0,(⟨0,[],[],[],[],0,0⟩:Mail),[]⟩:DeedR):=by
      unfold E5_
      repeat (first|rw[if_pos (by omega)]|rw[if_neg (by omega)])
      rfl
    rw[e];rfl
  refine gx tv15 6 ?_;refine cn rfl (fun p22=>?_) fun p24=>?_
  · refine gm tv15 15 [] fun _=>?_;refine rt1 rfl rfl (ple ?_);have e:E5_ d=(⟨d.kind,d.tick,(⟨[],0,[]⟩:ShopR),(⟨[],0,0,[]⟩:QueueR),(⟨[],[],false,[],[],false⟩:BindR),[],0,0,0,0,0,d.mail,[]⟩:DeedR):=by
      unfold E5_
      repeat (first|rw[if_pos (by omega)]|rw[if_neg (by omega)])
      rfl
    rw[e];rfl
  refine gx tv15 7 ?_;refine cnd rfl (fun h25=>?_) (fun h25=>?_)
  · have p26:=dt h25;refine gx tv15 2 ?_;refine cndT rfl h25 ?_;refine gm tv15 15 [] fun _=>?_;refine rt1 rfl rfl (ple ?_);have e:E5_ d=(⟨d.kind,d.tick,(⟨[],0,[]⟩:ShopR),(⟨[],0,0,[]⟩:QueueR),(⟨[],[],false,[],[],false⟩:BindR),d.name,0,0,0,0,0,(⟨0,[],[],[],[],0,0⟩:Mail),[]⟩:DeedR):=by
      unfold E5_
      repeat (first|rw[if_pos (by omega)]|rw[if_neg (by omega)])
      rfl
    rw[e];rfl
  have p28:=df h25;refine gx tv15 6 ?_;refine cnd rfl (fun h29=>?_) (fun h29=>?_)
  · have p30:=dt h29;refine gx tv15 2 ?_;refine cndT rfl h29 ?_;refine gm tv15 15 [] fun _=>?_;refine rt1 rfl rfl (ple ?_);have e:E5_ d=(⟨d.kind,d.tick,(⟨[],0,[]⟩:ShopR),(⟨[],0,0,[]⟩:QueueR),(⟨[],[],false,[],[],false⟩:BindR),d.name,0,0,0,0,0,(⟨0,[],[],[],[],0,0⟩:Mail),[]⟩:DeedR):=by
      unfold E5_
      repeat (first|rw[if_pos (by omega)]|rw[if_neg (by omega)])
      rfl
    rw[e];rfl
  have p32:=df h29;refine gx tv15 5 ?_;refine cn rfl (fun p34=>?_) fun p36=>?_
  · refine gm tv15 15 [] fun _=>?_;refine rt1 rfl rfl (ple ?_);have e:E5_ d=(⟨d.kind,d.tick,(⟨[],0,[]⟩:ShopR),(⟨[],0,0,[]⟩:QueueR),(⟨[],[],false,[],[],false⟩:BindR),d.name,0,0,0,0,0,(⟨0,[],[],[],[],0,0⟩:Mail),[]⟩:DeedR):=by
      unfold E5_
      repeat (first|rw[if_pos (by omega)]|rw[if_neg (by omega)])
      rfl
    rw[e];rfl
  refine gx tv15 6 ?_;refine cn rfl (fun p38=>?_) fun p40=>?_
  · refine aN [2,3,4,5,6,7,8] 12 mixd ?_;refine gX tv15 [0,1,2,3,4,5,6] 5 ?_;refine vE 7 rfl (sO tv15 ?_);refine gX tv15 [8] 3 ?_;refine vE 9 rfl (sO tv15 ?_);refine gX tv15 [10] 1 ?_;refine vT 11 rfl (sO tv15 ?_);refine vD ?_;refine gm tv15 9 [] fun _=>?_;refine rt1 rfl rfl (ple ?_);have e:E5_ d=(⟨d.kind,d.tick,(⟨[],0,[]⟩:ShopR),(⟨[],0,0,[]⟩:QueueR),(⟨[],[],false,[],[],false⟩:BindR),d.name,d.id,d.how,0,0,0,(⟨0,[],[],[],[],0,0⟩:Mail),[]⟩:DeedR):=by
      unfold E5_
      repeat (first|rw[if_pos (by omega)]|rw[if_neg (by omega)])
      rfl
    rw[e];rfl
  refine gx tv15 6 ?_;refine cn rfl (fun p42=>?_) fun p44=>?_
  · refine aN [2,3,4,5,6,7,8] 12 mixd ?_;refine gX tv15 [0,1,2,3,4,5,6] 5 ?_;refine vE 7 rfl (sO tv15 ?_);refine gX tv15 [8] 3 ?_;refine vE 9 rfl (sO tv15 ?_);refine gX tv15 [10] 1 ?_;refine vT 11 rfl (sA tv15 ?_);refine vD ?_;refine gm tv15 9 [] fun _=>?_;refine rt1 rfl rfl (ple ?_);have e:E5_ d=(⟨d.kind,d.tick,(⟨[],0,[]⟩:ShopR),(⟨[],0,0,[]⟩:QueueR),(⟨[],[],false,[],[],false⟩:BindR),[],0,0,d.frm,0,d.number,d.mail,[]⟩:DeedR):=by
      unfold E5_
      repeat (first|rw[if_pos (by omega)]|rw[if_neg (by omega)])
      rfl
    rw[e];rfl
  refine gx tv15 6 ?_;refine cn rfl (fun p46=>?_) fun p48=>?_
  · refine aN [2,3,4,5,6,7,8] 8 mixd ?_;refine gX tv15 [0,1,2,3,4] 3 ?_;refine vE 5 rfl (sO tv15 ?_);refine gX tv15 [6] 1 ?_;refine vT 7 rfl (sO tv15 ?_);refine vD ?_;refine gm tv15 9 [] fun _=>?_;refine rt1 rfl rfl (ple ?_);have e:E5_ d=(⟨d.kind,d.tick,(⟨[],0,[]⟩:ShopR),(⟨[],0,0,[]⟩:QueueR),(⟨[],[],false,[],[],false⟩:BindR),[],0,0,0,d.code,0,(⟨0,[],[],[],[],0,0⟩:Mail),d.text⟩:DeedR):=by
      unfold E5_
      repeat (first|rw[if_pos (by omega)]|rw[if_neg (by omega)])
      rfl
    rw[e];rfl
  refine gm tv15 10 [] fun _=>?_;refine rt1 rfl rfl (ple ?_);have e:E5_ d=(⟨d.kind,d.tick,(⟨[],0,[]⟩:ShopR),(⟨[],0,0,[]⟩:QueueR),(⟨[],[],false,[],[],false⟩:BindR),[],0,0,0,0,0,(⟨0,[],[],[],[],0,0⟩:Mail),[]⟩:DeedR):=by
    unfold E5_
    repeat (first|rw[if_pos (by omega)]|rw[if_neg (by omega)])
    rfl
  rw[e];rfl
theorem Il_ (l:List Int):Fn Tryz.prog gb 108 [.sl i64c l] (.int .i64 (Gv_ l)):=by
  refine fC Tryz.func108 tv15 Tryz.ntmps108 fun w N H hG=>?_;have l_l:l.length<=140737488355328:=w.1.1;refine gx tv15 14 ?_;refine loop (ι:=Nat) [0,5,6] [] (fun k=>[(7, .int .i64 (k:Int))]) (fun k=>[]) (fun k=>k<=l.length/\Gv_ l=Gv_ (l.drop k)) (fun k=>l.length-k) 0 ⟨rfl,trivial⟩ trivial ?_ ?_
  · exact⟨Nat.zero_le _,rfl⟩
  rintro k hp1;obtain⟨hk1,hk2⟩:=hp1;refine gx tv15 6 ?_;refine cn rfl (fun p3=>?_) fun p12=>?_
  · obtain⟨c4,hc5⟩:=getE (xs:=l) (m:=k) (by omega);refine gx tv15 6 ?_;refine q1 (qidx tv15 k rfl rfl rfl hc5 rfl rfl rfl rfl) rfl fun w6=>?_;refine gx tv15 10 ?_;refine cnd rfl (fun h7=>?_) (fun h7=>?_)
    · have h8:=Cp_ h7;have p9:=df h8;refine gx tv15 12 ?_;refine rt1 rfl rfl (ple ?_);refine congrArg (PV.int .i64) ?_
      rw[hk2,Cj_ hc5]
      unfold Gv_
      rw[if_pos (by assumption)]
    have h10:=Co_ h7;have p11:=dt h10;refine gy tv15 7 ?_;refine next (k+1) rfl rfl ⟨rfl,trivial⟩ trivial ?_ ?_
    · omega
    refine⟨by omega,?_⟩
    rw[hk2,Cj_ hc5]
    conv=>lhs;unfold Gv_
    rw[if_neg (by omega)]
  refine gx tv15 11 ?_;refine rt1 rfl rfl (ple ?_);refine congrArg (PV.int .i64) ?_
  rw[hk2,List.drop_of_length_le (by omega)]
  rfl
theorem Pt_ (d:DeedR):Fn Tryz.prog gb 49 [.agg (DeedR.pc d)] (.int .i64 (Ec_ d)):=by
  refine fC Tryz.func49 tv15 Tryz.ntmps49 fun w N H hG=>?_;refine gm tv15 16 [0] fun B2=>?_;refine cn rfl (fun p4=>?_) fun p5=>?_
  · refine gx tv15 8 ?_;refine rt1 rfl rfl (ple ?_);refine congrArg (PV.int .i64) ?_
    unfold Ec_
    repeat (first|rw[if_pos (by omega)]|rw[if_neg (by omega)]|rw[if_pos (by assumption)]|rw[if_neg (not_not_intro (by assumption))])
    all_goals first|done|rfl
  refine gx tv15 1 ?_;refine aN [1,2,3,4,5,6] 6 mixd ?_;refine gX tv15 [0,1] 4 ?_;refine vE 2 rfl (eC (Y5_ _) rfl fun w6=>?_);refine vC 3 rfl (Y4_ _ _) rfl fun w7=>?_;refine gX tv15 [4,5] 0 ?_;refine vD ?_;refine gx tv15 1 ?_;refine cnd rfl (fun h8=>?_) (fun h8=>?_)
  · have h9:=Cp_ h8;have p10:=df h9;refine gx tv15 8 ?_;refine rt1 rfl rfl (ple ?_);refine congrArg (PV.int .i64) ?_
    unfold Ec_
    repeat (first|rw[if_pos (by omega)]|rw[if_neg (by omega)]|rw[if_pos (by assumption)]|rw[if_neg (not_not_intro (by assumption))])
    all_goals first|done|rfl
  have h11:=Co_ h8;have p12:=dt h11;refine gx tv15 17 ?_;refine cn rfl (fun p14=>?_) fun p20=>?_
  · refine gx tv15 1 ?_;refine aN [1,2,3,4,5,6] 16 mixd ?_;refine gX tv15 [0,1,2] 13 ?_;refine vC 3 rfl (Cn_ _) rfl fun w15=>?_;refine gX tv15 [4,5,6,7] 8 ?_;refine vC 8 rfl (Ik_ _ _) rfl fun w16=>?_;refine gX tv15 [9,10,11] 4 ?_;refine vC 12 rfl (Pu_ _) rfl fun w17=>?_;have :=L0_ d.shop.to';refine vE 13 rfl (bsl 1 i64c [D0_ d.shop.name,Fp_ (decide (4<d.shop.sort)) 8,Jd_ d.shop.to'] tv15 rfl rfl rfl rfl rfl (fun _=>rfl) rfl (by decide) (by decide) rfl fun u18=>?_);refine vE 14 rfl (calll 1 rfl (Il_ _) rfl rfl rfl fun w19=>?_);refine gX tv15 [15] 0 ?_;refine vD ?_;refine gx tv15 4 ?_;refine rt1 rfl rfl (ple ?_);refine congrArg (PV.int .i64) ?_
    unfold Ec_
    repeat (first|rw[if_pos (by omega)]|rw[if_neg (by omega)]|rw[if_pos (by assumption)]|rw[if_neg (not_not_intro (by assumption))])
    all_goals first|done|rfl
  refine gx tv15 6 ?_;refine cn rfl (fun p22=>?_) fun p27=>?_
  · refine gx tv15 1 ?_;refine aN [1,2,3,4,5,6] 11 mixd ?_;refine gX tv15 [0,1,2] 8 ?_;refine vC 3 rfl (Cn_ _) rfl fun w23=>?_;refine gX tv15 [4,5,6] 4 ?_;refine vC 7 rfl (Pu_ _) rfl fun w24=>?_;have :=L0_ d.queue.dead;refine vE 8 rfl (bsl 1 i64c [D0_ d.queue.name,Jd_ d.queue.dead] tv15 rfl rfl rfl rfl rfl (fun _=>rfl) rfl (by decide) (by decide) rfl fun u25=>?_);refine vE 9 rfl (calll 1 rfl (Il_ _) rfl rfl rfl fun w26=>?_);refine gX tv15 [10] 0 ?_;refine vD ?_;refine gx tv15 4 ?_;refine rt1 rfl rfl (ple ?_);refine congrArg (PV.int .i64) ?_
    unfold Ec_
    repeat (first|rw[if_pos (by omega)]|rw[if_neg (by omega)]|rw[if_pos (by assumption)]|rw[if_neg (not_not_intro (by assumption))])
    all_goals first|done|rfl
  refine gx tv15 7 ?_;refine cnd rfl (fun h28=>?_) (fun h28=>?_)
  · have p29:=dt h28;refine gx tv15 2 ?_;refine cndT rfl h28 ?_;refine gm tv15 9 [1] fun B31=>?_;refine aN [2,3,4,5,6,7] 17 mixd ?_;refine gX tv15 [0,1] 15 ?_;refine vC 2 rfl (Cn_ _) rfl fun w32=>?_;refine gX tv15 [3,4] 12 ?_;refine vC 5 rfl (Cn_ _) rfl fun w33=>?_;refine gX tv15 [6,7,8,9] 7 ?_;refine vC 10 rfl (Ik_ _ _) rfl fun w34=>?_;refine gX tv15 [11,12] 4 ?_;refine vC 13 rfl (Hi_ _) rfl fun w35=>?_;refine vE 14 rfl (bsl 2 i64c [D0_ d.bind.shop,D0_ d.bind.to',Fp_ (decide (64<(d.bind.key.length:Int))) 5,Fr_ d.bind.want] tv15 rfl rfl rfl rfl rfl (fun _=>rfl) rfl (by decide) (by decide) rfl fun u36=>?_);refine vE 15 rfl (calll 2 rfl (Il_ _) rfl rfl rfl fun w37=>?_);refine gX tv15 [16] 0 ?_;refine vD ?_;refine gx tv15 4 ?_;refine rt1 rfl rfl (ple ?_);refine congrArg (PV.int .i64) ?_
    unfold Ec_
    repeat (first|rw[if_pos (by omega)]|rw[if_neg (by omega)]|rw[if_pos (by assumption)]|rw[if_neg (not_not_intro (by assumption))])
    all_goals first|done|rfl
  have p38:=df h28;refine gx tv15 5 ?_;refine cn rfl (fun p40=>?_) fun p49=>?_
  · refine gm tv15 9 [1] fun B42=>?_;refine aN [2,3,4,5,6,7] 17 mixd ?_;refine gX tv15 [0,1] 15 ?_;refine vC 2 rfl (Cn_ _) rfl fun w43=>?_;refine gX tv15 [3,4] 12 ?_;refine vC 5 rfl (Cn_ _) rfl fun w44=>?_;refine gX tv15 [6,7,8,9] 7 ?_;refine vC 10 rfl (Ik_ _ _) rfl fun w45=>?_;refine gX tv15 [11,12] 4 ?_;refine vC 13 rfl (Hi_ _) rfl fun w46=>?_;refine vE 14 rfl (bsl 2 i64c [D0_ d.bind.shop,D0_ d.bind.to',Fp_ (decide (64<(d.bind.key.length:Int))) 5,Fr_ d.bind.want] tv15 rfl rfl rfl rfl rfl (fun _=>rfl) rfl (by decide) (by decide) rfl fun u47=>?_);refine vE 15 rfl (calll 2 rfl (Il_ _) rfl rfl rfl fun w48=>?_);refine gX tv15 [16] 0 ?_;refine vD ?_;refine gx tv15 4 ?_;refine rt1 rfl rfl (ple ?_);refine congrArg (PV.int .i64) ?_
    unfold Ec_
    repeat (first|rw[if_pos (by omega)]|rw[if_neg (by omega)]|rw[if_pos (by assumption)]|rw[if_neg (not_not_intro (by assumption))])
    all_goals first|done|rfl
  refine gx tv15 7 ?_;refine cnd rfl (fun h50=>?_) (fun h50=>?_)
  · have p51:=dt h50;refine gx tv15 2 ?_;refine cndT rfl h50 ?_;refine gx tv15 4 ?_;refine call (Hk_ _) rfl rfl fun w52=>?_;have :=K2_ d.mail;have hmo52:=fun h=>Fx_ (m:=d.mail) h;refine gx tv15 6 ?_;refine rt1 rfl rfl (ple ?_);refine congrArg (PV.int .i64) ?_
    unfold Ec_
    repeat (first|rw[if_pos (by omega)]|rw[if_neg (by omega)]|rw[if_pos (by assumption)]|rw[if_neg (not_not_intro (by assumption))])
    all_goals first|done|rfl
  have p53:=df h50;refine gx tv15 5 ?_;refine cn rfl (fun p55=>?_) fun p57=>?_
  · refine gx tv15 4 ?_;refine call (Hk_ _) rfl rfl fun w56=>?_;have :=K2_ d.mail;have hmo56:=fun h=>Fx_ (m:=d.mail) h;refine gx tv15 6 ?_;refine rt1 rfl rfl (ple ?_);refine congrArg (PV.int .i64) ?_
    unfold Ec_
    repeat (first|rw[if_pos (by omega)]|rw[if_neg (by omega)]|rw[if_pos (by assumption)]|rw[if_neg (not_not_intro (by assumption))])
    all_goals first|done|rfl
  refine gx tv15 7 ?_;refine cnd rfl (fun h58=>?_) (fun h58=>?_)
  · have p59:=dt h58;refine gx tv15 2 ?_;refine cndT rfl h58 ?_;refine gx tv15 8 ?_;refine rt1 rfl rfl (ple ?_);refine congrArg (PV.int .i64) ?_
    unfold Ec_
    repeat (first|rw[if_pos (by omega)]|rw[if_neg (by omega)]|rw[if_pos (by assumption)]|rw[if_neg (not_not_intro (by assumption))])
    all_goals first|done|rfl
  have p60:=df h58;refine gx tv15 5 ?_;refine cn rfl (fun p62=>?_) fun p63=>?_
  · refine gx tv15 8 ?_;refine rt1 rfl rfl (ple ?_);refine congrArg (PV.int .i64) ?_
    unfold Ec_
    repeat (first|rw[if_pos (by omega)]|rw[if_neg (by omega)]|rw[if_pos (by assumption)]|rw[if_neg (not_not_intro (by assumption))])
    all_goals first|done|rfl
  refine gx tv15 6 ?_;refine cn rfl (fun p65=>?_) fun p67=>?_
  · refine gx tv15 6 ?_;refine call (Ik_ _ _) rfl rfl fun w66=>?_;refine gx tv15 6 ?_;refine rt1 rfl rfl (ple ?_);refine congrArg (PV.int .i64) ?_
    unfold Ec_
    repeat (first|rw[if_pos (by omega)]|rw[if_neg (by omega)]|rw[if_pos (by assumption)]|rw[if_neg (not_not_intro (by assumption))])
    all_goals first|done|rfl
  refine gx tv15 4 ?_;refine aN [1,2,3,4,5,6] 10 mixd ?_;refine gX tv15 [0,1] 8 ?_;refine vC 2 rfl (Cn_ _) rfl fun w68=>?_;refine gX tv15 [3,4,5] 4 ?_;refine vC 6 rfl (Ik_ _ _) rfl fun w69=>?_;refine vE 7 rfl (bsl 1 i64c [D0_ d.name,Fp_ (decide (2<d.how)) 7] tv15 rfl rfl rfl rfl rfl (fun _=>rfl) rfl (by decide) (by decide) rfl fun u70=>?_);refine vE 8 rfl (calll 1 rfl (Il_ _) rfl rfl rfl fun w71=>?_);refine gX tv15 [9] 0 ?_;refine vD ?_;refine gx tv15 2 ?_;refine rt1 rfl rfl (ple ?_);refine congrArg (PV.int .i64) ?_
  unfold Ec_
  repeat (first|rw[if_pos (by omega)]|rw[if_neg (by omega)]|rw[if_pos (by assumption)]|rw[if_neg (not_not_intro (by assumption))])
  all_goals first|done|rfl
def tbv16:Tb:=[(4,ty4),(5,ty5),(9,ty9),(36,ty36),(58,ty58),(60,ty60),(61,ty61),(63,ty63),(65,ty65),(67,ty67),(371,ty371)]
theorem tv16:tbB Tryz.prog tbv16=true:=by kernel_rfl
theorem Xp_ (d:DeedR):Fn Tryz.prog gb 185 [.agg (DeedR.pc d)] (.tup [.str (Aq_ d), .int .i64 (Ec_ d)]):=by
  refine fC Tryz.func185 tv16 Tryz.ntmps185 fun w N H hG=>?_;have d_w:=DeedR.pwf w.1;have d_w':=d_w
  simp only[DeedR.wf,ShopR.wf,QueueR.wf,BindR.wf,Mail.wf] at d_w'
  have d_bind_want_k:=DeedR.kd13 w.1;have d_bind_want_k2:d.bind.want.length<=140737488355328:=w.1.2.2.2.2.2.2.2.2.2.2.2.2.2.1.1;have d_mail_head_k:=DeedR.kd24 w.1;have d_mail_head_k2:d.mail.head.length<=140737488355328:=w.1.2.2.2.2.2.2.2.2.2.2.2.2.2.2.2.2.2.2.2.2.2.2.2.2.1.1;refine gm tv16 11 [0] fun B2=>?_;refine call (Pt_ _) rfl rfl fun w3=>?_;have :=Ux_ d;refine gx tv16 9 ?_;refine cnd rfl (fun h4=>?_) (fun h4=>?_)
  · have h5:=Cp_ h4;have p6:=df h5;refine gx tv16 9 ?_;refine rt2 rfl rfl ?_;refine ple ?_;have e:Aq_ d=[]:=by
      unfold Aq_
      first
        |(rw[if_neg (by assumption)];done)
        |(rw[if_pos (by assumption)];unfold Fi_;(repeat (first|rw[if_pos (by omega)]|rw[if_neg (by omega)]|rw[if_pos (by assumption)]|rw[if_neg (by assumption)]|rw[if_neg (not_not_intro (by assumption))]));first|done|rfl)
    rw[e]
    try (rw[show Ec_ d=0 by assumption])
  have h7:=Co_ h4;have p8:=dt h7;have hdk:=Qn_ (d:=d) (by omega) p8;obtain⟨dk1,dk2,dk3,dk4,dk5,dk6,dk7,dk8,dk9,dk10,dk11,dk12,dk13,dk14,dk15,dk16,dk17,dk18,dk19⟩:=hdk;refine gx tv16 3 ?_;refine aN [1,2,3,4,5,6] 10 mixd ?_;refine gX tv16 [0,1,2,3] 6 ?_;refine vC 4 rfl (out_Num (⟨[],0⟩:Out) _ _ (by ((try have :=hrl (by assumption));first|omega|(simp[C_,By_,Bj_,numK]<;>omega)))) rfl fun w9=>?_;have nl0:(⟨[],0⟩:Out).s.length=0:=rfl;have :=Af_ (⟨[],0⟩:Out) d.kind 1;refine gX tv16 [5,6] 3 ?_;refine vC 7 rfl (out_Num _ _ _ (by ((try have :=hrl (by assumption));first|omega|(simp[C_,By_,Bj_,numK]<;>omega)))) rfl fun w10=>?_;have :=Af_ (C_ (⟨[],0⟩:Out) d.kind 1) d.tick 8;refine vE 8 rfl (aL tv16 1 fun b11=>?_);refine vT 9 rfl (sA tv16 ?_);refine vD ?_;refine gx tv16 5 ?_;refine call (Ml_ _) rfl rfl fun w12=>?_;have :=F9_ d.mail;refine gx tv16 21 ?_;refine cn rfl (fun p14=>?_) fun p19=>?_
  · refine aN [2,3,4,5,6,7] 15 mixd ?_;refine gX tv16 [0,1,2,3] 11 ?_;refine vC 4 rfl (C9_ _ _) rfl fun w15=>?_;have :=Al_ (C_ (C_ (⟨[],0⟩:Out) d.kind 1) d.tick 8) d.shop.name;refine gX tv16 [5,6,7,8] 6 ?_;refine vC 9 rfl (out_Num _ _ _ (by ((try have :=hrl (by assumption));first|omega|(simp[C_,By_,Bj_,numK]<;>omega)))) rfl fun w16=>?_;have :=Af_ (E_ (C_ (C_ (⟨[],0⟩:Out) d.kind 1) d.tick 8) d.shop.name) d.shop.sort 1;refine gX tv16 [10,11,12] 2 ?_;refine vC 13 rfl (C9_ _ _) rfl fun w17=>?_;have :=Al_ (C_ (E_ (C_ (C_ (⟨[],0⟩:Out) d.kind 1) d.tick 8) d.shop.name) d.shop.sort 1) d.shop.to';refine vT 14 rfl (sA tv16 ?_);refine vD ?_;refine gx tv16 5 ?_;refine call (Cx_ _) rfl rfl fun w18=>?_;refine gx tv16 5 ?_;refine rt2 rfl rfl ?_;refine ple ?_;have e:Aq_ d=(E_ (C_ (E_ (C_ (C_ (⟨[],0⟩:Out) d.kind 1) d.tick 8) d.shop.name) d.shop.sort 1) d.shop.to').s:=by
      unfold Aq_
      first
        |(rw[if_neg (by assumption)];done)
        |(rw[if_pos (by assumption)];unfold Fi_;(repeat (first|rw[if_pos (by omega)]|rw[if_neg (by omega)]|rw[if_pos (by assumption)]|rw[if_neg (by assumption)]|rw[if_neg (not_not_intro (by assumption))]));first|done|rfl)
    rw[e]
    try (rw[show Ec_ d=0 by assumption])
  refine gx tv16 6 ?_;refine cn rfl (fun p21=>?_) fun p27=>?_
  · refine aN [2,3,4,5,6,7] 18 mixd ?_;refine gX tv16 [0,1,2,3] 14 ?_;refine vC 4 rfl (C9_ _ _) rfl fun w22=>?_;have :=Al_ (C_ (C_ (⟨[],0⟩:Out) d.kind 1) d.tick 8) d.queue.name;refine gX tv16 [5,6,7] 10 ?_;refine vC 8 rfl (out_Num _ _ _ (by ((try have :=hrl (by assumption));first|omega|(simp[C_,By_,Bj_,numK]<;>omega)))) rfl fun w23=>?_;have :=Af_ (E_ (C_ (C_ (⟨[],0⟩:Out) d.kind 1) d.tick 8) d.queue.name) d.queue.most 8;refine gX tv16 [9,10,11] 6 ?_;refine vC 12 rfl (out_Num _ _ _ (by ((try have :=hrl (by assumption));first|omega|(simp[C_,By_,Bj_,numK]<;>omega)))) rfl fun w24=>?_;have :=Af_ (C_ (E_ (C_ (C_ (⟨[],0⟩:Out) d.kind 1) d.tick 8) d.queue.name) d.queue.most 8) d.queue.life 8;refine gX tv16 [13,14,15] 2 ?_;refine vC 16 rfl (C9_ _ _) rfl fun w25=>?_;have :=Al_ (C_ (C_ (E_ (C_ (C_ (⟨[],0⟩:Out) d.kind 1) d.tick 8) d.queue.name) d.queue.most 8) d.queue.life 8) d.queue.dead;refine vT 17 rfl (sA tv16 ?_);refine vD ?_;refine gx tv16 5 ?_;refine call (Cx_ _) rfl rfl fun w26=>?_;refine gx tv16 5 ?_;refine rt2 rfl rfl ?_;refine ple ?_;have e:Aq_ d=(E_ (C_ (C_ (E_ (C_ (C_ (⟨[],0⟩:Out) d.kind 1) d.tick 8) d.queue.name) d.queue.most 8) d.queue.life 8) d.queue.dead).s:=by
      unfold Aq_
      first
        |(rw[if_neg (by assumption)];done)
        |(rw[if_pos (by assumption)];unfold Fi_;(repeat (first|rw[if_pos (by omega)]|rw[if_neg (by omega)]|rw[if_pos (by assumption)]|rw[if_neg (by assumption)]|rw[if_neg (not_not_intro (by assumption))]));first|done|rfl)
    rw[e]
    try (rw[show Ec_ d=0 by assumption])
  refine gx tv16 7 ?_;refine cnd rfl (fun h28=>?_) (fun h28=>?_)
  · have p29:=dt h28;refine gx tv16 2 ?_;refine cndT rfl h28 ?_;refine gm tv16 12 [2] fun B31=>?_;refine call (Kc_ _) rfl rfl fun w32=>?_;have :=Fc_ d.bind.want;refine gx tv16 7 ?_;refine aN [3,4,5,6,7,8] 21 mixd ?_;refine gX tv16 [0,1,2] 18 ?_;refine vC 3 rfl (C9_ _ _) rfl fun w33=>?_;have :=Al_ (C_ (C_ (⟨[],0⟩:Out) d.kind 1) d.tick 8) d.bind.shop;refine gX tv16 [4,5] 15 ?_;refine vC 6 rfl (C9_ _ _) rfl fun w34=>?_;have :=Al_ (E_ (C_ (C_ (⟨[],0⟩:Out) d.kind 1) d.tick 8) d.bind.shop) d.bind.to';refine gX tv16 [7,8] 12 ?_;refine vC 9 rfl (Nc_ _) rfl fun w35=>?_;refine vC 10 rfl (out_Num _ _ _ (by ((try have :=hrl (by assumption));first|omega|(simp[C_,By_,Bj_,numK]<;>omega)))) rfl fun w36=>?_;have :=Af_ (E_ (E_ (C_ (C_ (⟨[],0⟩:Out) d.kind 1) d.tick 8) d.bind.shop) d.bind.to') (bitN d.bind.up) 1;refine gX tv16 [11,12] 8 ?_;refine vC 13 rfl (C9_ _ _) rfl fun w37=>?_;have :=Al_ (C_ (E_ (E_ (C_ (C_ (⟨[],0⟩:Out) d.kind 1) d.tick 8) d.bind.shop) d.bind.to') (bitN d.bind.up) 1) d.bind.key;refine gX tv16 [14] 6 ?_;refine vC 15 rfl (Mn_ _ _) rfl fun w38=>?_;have :=F2_ (E_ (C_ (E_ (E_ (C_ (C_ (⟨[],0⟩:Out) d.kind 1) d.tick 8) d.bind.shop) d.bind.to') (bitN d.bind.up) 1) d.bind.key) (Bk_ d.bind.want);refine gX tv16 [16,17] 3 ?_;refine vC 18 rfl (Nc_ _) rfl fun w39=>?_;refine vC 19 rfl (out_Num _ _ _ (by ((try have :=hrl (by assumption));first|omega|(simp[C_,By_,Bj_,numK]<;>omega)))) rfl fun w40=>?_;have :=Af_ (By_ (E_ (C_ (E_ (E_ (C_ (C_ (⟨[],0⟩:Out) d.kind 1) d.tick 8) d.bind.shop) d.bind.to') (bitN d.bind.up) 1) d.bind.key) (Bk_ d.bind.want)) (bitN d.bind.all) 1;refine vT 20 rfl (sA tv16 ?_);refine vD ?_;refine gx tv16 5 ?_;refine call (Cx_ _) rfl rfl fun w41=>?_;refine gx tv16 5 ?_;refine rt2 rfl rfl ?_;refine ple ?_;have e:Aq_ d=(C_ (By_ (E_ (C_ (E_ (E_ (C_ (C_ (⟨[],0⟩:Out) d.kind 1) d.tick 8) d.bind.shop) d.bind.to') (bitN d.bind.up) 1) d.bind.key) (Bk_ d.bind.want)) (bitN d.bind.all) 1).s:=by
      unfold Aq_
      first
        |(rw[if_neg (by assumption)];done)
        |(rw[if_pos (by assumption)];unfold Fi_;(repeat (first|rw[if_pos (by omega)]|rw[if_neg (by omega)]|rw[if_pos (by assumption)]|rw[if_neg (by assumption)]|rw[if_neg (not_not_intro (by assumption))]));first|done|rfl)
    rw[e]
    try (rw[show Ec_ d=0 by assumption])
  have p42:=df h28;refine gx tv16 5 ?_;refine cn rfl (fun p44=>?_) fun p57=>?_
  · refine gm tv16 12 [2] fun B46=>?_;refine call (Kc_ _) rfl rfl fun w47=>?_;have :=Fc_ d.bind.want;refine gx tv16 7 ?_;refine aN [3,4,5,6,7,8] 21 mixd ?_;refine gX tv16 [0,1,2] 18 ?_;refine vC 3 rfl (C9_ _ _) rfl fun w48=>?_;have :=Al_ (C_ (C_ (⟨[],0⟩:Out) d.kind 1) d.tick 8) d.bind.shop;refine gX tv16 [4,5] 15 ?_;refine vC 6 rfl (C9_ _ _) rfl fun w49=>?_;have :=Al_ (E_ (C_ (C_ (⟨[],0⟩:Out) d.kind 1) d.tick 8) d.bind.shop) d.bind.to';refine gX tv16 [7,8] 12 ?_;refine vC 9 rfl (Nc_ _) rfl fun w50=>?_;refine vC 10 rfl (out_Num _ _ _ (by ((try have :=hrl (by assumption));first|omega|(simp[C_,By_,Bj_,numK]<;>omega)))) rfl fun w51=>?_;have :=Af_ (E_ (E_ (C_ (C_ (⟨[],0⟩:Out) d.kind 1) d.tick 8) d.bind.shop) d.bind.to') (bitN d.bind.up) 1;refine gX tv16 [11,12] 8 ?_;refine vC 13 rfl (C9_ _ _) rfl fun w52=>?_;have :=Al_ (C_ (E_ (E_ (C_ (C_ (⟨[],0⟩:Out) d.kind 1) d.tick 8) d.bind.shop) d.bind.to') (bitN d.bind.up) 1) d.bind.key;refine gX tv16 [14] 6 ?_;refine vC 15 rfl (Mn_ _ _) rfl fun w53=>?_;have :=F2_ (E_ (C_ (E_ (E_ (C_ (C_ (⟨[],0⟩:Out) d.kind 1) d.tick 8) d.bind.shop) d.bind.to') (bitN d.bind.up) 1) d.bind.key) (Bk_ d.bind.want);refine gX tv16 [16,17] 3 ?_;refine vC 18 rfl (Nc_ _) rfl fun w54=>?_;refine vC 19 rfl (out_Num _ _ _ (by ((try have :=hrl (by assumption));first|omega|(simp[C_,By_,Bj_,numK]<;>omega)))) rfl fun w55=>?_;have :=Af_ (By_ (E_ (C_ (E_ (E_ (C_ (C_ (⟨[],0⟩:Out) d.kind 1) d.tick 8) d.bind.shop) d.bind.to') (bitN d.bind.up) 1) d.bind.key) (Bk_ d.bind.want)) (bitN d.bind.all) 1;refine vT 20 rfl (sA tv16 ?_);refine vD ?_;refine gx tv16 5 ?_;refine call (Cx_ _) rfl rfl fun w56=>?_;refine gx tv16 5 ?_;refine rt2 rfl rfl ?_;refine ple ?_;have e:Aq_ d=(C_ (By_ (E_ (C_ (E_ (E_ (C_ (C_ (⟨[],0⟩:Out) d.kind 1) d.tick 8) d.bind.shop) d.bind.to') (bitN d.bind.up) 1) d.bind.key) (Bk_ d.bind.want)) (bitN d.bind.all) 1).s:=by
      unfold Aq_
      first
        |(rw[if_neg (by assumption)];done)
        |(rw[if_pos (by assumption)];unfold Fi_;(repeat (first|rw[if_pos (by omega)]|rw[if_neg (by omega)]|rw[if_pos (by assumption)]|rw[if_neg (by assumption)]|rw[if_neg (not_not_intro (by assumption))]));first|done|rfl)
    rw[e]
    try (rw[show Ec_ d=0 by assumption])
  refine gx tv16 6 ?_;refine cn rfl (fun p59=>?_) fun p63=>?_
  · refine gx tv16 3 ?_;refine call (Mn_ _ _) rfl rfl fun w60=>?_;have :=F2_ (C_ (C_ (⟨[],0⟩:Out) d.kind 1) d.tick 8) (Dm_ d.mail);refine gm tv16 7 [] fun _=>?_;refine call (Cx_ _) rfl rfl fun w62=>?_;refine gx tv16 5 ?_;refine rt2 rfl rfl ?_;refine ple ?_;have e:Aq_ d=(By_ (C_ (C_ (⟨[],0⟩:Out) d.kind 1) d.tick 8) (Dm_ d.mail)).s:=by
      unfold Aq_
      first
        |(rw[if_neg (by assumption)];done)
        |(rw[if_pos (by assumption)];unfold Fi_;(repeat (first|rw[if_pos (by omega)]|rw[if_neg (by omega)]|rw[if_pos (by assumption)]|rw[if_neg (by assumption)]|rw[if_neg (not_not_intro (by assumption))]));first|done|rfl)
    rw[e]
    try (rw[show Ec_ d=0 by assumption])
  refine gx tv16 7 ?_;refine cnd rfl (fun h64=>?_) (fun h64=>?_)
  · have p65:=dt h64;refine gx tv16 2 ?_;refine cndT rfl h64 ?_;refine gx tv16 4 ?_;refine call (C9_ _ _) rfl rfl fun w66=>?_;have :=Al_ (C_ (C_ (⟨[],0⟩:Out) d.kind 1) d.tick 8) d.name;refine gm tv16 7 [] fun _=>?_;refine call (Cx_ _) rfl rfl fun w68=>?_;refine gx tv16 5 ?_;refine rt2 rfl rfl ?_;refine ple ?_;have e:Aq_ d=(E_ (C_ (C_ (⟨[],0⟩:Out) d.kind 1) d.tick 8) d.name).s:=by
      unfold Aq_
      first
        |(rw[if_neg (by assumption)];done)
        |(rw[if_pos (by assumption)];unfold Fi_;(repeat (first|rw[if_pos (by omega)]|rw[if_neg (by omega)]|rw[if_pos (by assumption)]|rw[if_neg (by assumption)]|rw[if_neg (not_not_intro (by assumption))]));first|done|rfl)
    rw[e]
    try (rw[show Ec_ d=0 by assumption])
  have p69:=df h64;refine gx tv16 6 ?_;refine cnd rfl (fun h70=>?_) (fun h70=>?_)
  · have p71:=dt h70;refine gx tv16 2 ?_;refine cndT rfl h70 ?_;refine gx tv16 4 ?_;refine call (C9_ _ _) rfl rfl fun w72=>?_;have :=Al_ (C_ (C_ (⟨[],0⟩:Out) d.kind 1) d.tick 8) d.name;refine gm tv16 7 [] fun _=>?_;refine call (Cx_ _) rfl rfl fun w74=>?_;refine gx tv16 5 ?_;refine rt2 rfl rfl ?_;refine ple ?_;have e:Aq_ d=(E_ (C_ (C_ (⟨[],0⟩:Out) d.kind 1) d.tick 8) d.name).s:=by
      unfold Aq_
      first
        |(rw[if_neg (by assumption)];done)
        |(rw[if_pos (by assumption)];unfold Fi_;(repeat (first|rw[if_pos (by omega)]|rw[if_neg (by omega)]|rw[if_pos (by assumption)]|rw[if_neg (by assumption)]|rw[if_neg (not_not_intro (by assumption))]));first|done|rfl)
    rw[e]
    try (rw[show Ec_ d=0 by assumption])
  have p75:=df h70;refine gx tv16 5 ?_;refine cn rfl (fun p77=>?_) fun p81=>?_
  · refine gx tv16 4 ?_;refine call (C9_ _ _) rfl rfl fun w78=>?_;have :=Al_ (C_ (C_ (⟨[],0⟩:Out) d.kind 1) d.tick 8) d.name;refine gm tv16 7 [] fun _=>?_;refine call (Cx_ _) rfl rfl fun w80=>?_;refine gx tv16 5 ?_;refine rt2 rfl rfl ?_;refine ple ?_;have e:Aq_ d=(E_ (C_ (C_ (⟨[],0⟩:Out) d.kind 1) d.tick 8) d.name).s:=by
      unfold Aq_
      first
        |(rw[if_neg (by assumption)];done)
        |(rw[if_pos (by assumption)];unfold Fi_;(repeat (first|rw[if_pos (by omega)]|rw[if_neg (by omega)]|rw[if_pos (by assumption)]|rw[if_neg (by assumption)]|rw[if_neg (not_not_intro (by assumption))]));first|done|rfl)
    rw[e]
    try (rw[show Ec_ d=0 by assumption])
  refine gx tv16 6 ?_;refine cn rfl (fun p83=>?_) fun p88=>?_
  · refine aN [2,3,4,5,6,7] 12 mixd ?_;refine gX tv16 [0,1,2] 9 ?_;refine vC 3 rfl (C9_ _ _) rfl fun w84=>?_;have :=Al_ (C_ (C_ (⟨[],0⟩:Out) d.kind 1) d.tick 8) d.name;refine gX tv16 [4,5] 6 ?_;refine vC 6 rfl (out_Num _ _ _ (by ((try have :=hrl (by assumption));first|omega|(simp[C_,By_,Bj_,numK]<;>omega)))) rfl fun w85=>?_;have :=Af_ (E_ (C_ (C_ (⟨[],0⟩:Out) d.kind 1) d.tick 8) d.name) d.id 8;refine gX tv16 [7,8,9] 2 ?_;refine vC 10 rfl (out_Num _ _ _ (by ((try have :=hrl (by assumption));first|omega|(simp[C_,By_,Bj_,numK]<;>omega)))) rfl fun w86=>?_;have :=Af_ (C_ (E_ (C_ (C_ (⟨[],0⟩:Out) d.kind 1) d.tick 8) d.name) d.id 8) d.how 1;refine vT 11 rfl (sA tv16 ?_);refine vD ?_;refine gx tv16 5 ?_;refine call (Cx_ _) rfl rfl fun w87=>?_;refine gx tv16 5 ?_;refine rt2 rfl rfl ?_;refine ple ?_;have e:Aq_ d=(C_ (C_ (E_ (C_ (C_ (⟨[],0⟩:Out) d.kind 1) d.tick 8) d.name) d.id 8) d.how 1).s:=by
      unfold Aq_
      first
        |(rw[if_neg (by assumption)];done)
        |(rw[if_pos (by assumption)];unfold Fi_;(repeat (first|rw[if_pos (by omega)]|rw[if_neg (by omega)]|rw[if_pos (by assumption)]|rw[if_neg (by assumption)]|rw[if_neg (not_not_intro (by assumption))]));first|done|rfl)
    rw[e]
    try (rw[show Ec_ d=0 by assumption])
  refine gx tv16 6 ?_;refine cn rfl (fun p90=>?_) fun p95=>?_
  · refine aN [2,3,4,5,6,7] 11 mixd ?_;refine gX tv16 [0,1,2,3] 7 ?_;refine vC 4 rfl (out_Num _ _ _ (by ((try have :=hrl (by assumption));first|omega|(simp[C_,By_,Bj_,numK]<;>omega)))) rfl fun w91=>?_;have :=Af_ (C_ (C_ (⟨[],0⟩:Out) d.kind 1) d.tick 8) d.frm 1;refine gX tv16 [5,6] 4 ?_;refine vC 7 rfl (out_Num _ _ _ (by ((try have :=hrl (by assumption));first|omega|(simp[C_,By_,Bj_,numK]<;>omega)))) rfl fun w92=>?_;have :=Af_ (C_ (C_ (C_ (⟨[],0⟩:Out) d.kind 1) d.tick 8) d.frm 1) d.number 8;refine gX tv16 [8] 2 ?_;refine vC 9 rfl (Mn_ _ _) rfl fun w93=>?_;have :=F2_ (C_ (C_ (C_ (C_ (⟨[],0⟩:Out) d.kind 1) d.tick 8) d.frm 1) d.number 8) (Dm_ d.mail);refine vT 10 rfl (sA tv16 ?_);refine vD ?_;refine gx tv16 5 ?_;refine call (Cx_ _) rfl rfl fun w94=>?_;refine gx tv16 5 ?_;refine rt2 rfl rfl ?_;refine ple ?_;have e:Aq_ d=(By_ (C_ (C_ (C_ (C_ (⟨[],0⟩:Out) d.kind 1) d.tick 8) d.frm 1) d.number 8) (Dm_ d.mail)).s:=by
      unfold Aq_
      first
        |(rw[if_neg (by assumption)];done)
        |(rw[if_pos (by assumption)];unfold Fi_;(repeat (first|rw[if_pos (by omega)]|rw[if_neg (by omega)]|rw[if_pos (by assumption)]|rw[if_neg (by assumption)]|rw[if_neg (not_not_intro (by assumption))]));first|done|rfl)
    rw[e]
    try (rw[show Ec_ d=0 by assumption])
  refine gx tv16 6 ?_;refine cn rfl (fun p97=>?_) fun p101=>?_
  · refine aN [2,3,4,5,6,7] 9 mixd ?_;refine gX tv16 [0,1,2,3] 5 ?_;refine vC 4 rfl (out_Num _ _ _ (by ((try have :=hrl (by assumption));first|omega|(simp[C_,By_,Bj_,numK]<;>omega)))) rfl fun w98=>?_;have :=Af_ (C_ (C_ (⟨[],0⟩:Out) d.kind 1) d.tick 8) d.code 1;refine gX tv16 [5,6] 2 ?_;refine vC 7 rfl (C9_ _ _) rfl fun w99=>?_;have :=Al_ (C_ (C_ (C_ (⟨[],0⟩:Out) d.kind 1) d.tick 8) d.code 1) d.text;refine vT 8 rfl (sA tv16 ?_);refine vD ?_;refine gx tv16 5 ?_;refine call (Cx_ _) rfl rfl fun w100=>?_;refine gx tv16 5 ?_;refine rt2 rfl rfl ?_;refine ple ?_;have e:Aq_ d=(E_ (C_ (C_ (C_ (⟨[],0⟩:Out) d.kind 1) d.tick 8) d.code 1) d.text).s:=by
      unfold Aq_
      first
        |(rw[if_neg (by assumption)];done)
        |(rw[if_pos (by assumption)];unfold Fi_;(repeat (first|rw[if_pos (by omega)]|rw[if_neg (by omega)]|rw[if_pos (by assumption)]|rw[if_neg (by assumption)]|rw[if_neg (not_not_intro (by assumption))]));first|done|rfl)
    rw[e]
    try (rw[show Ec_ d=0 by assumption])
  refine gx tv16 6 ?_;refine call (Cx_ _) rfl rfl fun w102=>?_;refine gx tv16 5 ?_;refine rt2 rfl rfl ?_;refine ple ?_;have e:Aq_ d=(C_ (C_ (⟨[],0⟩:Out) d.kind 1) d.tick 8).s:=by
    unfold Aq_
    first
      |(rw[if_neg (by assumption)];done)
      |(rw[if_pos (by assumption)];unfold Fi_;(repeat (first|rw[if_pos (by omega)]|rw[if_neg (by omega)]|rw[if_pos (by assumption)]|rw[if_neg (by assumption)]|rw[if_neg (not_not_intro (by assumption))]));first|done|rfl)
  rw[e]
  try (rw[show Ec_ d=0 by assumption])
def tbv18:Tb:=[(9,ty9),(244,Sd_)]
theorem tv18:tbB Tryz.prog tbv18=true:=by kernel_rfl
theorem r4_Name (s:Bs):Fn Tryz.prog gb 65 [.str s] (.int .i64 (D0_ s)):=by
  refine fC Tryz.func65 tv18 Tryz.ntmps65 fun w N H hG=>?_;refine gx tv18 13 ?_;refine cn rfl (fun p2=>?_) fun p3=>?_
  · refine gx tv18 7 ?_;refine rt1 rfl rfl (ple ?_);have :s=[]:=List.eq_nil_of_length_eq_zero (by omega);subst this
    rfl
  refine gx tv18 10 ?_;refine cn rfl (fun p5=>?_) fun p6=>?_
  · refine gx tv18 7 ?_;refine rt1 rfl rfl (ple ?_);have hne:¬s=[]:=fun q=>by subst q;simp at *
    unfold D0_
    rw[if_neg hne,if_pos (by omega)]
  refine gx tv18 9 ?_;refine loop (ι:=Nat) [0,4,5,6,7,8,9] [] (fun k=>[(3, .int .i64 (k:Int))]) (fun k=>[]) (fun k=>k<=s.length/\(s.drop k).all (fun c=>letter c.toNat)=plain s) (fun k=>s.length-k) 0 ⟨rfl,trivial⟩ trivial ?_ ?_
  · exact⟨by omega,rfl⟩
  rintro k hp7;obtain⟨hk1,hk2⟩:=hp7;refine gx tv18 9 ?_;refine cn rfl (fun p9=>?_) fun p15=>?_
  · have :=u8r (s.getD k 0);refine gx tv18 8 ?_;refine q1 (sidx tv18 k rfl rfl rfl rfl rfl (by omega)) rfl fun w10=>?_;refine call (r4_letter _) rfl rfl fun w11=>?_;refine gx tv18 3 ?_;refine cnd rfl (fun h12=>?_) (fun h12=>?_)
    · have h13:=Cp_ h12;refine gx tv18 11 ?_;refine rt1 rfl rfl (ple ?_);have hne:¬s=[]:=fun q=>by subst q;simp at *
      unfold D0_
      rw[if_neg hne,if_neg (by omega),<- hk2,Pz_ (k:=k) (by omega)]
      simp only[*,Bool.false_and,Bool.false_eq_true,if_false]
    have h14:=Co_ h12;refine gy tv18 8 ?_;refine next (k+1) rfl rfl ⟨rfl,trivial⟩ trivial ?_ ?_
    · omega
    refine⟨by omega,?_⟩
    rw[<- hk2,Pz_ (k:=k) (by omega)]
    simp only[*,Bool.true_and]
  refine gx tv18 11 ?_;refine rt1 rfl rfl (ple ?_);have hne:¬s=[]:=fun q=>by subst q;simp at *
  unfold D0_
  rw[if_neg hne,if_neg (by omega),<- hk2,List.drop_of_length_le (by omega)]
  rfl
abbrev ty136:TI:=⟨.agg [(0,1),(1,1),(2,1),(3,1),(4,1),(5,1)],6,88,[.str [], .str [], .bool false, .str [], .sl Pair.pc [], .bool false]⟩
abbrev ty138:TI:=⟨.agg [(0,1),(1,1),(2,3),(5,4),(9,6),(15,1),(16,1),(17,1),(18,1),(19,1),(20,1),(21,7),(28,1)],29,344,[.int .u8 0, .int .u64 0, .str [], .int .u8 0, .str [], .str [], .int .u64 0, .int .u64 0, .str [], .str [], .str [], .bool false, .str [], .sl Pair.pc [], .bool false, .str [], .int .u64 0, .int .u8 0, .int .u8 0, .int .u8 0, .int .u64 0, .int .u64 0, .str [], .str [], .sl Pair.pc [], .str [], .int .u64 0, .int .u8 0, .str []]⟩
def tbv20:Tb:=[(5,ty5),(9,ty9),(36,ty36),(58,ty58),(60,ty60),(61,ty61),(63,ty63),(65,ty65),(67,ty67),(136,ty136),(138,ty138),(242,ty242)]
theorem tv20:tbB Tryz.prog tbv20=true:=by kernel_rfl
theorem Tf_ (h:List Pair):Fn Tryz.prog gb 64 [.sl Pair.pc h] (.bool (Ls_ h)):=by
  refine fC Tryz.func64 tv20 Tryz.ntmps64 fun w N H hG=>?_;refine gx tv20 13 ?_;refine cn rfl (fun p2=>?_) fun p3=>?_
  · refine gx tv20 7 ?_;refine rt1 rfl rfl (ple ?_);exact congrArg PV.bool (by simp[Ls_];omega)
  refine gx tv20 11 ?_;refine loop (ι:=Nat) [0,5,6,7,8,9] [] (fun k=>[(10, .int .i64 (k:Int))]) (fun k=>[]) (fun k=>k<=h.length/\h.all Tt_=(h.drop k).all Tt_) (fun k=>h.length-k) 0 ⟨rfl,trivial⟩ trivial ?_ ?_
  · exact⟨Nat.zero_le _,rfl⟩
  rintro k hp4;obtain⟨hk1,hk2⟩:=hp4;refine gx tv20 6 ?_;refine cn rfl (fun p6=>?_) fun p17=>?_
  · obtain⟨c7,hc8⟩:=getE (xs:=h) (m:=k) (by omega);have c7_w:=Pair.pwf (w.1.2 c7 (List.mem_of_getElem? hc8));refine gx tv20 6 ?_;refine q1 (qidx tv20 k rfl rfl rfl hc8 rfl rfl rfl rfl) rfl fun w9=>?_;refine gmy tv20 19 [0] fun B11=>?_;refine cnd rfl (fun h12=>?_) (fun h12=>?_)
    · refine gx tv20 11 ?_;refine rt1 rfl rfl (ple ?_);exact congrArg PV.bool (by unfold Ls_;rw[all_miss hk2 (Cj_ hc8) (by simp[Tt_];first|omega|grind)];simp)
    have h13:=orl h12;have p14:=df h13;have h15:=orr h12;have p16:=df h15;refine gy tv20 7 ?_;refine next (k+1) rfl rfl ⟨rfl,trivial⟩ trivial ?_ ?_
    · omega
    exact⟨by omega,all_step hk2 (Cj_ hc8) (by simp[Tt_];omega)⟩
  refine gx tv20 11 ?_;refine rt1 rfl rfl (ple ?_);exact congrArg PV.bool (by unfold Ls_;rw[all_end hk2 (by omega)];simp;omega)
theorem l13_Light (m:Mail):Fn Tryz.prog gb 23 [.agg (Mail.pc m)] (.bool (Mf_ m)):=by
  refine fC Tryz.func23 tv20 Tryz.ntmps23 fun w N H hG=>?_;have m_w:=Mail.pwf w.1;have m_w':=m_w
  simp only[Mail.wf] at m_w'
  have m_head_k:=Mail.kd3 w.1;have m_head_k2:m.head.length<=140737488355328:=w.1.2.2.2.1.1;refine gmy tv20 21 [0] fun B2=>?_;refine callg rfl (fun hc=>(Tf_ _)) rfl ⟨(fun hc=>hc),trivial⟩ rfl rfl fun _=>?_;refine gy tv20 11 ?_;refine rt1 rfl rfl (ple ?_);refine congrArg PV.bool ?_
  unfold Mf_
  first|(simp only[*,Bool.and_true,Bool.true_and,Bool.false_and,Bool.and_false,decide_true,decide_false];done)|(rw[Bool.eq_iff_iff];simp[and_assoc];done)|(rw[Bool.eq_iff_iff];simp;grind)
theorem l22_Light (d:DeedR):Fn Tryz.prog gb 47 [.agg (DeedR.pc d)] (.bool (Lr_ d)):=by
  refine fC Tryz.func47 tv20 Tryz.ntmps47 fun w N H hG=>?_;have d_w:=DeedR.pwf w.1;have d_w':=d_w
  simp only[DeedR.wf,ShopR.wf,QueueR.wf,BindR.wf,Mail.wf] at d_w'
  have d_bind_want_k:=DeedR.kd13 w.1;have d_bind_want_k2:d.bind.want.length<=140737488355328:=w.1.2.2.2.2.2.2.2.2.2.2.2.2.2.1.1;have d_mail_head_k:=DeedR.kd24 w.1;have d_mail_head_k2:d.mail.head.length<=140737488355328:=w.1.2.2.2.2.2.2.2.2.2.2.2.2.2.2.2.2.2.2.2.2.2.2.2.2.1.1;refine gm tv20 35 [0] fun B2=>?_;refine q1 (qmaxN (z:=(d.shop.name.length:Int)) (r:=(max (max (max (max (max (max (d.shop.name.length:Int) (d.shop.to'.length:Int)) (d.queue.name.length:Int)) (d.queue.dead.length:Int)) (d.bind.shop.length:Int)) (d.bind.to'.length:Int)) (d.name.length:Int))) [(d.shop.to'.length:Int),(d.queue.name.length:Int),(d.queue.dead.length:Int),(d.bind.shop.length:Int),(d.bind.to'.length:Int),(d.name.length:Int)] rfl rfl (W8_ (by omega))) rfl fun w3=>?_;refine gy tv20 22 ?_;refine callg rfl (fun hc=>(Tf_ _)) rfl ⟨(fun hc=>hc),trivial⟩ rfl rfl fun _=>?_;refine gy tv20 4 ?_;refine callg rfl (fun hc=>(l13_Light _)) rfl ⟨(fun hc=>hc),trivial⟩ rfl rfl fun _=>?_;refine gy tv20 5 ?_;refine rt1 rfl rfl (ple ?_);refine congrArg PV.bool ?_
  unfold Lr_
  first|(simp only[*,Bool.and_true,Bool.true_and,Bool.false_and,Bool.and_false,decide_true,decide_false];done)|(rw[Bool.eq_iff_iff];simp[and_assoc];done)|(rw[Bool.eq_iff_iff];simp;grind)
abbrev ty338:TI:=⟨.agg [(0,1),(1,1),(2,1),(3,1)],4,56,[.int .u8 0, .str [], .sl Pair.pc [], .bool false]⟩
def tbv22:Tb:=[(4,ty4),(5,ty5),(9,ty9),(61,ty61),(242,ty242),(338,ty338)]
theorem tv22:tbB Tryz.prog tbv22=true:=by kernel_rfl
theorem P8_ (r:Rule):Fn Tryz.prog gb 224 [.agg (Rule.pc r)] (.int .i64 (Rx_ r)):=by
  refine fC Tryz.func224 tv22 Tryz.ntmps224 fun w N H hG=>?_;have r_w:=Rule.pwf w.1;have r_w':=r_w
  simp only[Rule.wf] at r_w'
  have r_want_k:=Rule.kd2 w.1;have r_want_k2:r.want.length<=140737488355328:=w.1.2.2.1.1;refine gm tv22 21 [0] fun B2=>?_;refine cn rfl (fun p4=>?_) fun p5=>?_
  · refine gx tv22 8 ?_;refine rt1 rfl rfl (ple ?_);refine congrArg (PV.int .i64) ?_
    (try simp only[bl1] at *)
    unfold Rx_
    repeat (first|rw[if_pos (by omega)]|rw[if_neg (by omega)])
    all_goals first|done|rfl|omega
  refine gx tv22 8 ?_;refine cn rfl (fun p7=>?_) fun p15=>?_
  · refine gx tv22 3 ?_;refine call (Um_ _) rfl rfl fun w8=>?_;refine gx tv22 11 ?_;refine cnd rfl (fun h9=>?_) (fun h9=>?_)
    · have h10:=Cp_ h9;have p11:=df h10;refine gx tv22 8 ?_;refine rt1 rfl rfl (ple ?_);refine congrArg (PV.int .i64) ?_
      (try simp only[bl1] at *)
      unfold Rx_
      repeat (first|rw[if_pos (by omega)]|rw[if_neg (by omega)])
      all_goals first|done|rfl|omega
    have h12:=Co_ h9;have p13:=dt h12;refine gx tv22 6 ?_;refine call (Hi_ _) rfl rfl fun w14=>?_;refine gx tv22 4 ?_;refine rt1 rfl rfl (ple ?_);refine congrArg (PV.int .i64) ?_
    (try simp only[bl1] at *)
    unfold Rx_
    repeat (first|rw[if_pos (by omega)]|rw[if_neg (by omega)])
    all_goals first|done|rfl|omega
  refine gx tv22 3 ?_;refine call (Sf_ _) rfl rfl fun w16=>?_;refine gx tv22 11 ?_;refine cnd rfl (fun h17=>?_) (fun h17=>?_)
  · have h18:=Cp_ h17;have p19:=df h18;refine gx tv22 8 ?_;refine rt1 rfl rfl (ple ?_);refine congrArg (PV.int .i64) ?_
    (try simp only[bl1] at *)
    unfold Rx_
    repeat (first|rw[if_pos (by omega)]|rw[if_neg (by omega)])
    all_goals first|done|rfl|omega
  have h20:=Co_ h17;have p21:=dt h20;refine gx tv22 6 ?_;refine call (Hi_ _) rfl rfl fun w22=>?_;refine gx tv22 4 ?_;refine rt1 rfl rfl (ple ?_);refine congrArg (PV.int .i64) ?_
  (try simp only[bl1] at *)
  unfold Rx_
  repeat (first|rw[if_pos (by omega)]|rw[if_neg (by omega)])
  all_goals first|done|rfl|omega
theorem Yc_ (r:Rule) (h:List Pair):Fn Tryz.prog gb 320 [.agg (Rule.pc r), .sl Pair.pc h] (.bool (Ij_ r.all h r.want)):=by
  refine fC Tryz.func320 tv22 Tryz.ntmps320 fun w N H hG=>?_;have r_want_l:r.want.length<=140737488355328:=w.1.2.2.1.1;have h_l:h.length<=140737488355328:=w.2.1.1;refine gm tv22 20 [0] fun B2=>?_;refine loop (ι:=Nat) [0,1,2,10,11,12] [0] (fun k=>[(13, .int .i64 (k:Int))]) (fun k=>[]) (fun k=>k<=r.want.length/\Ij_ r.all h r.want=Ij_ r.all h (r.want.drop k)) (fun k=>r.want.length-k) 0 ⟨rfl,trivial⟩ trivial ?_ ?_
  · exact⟨Nat.zero_le _,rfl⟩
  rintro k hp3;obtain⟨hk1,hk2⟩:=hp3;refine gx tv22 6 ?_;refine cn rfl (fun p5=>?_) fun p25=>?_
  · obtain⟨c6,hc7⟩:=getE (xs:=r.want) (m:=k) (by omega);have c6_w:=Pair.pwf (w.1.2.2.1.2 c6 (List.mem_of_getElem? hc7));refine gx tv22 6 ?_;refine q1 (qidx tv22 k rfl rfl rfl hc7 rfl rfl rfl rfl) rfl fun w8=>?_;refine gm tv22 10 [1] fun B10=>?_;refine call (S0_ _ _) rfl rfl fun w11=>?_;refine gm tv22 14 [2] fun B13=>?_;refine q1g [26,27] rfl (fun hc=>saeq rfl rfl eqg242 (veq242 ((Pf_ h c6.key).getD Pair.zero) c6)) ⟨(fun hc=>hc),(fun hc=>hc),trivial⟩ rfl rfl rfl fun _=>?_;refine gy tv22 15 ?_;refine cnd rfl (fun h14=>?_) (fun h14=>?_)
    · have h15:=bl h14;have h16:=bl h15;have h17:=br h15;have p18:=dt h17;have h19:=br h14;refine gy tv22 8 ?_;refine next (k+1) rfl rfl ⟨rfl,trivial⟩ trivial ?_ ?_
      · omega
      refine⟨by omega,?_⟩
      rw[hk2,Cj_ hc7]
      simp only[Ij_]
      first|(simp only[hasP];simp[*];done)|(unfold hasP;simp_all;done)|(unfold hasP;grind)
    refine gx tv22 6 ?_;refine cnd rfl (fun h20=>?_) (fun h20=>?_)
    · have h21:=bl h20;have h22:=br h20;have p23:=dt h22;refine gx tv22 13 ?_;refine rt1 rfl rfl (ple ?_);refine congrArg PV.bool ?_
      rw[hk2,Cj_ hc7]
      simp only[Ij_]
      first|(simp only[hasP];simp[*];done)|(unfold hasP;simp_all;done)|(unfold hasP;grind)
    refine gx tv22 7 ?_;refine cnd rfl (fun h24=>?_) (fun h24=>?_)
    · refine gx tv22 13 ?_;refine rt1 rfl rfl (ple ?_);refine congrArg PV.bool ?_
      rw[hk2,Cj_ hc7]
      simp only[Ij_]
      first|(simp only[hasP];simp[*];done)|(unfold hasP;simp_all;done)|(unfold hasP;grind)
    refine gy tv22 8 ?_;refine next (k+1) rfl rfl ⟨rfl,trivial⟩ trivial ?_ ?_
    · omega
    refine⟨by omega,?_⟩
    rw[hk2,Cj_ hc7]
    simp only[Ij_]
    first|(simp only[hasP];simp[*];done)|(unfold hasP;simp_all;done)|(unfold hasP;grind)
  refine gx tv22 14 ?_;refine rt1 rfl rfl (ple ?_);refine congrArg PV.bool ?_
  rw[hk2,List.drop_of_length_le (by omega)]
  rfl
theorem O4_ (r:Rule) (key:Bs) (h:List Pair) (hrk:r.key.length<4294967281:=by first|omega|(simp;done)|decide) (hk:key.length<4294967281:=by first|omega|(simp;done)|decide):Fn Tryz.prog gb 269 [.agg (Rule.pc r), .str key, .sl Pair.pc h] (.bool (Md_ r key h)):=by
  refine fC Tryz.func269 tv22 Tryz.ntmps269 fun w N H hG=>?_;refine gm tv22 20 [0] fun B2=>?_;refine cn rfl (fun p4=>?_) fun p5=>?_
  · refine gx tv22 12 ?_;refine rt1 rfl rfl (ple ?_);refine congrArg PV.bool ?_
    first|(simp[Md_, *];done)|(simp[Md_, *];omega)
  refine gx tv22 6 ?_;refine cn rfl (fun p7=>?_) fun p9=>?_
  · refine gx tv22 5 ?_;refine call (Hh_ _ _) rfl rfl fun w8=>?_;refine gx tv22 6 ?_;refine rt1 rfl rfl (ple ?_);refine congrArg PV.bool ?_
    first|(simp[Md_, *];done)|(simp[Md_, *];omega)
  refine gx tv22 6 ?_;refine cn rfl (fun p11=>?_) fun p13=>?_
  · refine gx tv22 4 ?_;refine call (Yc_ _ _) rfl rfl fun w12=>?_;refine gx tv22 6 ?_;refine rt1 rfl rfl (ple ?_);refine congrArg PV.bool ?_
    first|(simp[Md_, *];done)|(simp[Md_, *];omega)
  refine gx tv22 9 ?_;refine rt1 rfl rfl (ple ?_);refine congrArg PV.bool ?_
  first|(simp[Md_, *];done)|(simp[Md_, *];omega)
theorem X1_ (a:Rule) (b:Rule):Fn Tryz.prog gb 226 [.agg (Rule.pc a), .agg (Rule.pc b)] (.bool (decide (a=b))):=by
  refine fC Tryz.func226 tv22 Tryz.ntmps226 fun w N H hG=>?_;refine gmy tv22 33 [0,1] fun B2=>?_;refine callg rfl (fun hc=>(Za_ _ _)) rfl ⟨(fun hc=>hc),(fun hc=>hc),trivial⟩ rfl rfl fun _=>?_;refine gy tv22 5 ?_;refine rt1 rfl rfl (ple ?_);exact congrArg PV.bool (by rw[Bool.eq_iff_iff];first|(simp[Rule.eq_iff,and_assoc];done)|(simp[Rule.eq_iff];grind))
abbrev ty32:TI:=⟨.slc 58,1,24,[.sl ShopR.pc []]⟩
abbrev ty35:TI:=⟨.agg [(0,1),(1,1)],2,48,[.sl ShopR.pc [], .sl BindR.pc []]⟩
def tbv23:Tb:=[(5,ty5),(9,ty9),(32,ty32),(35,ty35),(58,ty58),(244,Sd_)]
theorem tv23:tbB Tryz.prog tbv23=true:=by kernel_rfl
theorem eq_Str (a:List Bs) (b:List Bs):Fn Tryz.prog gb 314 [.sl strc a, .sl strc b] (.bool (decide (a=b))):=by
  refine fC Tryz.func314 tv23 Tryz.ntmps314 fun w N H hG=>?_;have a_l:a.length<=140737488355328:=w.1.1;have b_l:b.length<=140737488355328:=w.2.1.1;refine gx tv23 15 ?_;refine cnd rfl (fun h1=>?_) (fun h1=>?_)
  · have h2:=Cp_ h1;have p3:=df h2;refine gx tv23 7 ?_;refine rt1 rfl rfl (ple ?_);exact congrArg PV.bool (Qq_ (by assumption)).symm
  have h4:=Co_ h1;have p5:=dt h4;refine gx tv23 11 ?_;refine loop (ι:=Nat) [0,1,6,7,8,9,10,11,12] [] (fun k=>[(13, .int .i64 (k:Int))]) (fun k=>[]) (fun k=>k<=a.length /\ decide (a=b) = decide (a.drop k=b.drop k)) (fun k=>a.length-k) 0 ⟨rfl,trivial⟩ trivial ?_ ?_
  · exact⟨Nat.zero_le _,rfl⟩
  rintro k hp6;obtain⟨hk1,hk2⟩:=hp6;refine gx tv23 6 ?_;refine cnd rfl (fun h7=>?_) (fun h7=>?_)
  · have p8:=dt h7;refine gx tv23 11 ?_;refine aN [0,1,2,3,4,5] 9 mixd ?_;refine gX tv23 [0,1] 7 ?_;obtain⟨c9,hc10⟩:=getE (xs:=a) (m:=k) (by omega);have c9_l:c9.length<=9223372036854775807:=(w.1.2 c9 (List.mem_of_getElem? hc10)).1;refine vq 2 (qidx tv23 k rfl rfl rfl hc10 rfl rfl rfl rfl) rfl (by kernel_rfl) rfl fun w11=>?_;refine gX tv23 [3,4,5] 3 ?_;obtain⟨c12,hc13⟩:=getE (xs:=b) (m:=k) (by omega);have c12_l:c12.length<=9223372036854775807:=(w.2.1.2 c12 (List.mem_of_getElem? hc13)).1;refine vq 6 (qidx tv23 k rfl rfl rfl hc13 rfl rfl rfl rfl) rfl (by kernel_rfl) rfl fun w14=>?_;refine gX tv23 [7,8] 0 ?_;refine vD ?_;refine gx tv23 1 ?_;refine cnd rfl (fun h15=>?_) (fun h15=>?_)
    · have h16:=Cp_ h15;have p17:=df h16;refine gx tv23 11 ?_;refine rt1 rfl rfl (ple ?_);exact congrArg PV.bool (Nd_ hk2 (Cj_ hc10) (Cj_ hc13) (by assumption)).symm
    have h18:=Co_ h15;have p19:=dt h18;refine gy tv23 7 ?_;refine next (k+1) rfl rfl ⟨rfl,trivial⟩ trivial ?_ ?_
    · omega
    exact⟨by omega,Ne_ hk2 (Cj_ hc10) (Cj_ hc13) (by assumption)⟩
  have p20:=df h7;refine gx tv23 11 ?_;refine rt1 rfl rfl (ple ?_);exact congrArg PV.bool (Qp_ hk2 (by omega) (by omega)).symm
theorem Zy_ (l:List Bs) (x:Bs):Fn Tryz.prog gb 347 [.sl strc l, .str x] (.int .i64 (idxP (fun y=>decide (x=y)) l)):=by
  refine fC Tryz.func347 tv23 Tryz.ntmps347 fun w N H hG=>?_;have l_l:l.length<=140737488355328:=w.1.1;have x_l:x.length<=9223372036854775807:=w.2.1;refine gx tv23 14 ?_;refine loop (ι:=Nat) [0,1,6,7] [] (fun k=>[(8, .int .i64 (k:Int))]) (fun k=>[]) (fun k=>k<=l.length/\idxP (fun y=>decide (x=y)) l=idxF (fun y=>decide (x=y)) k (l.drop k)) (fun k=>l.length-k) 0 ⟨rfl,trivial⟩ trivial ?_ ?_
  · exact⟨Nat.zero_le _,rfl⟩
  rintro k hp1;obtain⟨hik1,hik2⟩:=hp1;refine gx tv23 6 ?_;refine cnd rfl (fun h2=>?_) (fun h2=>?_)
  · have p3:=dt h2;obtain⟨c4,hc5⟩:=getE (xs:=l) (m:=k) (by omega);have c4_l:c4.length<=9223372036854775807:=(w.1.2 c4 (List.mem_of_getElem? hc5)).1;refine gx tv23 15 ?_;refine q1 (qidx tv23 k rfl rfl rfl hc5 rfl rfl rfl rfl) rfl fun w6=>?_;refine gx tv23 4 ?_;refine cnd rfl (fun h7=>?_) (fun h7=>?_)
    · have p8:=dt h7;refine gx tv23 12 ?_;refine rt1 rfl rfl (ple ?_);exact congrArg (PV.int .i64) (I3_ hik2 (Cj_ hc5) (by first|assumption|(simp[*];done))).symm
    have p9:=df h7;refine gy tv23 7 ?_;refine next (k+1) rfl rfl ⟨rfl,trivial⟩ trivial ?_ ?_
    · omega
    exact⟨by omega,Hd_ hik2 (Cj_ hc5) (by assumption)⟩
  have p10:=df h2;refine gx tv23 11 ?_;refine rt1 rfl rfl (ple ?_);exact congrArg (PV.int .i64) (I2_ hik2 (by omega)).symm
theorem Sm_ (l:List Bs) (x:Bs):Fn Tryz.prog gb 321 [.sl strc l, .str x] (.bool (decide (x∈l))):=by
  refine fC Tryz.func321 tv23 Tryz.ntmps321 fun w N H hG=>?_;refine gx tv23 9 ?_;refine call (Zy_ _ _) rfl rfl fun w1=>?_;have :=idxP_r (fun y=>decide (x=y)) l;refine gx tv23 5 ?_;refine rt1 rfl rfl (ple ?_);refine congrArg PV.bool ?_
  rw[Bool.eq_iff_iff,decide_eq_true_eq,decide_eq_true_eq,idxP_any]
  simp
theorem Ye_ (x:ShopR):Fn Tryz.prog gb 216 [.agg (ShopR.pc x)] (.int .i64 (O5_ x)):=by
  refine fC Tryz.func216 tv23 Tryz.ntmps216 fun w N H hG=>?_;refine gm tv23 11 [0] fun B2=>?_;refine call (Cn_ _) rfl rfl fun w3=>?_;refine gx tv23 9 ?_;refine cnd rfl (fun h4=>?_) (fun h4=>?_)
  · have h5:=Cp_ h4;have p6:=df h5;refine gx tv23 8 ?_;refine rt1 rfl rfl (ple ?_);refine congrArg (PV.int .i64) ?_
    simp only[bl1] at *
    unfold O5_
    (repeat' split)<;>first|rfl|(exfalso;omega)|(exfalso;simp_all;done)|(exfalso;simp_all;omega)|grind
  have h7:=Co_ h4;have p8:=dt h7;refine gx tv23 12 ?_;refine cnd rfl (fun h9=>?_) (fun h9=>?_)
  · have p10:=dt h9;refine gx tv23 8 ?_;refine rt1 rfl rfl (ple ?_);refine congrArg (PV.int .i64) ?_
    simp only[bl1] at *
    unfold O5_
    (repeat' split)<;>first|rfl|(exfalso;omega)|(exfalso;simp_all;done)|(exfalso;simp_all;omega)|grind
  have p11:=df h9;refine gx tv23 8 ?_;refine cnd rfl (fun h12=>?_) (fun h12=>?_)
  · have p13:=dt h12;refine gx tv23 4 ?_;refine call (Cn_ _) rfl rfl fun w14=>?_;refine gx tv23 6 ?_;refine rt1 rfl rfl (ple ?_);refine congrArg (PV.int .i64) ?_
    simp only[bl1] at *
    unfold O5_
    (repeat' split)<;>first|rfl|(exfalso;omega)|(exfalso;simp_all;done)|(exfalso;simp_all;omega)|grind
  have p15:=df h12;refine gx tv23 8 ?_;refine cnd rfl (fun h16=>?_) (fun h16=>?_)
  · have h17:=Cp_ h16;have p18:=df h17;refine gx tv23 8 ?_;refine rt1 rfl rfl (ple ?_);refine congrArg (PV.int .i64) ?_
    simp only[bl1] at *
    unfold O5_
    (repeat' split)<;>first|rfl|(exfalso;omega)|(exfalso;simp_all;done)|(exfalso;simp_all;omega)|grind
  have h19:=Co_ h16;have p20:=dt h19;refine gx tv23 9 ?_;refine rt1 rfl rfl (ple ?_);refine congrArg (PV.int .i64) ?_
  simp only[bl1] at *
  unfold O5_
  (repeat' split)<;>first|rfl|(exfalso;omega)|(exfalso;simp_all;done)|(exfalso;simp_all;omega)|grind
theorem Lj_ (b:BookR) (name:Bs):Fn Tryz.prog gb 201 [.agg (BookR.pc b), .str name] (.tup [.agg (ShopR.pc ((Ej_ b.shops name).getD ShopR.zero)), .bool ((Ej_ b.shops name).isSome)]):=by
  refine fC Tryz.func201 tv23 Tryz.ntmps201 fun w N H hG=>?_;have b_shops_l:b.shops.length<=140737488355328:=w.1.1.1;have b_binds_l:b.binds.length<=140737488355328:=w.1.2.1.1;have name_l:name.length<=9223372036854775807:=w.2.1;refine gm tv23 17 [0,1] fun B2=>?_;refine loop (ι:=Nat) [0,1,2,4,8,9,10] [0,1] (fun k=>[(11, .int .i64 (k:Int))]) (fun k=>[]) (fun k=>k<=b.shops.length/\Ej_ b.shops name=Ej_ (b.shops.drop k) name) (fun k=>b.shops.length-k) 0 ⟨rfl,trivial⟩ trivial ?_ ?_
  · exact⟨Nat.zero_le _,rfl⟩
  rintro k hp4;obtain⟨hk1,hk2⟩:=hp4;refine gx tv23 6 ?_;refine cnd rfl (fun h5=>?_) (fun h5=>?_)
  · have p6:=dt h5;obtain⟨c7,hc8⟩:=getE (xs:=b.shops) (m:=k) (by omega);have c7_w:=ShopR.pwf (w.1.1.2 c7 (List.mem_of_getElem? hc8));refine gx tv23 6 ?_;refine q1 (qidx tv23 k rfl rfl rfl hc8 rfl rfl rfl rfl) rfl fun w9=>?_;refine gm tv23 13 [2] fun B11=>?_;refine cnd rfl (fun h12=>?_) (fun h12=>?_)
    · have p13:=dt h12;refine gm tv23 13 [] fun _=>?_;refine rt2 rfl rfl ?_;refine ple ?_;have e:=Yd_ hk2 (Cj_ hc8) (by assumption)
      rw[e]
      rfl
    have p15:=df h12;refine gy tv23 7 ?_;refine next (k+1) rfl rfl ⟨rfl,trivial⟩ trivial ?_ ?_
    · (try simp only[]);omega
    exact⟨by omega,Vr_ hk2 (Cj_ hc8) (by assumption)⟩
  have p16:=df h5;refine gm tv23 13 [] fun _=>?_;refine rt2 rfl rfl ?_;refine ple ?_
  rw[List.drop_of_length_le (by omega)] at hk2
  rw[hk2]
  rfl
abbrev ty33:TI:=⟨.slc 63,1,24,[.sl BindR.pc []]⟩
def tbv24:Tb:=[(4,ty4),(9,ty9),(33,ty33),(61,ty61),(63,ty63),(242,ty242),(338,ty338)]
theorem tv24:tbB Tryz.prog tbv24=true:=by kernel_rfl
theorem Li_ (x:BindR) (sort:Int):Fn Tryz.prog gb 223 [.agg (BindR.pc x), .int .u8 sort] (.agg (Rule.pc (H4_ x sort))):=by
  refine fC Tryz.func223 tv24 Tryz.ntmps223 fun w N H hG=>?_;refine gm tv24 20 [0,1] fun B2=>?_;refine rt1 rfl rfl (ple ?_)
  rfl
theorem Si_ (x:BindR) (y:BindR):Fn Tryz.prog gb 141 [.agg (BindR.pc x), .agg (BindR.pc y)] (.bool (decide (x=y))):=by
  refine fC Tryz.func141 tv24 Tryz.ntmps141 fun w N H hG=>?_;refine gm tv24 8 [0,1] fun B2=>?_;refine aN [2,3,4,5,6,7] 27 mixd ?_;refine gXy tv24 [0,1,2,3,4,5,6,7,8,9,10,11,12,13,14,15,16,17,18,19,20,22] 5 ?_;refine vE 21 rfl (ecallg rfl (fun hc=>(Li_ _ _)) rfl ⟨(fun hc=>hc),trivial⟩ rfl rfl fun _=>?_);refine vE 23 rfl (ecallg rfl (fun hc=>(Li_ _ _)) rfl ⟨(fun hc=>hc),trivial⟩ rfl rfl fun _=>?_);refine vcallg 24 rfl (by kernel_rfl) rfl (fun hc=>(X1_ _ _)) rfl rfl ⟨(fun hc=>hc),(fun hc=>hc),trivial⟩ rfl fun _=>?_;refine gXy tv24 [25,26] 0 ?_;refine vD ?_;refine gx tv24 2 ?_;refine rt1 rfl rfl (ple ?_);exact congrArg PV.bool (by rw[Bool.eq_iff_iff];first|(simp[BindR.eq_iff,H4_,and_assoc];done)|(simp[BindR.eq_iff,H4_];grind))
theorem Pr_ (s:List Pair) (hl:s.length<=1000000:=by first|omega|(simp;done)|(simp;omega)):Fn Tryz.prog gb 205 [.sl Pair.pc s] (.sl Pair.pc s):=by
  refine fC Tryz.func205 tv24 Tryz.ntmps205 fun w N H hG=>?_;refine gx tv24 9 ?_;refine ef (lnil tv24 rfl rfl rfl rfl rfl fun b1 hb2=>?_);refine gx tv24 2 ?_;refine cnd rfl (fun h3=>?_) (fun h3=>?_)
  · refine gx tv24 7 ?_;refine rt1 rfl rfl ?_;refine L3_ ?_;exact hb2 (by assumption)
  refine gx tv24 4 ?_;refine ef (bsl 0 Pair.pc [] tv24 rfl rfl rfl rfl rfl (fun _=>rfl) rfl (by decide) (by decide) rfl fun u4=>?_);refine gx tv24 1 ?_;refine ef (app tv24 s rfl rfl rfl rfl rfl rfl rfl rfl rfl (src_l rfl (fun _=>rfl)) (by first|omega|(simp;omega)) rfl fun u5=>?_);refine gx tv24 3 ?_;refine givec 0 rfl ?_;refine gx tv24 1 ?_;refine rt1 rfl rfl (ple ?_)
  simp
theorem Xn_ (x:BindR) (hl:x.want.length<=1000000:=by first|omega|(simp;done)|decide):Fn Tryz.prog gb 225 [.agg (BindR.pc x)] (.agg (BindR.pc x)):=by
  refine fC Tryz.func225 tv24 Tryz.ntmps225 fun w N H hG=>?_;refine gm tv24 10 [0,1] fun B2=>?_;refine call (Pr_ _) rfl rfl fun w4=>?_;refine gm tv24 11 [] fun _=>?_;refine rt1 rfl rfl (ple ?_)
  rfl
theorem Zu_ (s:List BindR) (f:FuncId) (f_fst f_cap:List PV) (f_p:BindR->Bool) (f_h:∀ x,Fn Tryz.prog gb f (argsP.apL f_fst ((.agg (BindR.pc x))::f_cap)) (.bool (f_p x))):Fn Tryz.prog gb 283 [.sl BindR.pc s, .fn f f_fst f_cap] (.int .i64 (idxP f_p s)):=by
  refine fC Tryz.func283 tv24 Tryz.ntmps283 fun w N H hG=>?_;have s_l:s.length<=140737488355328:=w.1.1;refine gx tv24 14 ?_;refine loop (ι:=Nat) [0,1,6,7] [] (fun k=>[(8, .int .i64 (k:Int))]) (fun k=>[]) (fun k=>k<=s.length/\idxP f_p s=idxF f_p k (s.drop k)) (fun k=>s.length-k) 0 ⟨rfl,trivial⟩ trivial ?_ ?_
  · exact⟨Nat.zero_le _,rfl⟩
  rintro k hp1;obtain⟨hk1,hk2⟩:=hp1;refine gx tv24 6 ?_;refine cnd rfl (fun h2=>?_) (fun h2=>?_)
  · have p3:=dt h2;obtain⟨c4,hc5⟩:=getE (xs:=s) (m:=k) (by omega);have c4_w:=BindR.pwf (w.1.2 c4 (List.mem_of_getElem? hc5));refine gx tv24 15 ?_;refine q1 (qidx tv24 k rfl rfl rfl hc5 rfl rfl rfl rfl) rfl fun w6=>?_;refine gx tv24 1 ?_;refine call (f_h c4) rfl rfl fun w7=>?_;refine gx tv24 2 ?_;refine cnd rfl (fun h8=>?_) (fun h8=>?_)
    · refine gx tv24 12 ?_;refine rt1 rfl rfl (ple ?_);exact congrArg (PV.int .i64) (I3_ hk2 (Cj_ hc5) (by assumption)).symm
    refine gy tv24 7 ?_;refine next (k+1) rfl rfl ⟨rfl,trivial⟩ trivial ?_ ?_
    · omega
    exact⟨by omega,Hd_ hk2 (Cj_ hc5) (by assumption)⟩
  have p9:=df h2;refine gx tv24 11 ?_;refine rt1 rfl rfl (ple ?_);exact congrArg (PV.int .i64) (I2_ hk2 (by omega)).symm
def tbv25:Tb:=[(9,ty9),(65,ty65),(338,ty338),(371,ty371)]
theorem tv25:tbB Tryz.prog tbv25=true:=by kernel_rfl
theorem Z4_:Fn Tryz.prog gb 264 [] (.bool true):=by
  refine fC Tryz.func264 tv25 Tryz.ntmps264 fun w N H hG=>?_;refine gx tv25 8 ?_;refine call (out_Num (⟨[],0⟩:Out) _ _ (by ((try have :=hrl (by assumption));first|omega|(simp[C_,By_,Bj_,numK]<;>omega)))) rfl rfl fun w1=>?_;have nl0:(⟨[],0⟩:Out).s.length=0:=rfl;have :=Af_ (⟨[],0⟩:Out) 258 2;refine call (Cx_ _) rfl rfl fun w2=>?_;refine gx tv25 1 ?_;refine so_rt (t:=4) (p':= .bool true) (ple (congrArg PV.bool (show decide (((C_ (⟨[],0⟩:Out) 258 2).s)=[1,2])=true by decide +kernel))) rfl ?_;refine gx tv25 1 ?_;refine ungd rfl rfl ?_;refine gx tv25 1 ?_;refine ungd rfl rfl ?_;refine call (C9_ (⟨[],0⟩:Out) _) rfl rfl fun w3=>?_;have nl0:(⟨[],0⟩:Out).s.length=0:=rfl;have :=Al_ (⟨[],0⟩:Out) [97,98];refine ungd rfl rfl ?_;refine call (Cx_ _) rfl rfl fun w4=>?_;refine ungd rfl rfl ?_;refine gx tv25 1 ?_;refine so_rt (t:=9) (p':= .bool true) (ple (congrArg PV.bool (show decide (((E_ (⟨[],0⟩:Out) [97,98]).s)=[0,2,97,98])=true by decide +kernel))) rfl ?_;refine gx tv25 2 ?_;refine ungd rfl rfl ?_;refine ef (ecallb 0 (octet_New _) rfl rfl fun w5 b6=>?_);refine ungd rfl rfl ?_;refine ef (ecallm (in_Num (⟨[1,2],0⟩) _) rfl rfl rfl rfl rfl fun w7 w7p=>?_);have :=inNum_r (⟨[1,2],0⟩) 2;refine ungd rfl rfl ?_;refine gx tv25 1 ?_;refine so_rt (t:=14) (p':= .bool true) (ple (congrArg PV.bool (show decide ((((Q8_ (⟨[1,2],0⟩) 2)).1)=258)=true by decide +kernel))) rfl ?_;refine gx tv25 5 ?_;refine rt1 rfl rfl (ple ?_);exact congrArg PV.bool (by first|rfl|decide +kernel)
theorem N6_:Fn Tryz.prog gb 189 [] (.bool true):=by
  refine fC Tryz.func189 tv25 Tryz.ntmps189 fun w N H hG=>?_;refine gx tv25 7 ?_;refine call Z4_ rfl rfl fun w1=>?_;refine gx tv25 4 ?_;refine rt1 rfl rfl (ple ?_)
  rfl
theorem Z5_:Fn Tryz.prog gb 251 [] (.bool true):=by
  refine fC Tryz.func251 tv25 Tryz.ntmps251 fun w N H hG=>?_;refine gx tv25 7 ?_;refine call (Hh_ _ _) rfl rfl fun w1=>?_;refine so_rt (t:=1) (p':= .bool true) (ple (congrArg PV.bool (show mt (Br_ [97,46,42,46,35]) (Br_ [97,46,98])=true by decide +kernel))) rfl ?_;refine gx tv25 1 ?_;refine ungd rfl rfl ?_;refine call (Hh_ _ _) rfl rfl fun w2=>?_;refine so_rt (t:=3) (p':= .bool true) (ple (congrArg PV.bool (show mt (Br_ [97,46,42,46,35]) (Br_ [97,46,98,46,99,46,100])=true by decide +kernel))) rfl ?_;refine gx tv25 2 ?_;refine ungd rfl rfl ?_;refine call (Hh_ _ _) rfl rfl fun w3=>?_;refine so_rt (t:=6) (p':= .bool false) (ple (congrArg PV.bool (show mt (Br_ [97,46,42,46,35]) (Br_ [97])=false by decide +kernel))) rfl ?_;refine ungd rfl rfl ?_;refine gx tv25 1 ?_;refine so_rt (t:=7) (p':= .bool true) (ple (congrArg PV.bool (show !false=true by decide +kernel))) rfl ?_;refine gx tv25 2 ?_;refine ungd rfl rfl ?_;refine call (Cn_ _) rfl rfl fun w4=>?_;refine ungd rfl rfl ?_;refine gx tv25 1 ?_;refine so_rt (t:=11) (p':= .bool true) (ple (congrArg PV.bool (show decide ((D0_ [97,45,49])=0)=true by decide +kernel))) rfl ?_;refine gx tv25 5 ?_;refine rt1 rfl rfl (ple ?_);exact congrArg PV.bool (by first|rfl|decide +kernel)
theorem Jn_:Fn Tryz.prog gb 181 [] (.bool true):=by
  refine fC Tryz.func181 tv25 Tryz.ntmps181 fun w N H hG=>?_;refine gx tv25 7 ?_;refine call Z5_ rfl rfl fun w1=>?_;refine gx tv25 4 ?_;refine rt1 rfl rfl (ple ?_)
  rfl
theorem Z9_:Fn Tryz.prog gb 344 [] (.bool true):=by
  refine fC Tryz.func344 tv25 Tryz.ntmps344 fun w N H hG=>?_;refine gx tv25 7 ?_;refine call (Fn.le (Kc_ []) (A_ M_ V_) (ple rfl) rfl) rfl rfl fun w1=>?_;have :=Fc_ [];refine gx tv25 9 ?_;refine call N6_ rfl rfl fun w2=>?_;refine gx tv25 1 ?_;refine ungd rfl rfl ?_;refine call Jn_ rfl rfl fun w3=>?_;refine gx tv25 2 ?_;refine ungd rfl rfl ?_;refine gx tv25 1 ?_;refine ungd rfl rfl ?_;refine gx tv25 1 ?_;refine so_rt (t:=13) (p':= .bool true) (ple (congrArg PV.bool (show decide ((Fr_ [])=0)=true by decide +kernel))) rfl ?_;refine gx tv25 2 ?_;refine ungd rfl rfl ?_;refine gx tv25 1 ?_;refine ungd rfl rfl ?_;refine gx tv25 1 ?_;refine so_rt (t:=17) (p':= .bool true) (ple (congrArg PV.bool (show decide ((Bk_ [])=[0])=true by decide +kernel))) rfl ?_;refine gx tv25 5 ?_;refine rt1 rfl rfl (ple ?_);exact congrArg PV.bool (by first|rfl|decide +kernel)
theorem Te_:Fn Tryz.prog gb 312 [] (.bool true):=by
  refine fC Tryz.func312 tv25 Tryz.ntmps312 fun w N H hG=>?_;refine gx tv25 7 ?_;refine call Z9_ rfl rfl fun w1=>?_;refine gx tv25 4 ?_;refine rt1 rfl rfl (ple ?_)
  rfl
theorem l10_awake:Fn Tryz.prog gb 345 [] (.bool true):=by
  refine fC Tryz.func345 tv25 Tryz.ntmps345 fun w N H hG=>?_;refine gm tv25 14 [0] fun B2=>?_;refine call Jn_ rfl rfl fun w3=>?_;refine gx tv25 1 ?_;refine ungd rfl rfl ?_;refine call Te_ rfl rfl fun w4=>?_;refine gx tv25 2 ?_;refine ungd rfl rfl ?_;refine gx tv25 1 ?_;refine ungd rfl rfl ?_;refine call (P8_ (⟨2,[97,46,35],[],false⟩:Rule)) rfl rfl fun w5=>?_;refine ungd rfl rfl ?_;refine gx tv25 1 ?_;refine so_rt (t:=10) (p':= .bool true) (ple (congrArg PV.bool (show decide ((Rx_ (⟨2,[97,46,35],[],false⟩:Rule))=0)=true by decide +kernel))) rfl ?_;refine gx tv25 2 ?_;refine ungd rfl rfl ?_;refine gx tv25 1 ?_;refine ungd rfl rfl ?_;refine call (Fn.le (O4_ (⟨2,[97,46,35],[],false⟩:Rule) _ []) (A_ (ple rfl) (A_ (ple rfl) (A_ M_ V_))) (ple rfl) rfl) rfl rfl fun w6=>?_;refine so_rt (t:=14) (p':= .bool true) (ple (congrArg PV.bool (show Md_ (⟨2,[97,46,35],[],false⟩:Rule) [97,46,98] []=true by decide +kernel))) rfl ?_;refine gx tv25 2 ?_;refine ungd rfl rfl ?_;refine gx tv25 1 ?_;refine ungd rfl rfl ?_;refine call (Fn.le (O4_ (⟨2,[97,46,35],[],false⟩:Rule) _ []) (A_ (ple rfl) (A_ (ple rfl) (A_ M_ V_))) (ple rfl) rfl) rfl rfl fun w7=>?_;refine so_rt (t:=18) (p':= .bool false) (ple (congrArg PV.bool (show Md_ (⟨2,[97,46,35],[],false⟩:Rule) [98] []=false by decide +kernel))) rfl ?_;refine ungd rfl rfl ?_;refine gx tv25 1 ?_;refine so_rt (t:=19) (p':= .bool true) (ple (congrArg PV.bool (show !false=true by decide +kernel))) rfl ?_;refine gx tv25 5 ?_;refine rt1 rfl rfl (ple ?_);exact congrArg PV.bool (by first|rfl|decide +kernel)
theorem l10_Awake:Fn Tryz.prog gb 313 [] (.bool true):=by
  refine fC Tryz.func313 tv25 Tryz.ntmps313 fun w N H hG=>?_;refine gx tv25 7 ?_;refine call l10_awake rfl rfl fun w1=>?_;refine gx tv25 4 ?_;refine rt1 rfl rfl (ple ?_)
  rfl
theorem l13_awake:Fn Tryz.prog gb 262 [] (.bool true):=by
  refine fC Tryz.func262 tv25 Tryz.ntmps262 fun w N H hG=>?_;refine gx tv25 8 ?_;refine call (Ml_ (⟨0,[97],[],[],[],0,0⟩:Mail)) rfl rfl fun w1=>?_;have :=F9_ (⟨0,[97],[],[],[],0,0⟩:Mail);refine gx tv25 9 ?_;refine call Te_ rfl rfl fun w2=>?_;refine gx tv25 1 ?_;refine ungd rfl rfl ?_;refine gx tv25 1 ?_;refine ungd rfl rfl ?_;refine gx tv25 1 ?_;refine so_rt (t:=11) (p':= .bool true) (ple (congrArg PV.bool (show decide ((Ga_ (⟨0,[97],[],[],[],0,0⟩:Mail))=0)=true by decide +kernel))) rfl ?_;refine gx tv25 2 ?_;refine ungd rfl rfl ?_;refine gx tv25 1 ?_;refine ungd rfl rfl ?_;refine gx tv25 1 ?_;refine ungd rfl rfl ?_;refine gx tv25 1 ?_;refine so_rt (t:=16) (p':= .bool true) (ple (congrArg PV.bool (show decide (((Dm_ (⟨0,[97],[],[],[],0,0⟩:Mail)).length:Int)=25)=true by decide +kernel))) rfl ?_;refine gx tv25 5 ?_;refine rt1 rfl rfl (ple ?_);exact congrArg PV.bool (by first|rfl|decide +kernel)
theorem Oc_:Fn Tryz.prog gb 186 [] (.bool true):=by
  refine fC Tryz.func186 tv25 Tryz.ntmps186 fun w N H hG=>?_;refine gx tv25 7 ?_;refine call l13_awake rfl rfl fun w1=>?_;refine gx tv25 4 ?_;refine rt1 rfl rfl (ple ?_)
  rfl
theorem cb282:Z_ Tryz.prog 282:=W_ Tryz.func282 (by kernel_rfl) (by kernel_rfl)
theorem cb284:Z_ Tryz.prog 284:=W_ Tryz.func284 (by kernel_rfl) (by kernel_rfl)
abbrev ty392:TI:=⟨.slc 32,1,24,[.sl (slc ShopR.pc) []]⟩
abbrev ty395:TI:=⟨.slc 33,1,24,[.sl (slc BindR.pc) []]⟩
def tbv40:Tb:=[(3,ty3),(32,ty32),(33,ty33),(58,ty58),(63,ty63),(392,ty392),(395,ty395)]
theorem tv40:tbB Tryz.prog tbv40=true:=by kernel_rfl
theorem Zo_ (n:Int) (hn:0<=n/\n<=100000000:=by omega):Fo Tryz.prog gb 282 [.val (.slice none 0 0), .int .i64 n] (fun u=> .val u) 3 58 ShopR.pc ([]:List ShopR):=by
  refine Qz_ tv40 Tryz.func282 rfl Tryz.ntmps282 rfl cb282 (fun _=>rfl) rfl fun w N H hG=>?_;refine gx tv40 12 ?_;refine cnd rfl (fun h1=>?_) (fun h1=>?_)
  · have p2:=dt h1
    exfalso;omega
  have p3:=df h1;refine gx tv40 7 ?_;refine q1 (qcap0 tv40 rfl rfl rfl) rfl fun w4=>?_;refine gx tv40 1 ?_;refine q1 (qlen0 tv40 rfl rfl rfl) rfl fun w5=>?_;refine gy tv40 11 ?_;refine cn rfl (fun p7=>?_) fun p13=>?_
  · refine gx tv40 3 ?_;refine q1 (qcap0 tv40 rfl rfl rfl) rfl fun w8=>?_;refine q1 (qcut0 tv40 rfl rfl rfl rfl rfl (by omega)) rfl fun w9=>?_;refine gx tv40 1 ?_;refine ef (appz (m:=((n-(0-0))).toNat) 0 tv40 rfl rfl rfl rfl rfl rfl rfl rfl rfl rfl (by omega) (by omega) (by (try simp only[]);omega) rfl rfl fun u10=>?_);refine gx tv40 1 ?_;refine q1 (qlen0 tv40 rfl rfl rfl) rfl fun w11=>?_;refine ef (ocut ShopR.pc tv40 rfl rfl rfl rfl rfl rfl (by omega) rfl fun u12=>?_);refine gx tv40 9 ?_;refine sw_val (t:=4) (i:=0) rfl rfl ?_;refine gx tv40 1 ?_;refine ro1 (j:=0) rfl rfl rfl ?_
    rfl
  refine gx tv40 8 ?_;refine sw_own (t:=4) (k:=3) (e:=58) 0 ShopR.pc rfl rfl ?_;refine sw_val (t:=4) (i:=0) rfl rfl ?_;refine gx tv40 1 ?_;refine ro1 (j:=0) rfl rfl rfl ?_
  rfl
theorem Nv_ (ls:List (List ShopR)) (hl:ls.flatten.length<=100000000:=by first|omega|(simp;done)|(simp;omega)|(simp only[List.flatten_cons,List.flatten_nil,List.length_append,List.append_nil];simp;omega)):Fn Tryz.prog gb 217 [.sl (slc ShopR.pc) ls] (.sl ShopR.pc ls.flatten):=by
  refine fC Tryz.func217 tv40 Tryz.ntmps217 fun w N H hG=>?_;have ls_l:ls.length<=140737488355328:=w.1.1;refine gx tv40 19 ?_;refine loop (ι:=Nat×Int) [0,2,9,10] [] (fun ⟨k,n⟩=>[(3, .int .i64 n),(11, .int .i64 (k:Int))]) (fun ⟨k,n⟩=>[]) (fun ⟨k,n⟩=>k<=ls.length/\n=((ls.take k).flatten.length:Int)) (fun ⟨k,n⟩=>ls.length-k) ⟨0,0⟩ ⟨rfl,rfl,trivial⟩ trivial ?_ ?_
  · exact⟨Nat.zero_le _,by simp⟩
  rintro⟨k,n⟩ hp1;obtain⟨hk1,hk2⟩:=hp1;have hg0:=B1_ ls k;refine gx tv40 6 ?_;refine cn rfl (fun p3=>?_) fun p10=>?_
  · obtain⟨c4,hc5⟩:=getE (xs:=ls) (m:=k) (by omega);refine gx tv40 6 ?_;refine q1 (qidx tv40 k rfl rfl rfl hc5 rfl rfl rfl rfl) rfl fun w6=>?_;refine go tv40 19 rfl rfl ⟨(by have hg:=B1_ ls (k+1);have hfl:=congrArg List.length (Ak_ (by assumption :ls[k]? = some _));simp only[List.length_append] at hfl;omega),trivial⟩ ?_;refine cnd rfl (fun h7=>?_) (fun h7=>?_)
    · have p8:=dt h7
      exfalso;omega
    have p9:=df h7;refine go tv40 7 rfl rfl ⟨(by have hg:=B1_ ls (k+1);have hfl:=congrArg List.length (Ak_ (by assumption :ls[k]? = some _));simp only[List.length_append] at hfl;omega),trivial⟩ ?_;refine next ⟨(k+1),(n+(c4.length:Int))⟩ rfl rfl ⟨rfl,rfl,trivial⟩ trivial ?_ ?_
    · (try simp only[]);omega
    have hf:=Ak_ hc5;have hg:=B1_ ls (k+1);have hfl:=congrArg List.length hf
    simp only[List.length_append] at hfl
    exact⟨by omega,by (try simp only[]);omega⟩
  refine gx tv40 8 ?_;refine ef (ecallo 0 (Zo_ _) rfl rfl fun u12 w11=>?_);refine gx tv40 12 ?_;refine sw_osl (t:=6) 0 rfl rfl ?_;refine loop (ι:=Nat×(List ShopR)×Value) [0,2,3,9,10,11,12,23,24,25,26] [] (fun ⟨k,out,u_out⟩=>[(6, .osl 0),(27, .int .i64 (k:Int))]) (fun ⟨k,out,u_out⟩=>[(0, .arr u_out 3 58 ShopR.pc out)]) (fun ⟨k,out,u_out⟩=>k<=ls.length/\out=(ls.take k).flatten) (fun ⟨k,out,u_out⟩=>ls.length-k) ⟨0,([]:List ShopR),(u12)⟩ ⟨rfl,rfl,trivial⟩ ⟨rfl,trivial⟩ ?_ ?_
  · exact⟨Nat.zero_le _,by simp⟩
  rintro⟨k,out,u_out⟩ hp13;obtain⟨hk1,hk2⟩:=hp13;refine gx tv40 6 ?_;refine cn rfl (fun p15=>?_) fun p20=>?_
  · obtain⟨c16,hc17⟩:=getE (xs:=ls) (m:=k) (by omega);refine gx tv40 6 ?_;refine q1 (qidx tv40 k rfl rfl rfl hc17 rfl rfl rfl rfl) rfl fun w18=>?_;refine gx tv40 7 ?_;refine ef (app tv40 c16 rfl rfl rfl rfl rfl rfl rfl rfl rfl (src_l rfl (fun _=>rfl)) (by have hg:=B1_ ls (k+1);have hfl:=congrArg List.length (Ak_ (by assumption :ls[k]? = some _));simp only[List.length_append] at hfl;subst hk2;(try simp only[]);omega) rfl fun u19=>?_);refine go tv40 8 rfl rfl ⟨(by have hg:=B1_ ls (k+1);have hfl:=congrArg List.length (Ak_ (by assumption :ls[k]? = some _));simp only[List.length_append] at hfl;omega),trivial⟩ ?_;refine next ⟨(k+1),(out++c16),(u19)⟩ rfl rfl ⟨rfl,rfl,trivial⟩ ⟨rfl,trivial⟩ ?_ ?_
    · (try simp only[]);omega
    exact⟨by omega,by (try simp only[]);rw[Ak_ hc17,hk2]⟩
  refine gx tv40 11 ?_;refine givec 0 rfl ?_;refine gx tv40 1 ?_;refine rt1 rfl rfl (ple ?_)
  rw[hk2,Im_ (by omega)]
theorem Zk_ (n:Int) (hn:0<=n/\n<=100000000:=by omega):Fo Tryz.prog gb 284 [.val (.slice none 0 0), .int .i64 n] (fun u=> .val u) 6 63 BindR.pc ([]:List BindR):=by
  refine Qz_ tv40 Tryz.func284 rfl Tryz.ntmps284 rfl cb284 (fun _=>rfl) rfl fun w N H hG=>?_;refine gx tv40 12 ?_;refine cnd rfl (fun h1=>?_) (fun h1=>?_)
  · have p2:=dt h1
    exfalso;omega
  have p3:=df h1;refine gx tv40 7 ?_;refine q1 (qcap0 tv40 rfl rfl rfl) rfl fun w4=>?_;refine gx tv40 1 ?_;refine q1 (qlen0 tv40 rfl rfl rfl) rfl fun w5=>?_;refine gy tv40 11 ?_;refine cn rfl (fun p7=>?_) fun p13=>?_
  · refine gx tv40 3 ?_;refine q1 (qcap0 tv40 rfl rfl rfl) rfl fun w8=>?_;refine q1 (qcut0 tv40 rfl rfl rfl rfl rfl (by omega)) rfl fun w9=>?_;refine gx tv40 1 ?_;refine ef (appz (m:=((n-(0-0))).toNat) 0 tv40 rfl rfl rfl rfl rfl rfl rfl rfl rfl rfl (by omega) (by omega) (by (try simp only[]);omega) rfl rfl fun u10=>?_);refine gx tv40 1 ?_;refine q1 (qlen0 tv40 rfl rfl rfl) rfl fun w11=>?_;refine ef (ocut BindR.pc tv40 rfl rfl rfl rfl rfl rfl (by omega) rfl fun u12=>?_);refine gx tv40 9 ?_;refine sw_val (t:=4) (i:=0) rfl rfl ?_;refine gx tv40 1 ?_;refine ro1 (j:=0) rfl rfl rfl ?_
    rfl
  refine gx tv40 8 ?_;refine sw_own (t:=4) (k:=6) (e:=63) 0 BindR.pc rfl rfl ?_;refine sw_val (t:=4) (i:=0) rfl rfl ?_;refine gx tv40 1 ?_;refine ro1 (j:=0) rfl rfl rfl ?_
  rfl
theorem Nt_ (ls:List (List BindR)) (hl:ls.flatten.length<=100000000:=by first|omega|(simp;done)|(simp;omega)|(simp only[List.flatten_cons,List.flatten_nil,List.length_append,List.append_nil];simp;omega)):Fn Tryz.prog gb 222 [.sl (slc BindR.pc) ls] (.sl BindR.pc ls.flatten):=by
  refine fC Tryz.func222 tv40 Tryz.ntmps222 fun w N H hG=>?_;have ls_l:ls.length<=140737488355328:=w.1.1;refine gx tv40 19 ?_;refine loop (ι:=Nat×Int) [0,2,9,10] [] (fun ⟨k,n⟩=>[(3, .int .i64 n),(11, .int .i64 (k:Int))]) (fun ⟨k,n⟩=>[]) (fun ⟨k,n⟩=>k<=ls.length/\n=((ls.take k).flatten.length:Int)) (fun ⟨k,n⟩=>ls.length-k) ⟨0,0⟩ ⟨rfl,rfl,trivial⟩ trivial ?_ ?_
  · exact⟨Nat.zero_le _,by simp⟩
  rintro⟨k,n⟩ hp1;obtain⟨hk1,hk2⟩:=hp1;have hg0:=B1_ ls k;refine gx tv40 6 ?_;refine cn rfl (fun p3=>?_) fun p10=>?_
  · obtain⟨c4,hc5⟩:=getE (xs:=ls) (m:=k) (by omega);refine gx tv40 6 ?_;refine q1 (qidx tv40 k rfl rfl rfl hc5 rfl rfl rfl rfl) rfl fun w6=>?_;refine go tv40 19 rfl rfl ⟨(by have hg:=B1_ ls (k+1);have hfl:=congrArg List.length (Ak_ (by assumption :ls[k]? = some _));simp only[List.length_append] at hfl;omega),trivial⟩ ?_;refine cnd rfl (fun h7=>?_) (fun h7=>?_)
    · have p8:=dt h7
      exfalso;omega
    have p9:=df h7;refine go tv40 7 rfl rfl ⟨(by have hg:=B1_ ls (k+1);have hfl:=congrArg List.length (Ak_ (by assumption :ls[k]? = some _));simp only[List.length_append] at hfl;omega),trivial⟩ ?_;refine next ⟨(k+1),(n+(c4.length:Int))⟩ rfl rfl ⟨rfl,rfl,trivial⟩ trivial ?_ ?_
    · (try simp only[]);omega
    have hf:=Ak_ hc5;have hg:=B1_ ls (k+1);have hfl:=congrArg List.length hf
    simp only[List.length_append] at hfl
    exact⟨by omega,by (try simp only[]);omega⟩
  refine gx tv40 8 ?_;refine ef (ecallo 0 (Zk_ _) rfl rfl fun u12 w11=>?_);refine gx tv40 12 ?_;refine sw_osl (t:=6) 0 rfl rfl ?_;refine loop (ι:=Nat×(List BindR)×Value) [0,2,3,9,10,11,12,23,24,25,26] [] (fun ⟨k,out,u_out⟩=>[(6, .osl 0),(27, .int .i64 (k:Int))]) (fun ⟨k,out,u_out⟩=>[(0, .arr u_out 6 63 BindR.pc out)]) (fun ⟨k,out,u_out⟩=>k<=ls.length/\out=(ls.take k).flatten) (fun ⟨k,out,u_out⟩=>ls.length-k) ⟨0,([]:List BindR),(u12)⟩ ⟨rfl,rfl,trivial⟩ ⟨rfl,trivial⟩ ?_ ?_
  · exact⟨Nat.zero_le _,by simp⟩
  rintro⟨k,out,u_out⟩ hp13;obtain⟨hk1,hk2⟩:=hp13;refine gx tv40 6 ?_;refine cn rfl (fun p15=>?_) fun p20=>?_
  · obtain⟨c16,hc17⟩:=getE (xs:=ls) (m:=k) (by omega);refine gx tv40 6 ?_;refine q1 (qidx tv40 k rfl rfl rfl hc17 rfl rfl rfl rfl) rfl fun w18=>?_;refine gx tv40 7 ?_;refine ef (app tv40 c16 rfl rfl rfl rfl rfl rfl rfl rfl rfl (src_l rfl (fun _=>rfl)) (by have hg:=B1_ ls (k+1);have hfl:=congrArg List.length (Ak_ (by assumption :ls[k]? = some _));simp only[List.length_append] at hfl;subst hk2;(try simp only[]);omega) rfl fun u19=>?_);refine go tv40 8 rfl rfl ⟨(by have hg:=B1_ ls (k+1);have hfl:=congrArg List.length (Ak_ (by assumption :ls[k]? = some _));simp only[List.length_append] at hfl;omega),trivial⟩ ?_;refine next ⟨(k+1),(out++c16),(u19)⟩ rfl rfl ⟨rfl,rfl,trivial⟩ ⟨rfl,trivial⟩ ?_ ?_
    · (try simp only[]);omega
    exact⟨by omega,by (try simp only[]);rw[Ak_ hc17,hk2]⟩
  refine gx tv40 11 ?_;refine givec 0 rfl ?_;refine gx tv40 1 ?_;refine rt1 rfl rfl (ple ?_)
  rw[hk2,Im_ (by omega)]
theorem cb270:Z_ Tryz.prog 270:=W_ Tryz.func270 (by kernel_rfl) (by kernel_rfl)
def tbv45:Tb:=[(9,ty9),(32,ty32),(33,ty33),(35,ty35),(58,ty58),(63,ty63),(244,Sd_),(392,ty392)]
theorem tv45:tbB Tryz.prog tbv45=true:=by kernel_rfl
theorem My_ (l:List Bs) (s:Bs) (hl:l.length<=100000:=by first|omega|(simp;omega)|decide +kernel):Fl Tryz.prog gb 270 [.str s] (fun u=> .val u) 1 9 strc l (Ez_ l s):=by
  refine fl_cw tv45 Tryz.func270 rfl Tryz.ntmps270 rfl cb270 (fun _=>rfl) rfl fun w l_l u0 N H hG=>?_;have e0:=Ez_.eq_1 l s;refine gx tv45 10 ?_;refine ef (calll 0 rfl (Sm_ _ _) rfl rfl rfl fun w1=>?_);refine gx tv45 2 ?_;refine cD e0 (fun p3 e4=>?_) (fun p5 e6=>?_)
  · refine gx tv45 6 ?_;refine sw_val (t:=4) (i:=0) rfl rfl ?_;refine gx tv45 2 ?_;refine ro1 (j:=0) rfl rfl rfl ?_;exact (congrArg (fun r:(List Bs)=>r) e4).symm
  refine gx tv45 6 ?_;refine ef (bsl 1 strc [s] tv45 rfl rfl rfl rfl rfl (fun _=>rfl) rfl (by decide) (by decide) rfl fun u7=>?_);refine ef (app tv45 [s] rfl rfl rfl rfl rfl rfl rfl rfl rfl (src_o rfl rfl) (by first|omega|(simp;omega)) rfl fun u8=>?_);refine gx tv45 3 ?_;refine sw_val (t:=4) (i:=0) rfl rfl ?_;refine gx tv45 1 ?_;refine ro1 (j:=0) rfl rfl rfl ?_;exact (congrArg (fun r:(List Bs)=>r) e6).symm
theorem If_ (b:BookR) (x:ShopR) (hs:b.shops.length<=1000:=by first|omega|(simp;omega)|decide +kernel):Fn Tryz.prog gb 129 [.agg (BookR.pc b), .agg (ShopR.pc x)] (.tup [.agg (BookR.pc ((B3_ b x).1)), .int .i64 ((B3_ b x).2)]):=by
  refine fC Tryz.func129 tv45 Tryz.ntmps129 fun w N H hG=>?_;have e0:=B3_.eq_1 b x;generalize B3_ b x=z at e0 ⊢;refine gm tv45 12 [0,1,2] fun B2=>?_;refine call (Ye_ _) rfl rfl fun w5=>?_;have :=shopE_r x;refine gx tv45 9 ?_;refine cN e0 (fun p8 e9=>?_) (fun p12 e13=>?_)
  · refine gm tv45 10 [] fun _=>?_;subst e9;exact qr2
  refine gx tv45 7 ?_;refine call (Lj_ _ _) rfl rfl fun w14=>?_;refine gm tv45 16 [3] fun B16=>?_;refine q1g [25,26] rfl (fun hc=>saeq rfl rfl eqg58 (veq58 x ((Ej_ b.shops x.name).getD ShopR.zero))) ⟨(fun hc=>hc),(fun hc=>hc),trivial⟩ rfl rfl rfl fun _=>?_;refine gy tv45 4 ?_;refine cE e13 (fun h17 e21=>?_) (fun h17 e23=>?_)
  · have h18:=bl h17;have h19:=br h17;have p20:=dt h19;refine gm tv45 10 [] fun _=>?_;subst e21;exact qr2
  refine gx tv45 6 ?_;refine cE e23 (fun h24 e25=>?_) (fun h24 e27=>?_)
  · refine gm tv45 10 [] fun _=>?_;subst e25;exact qr2
  refine gx tv45 9 ?_;refine cD e27 (fun p29 e30=>?_) (fun p32 e33=>?_)
  · refine gm tv45 10 [] fun _=>?_;subst e30;exact qr2
  refine gx tv45 8 ?_;refine ef (bsl 4 ShopR.pc [x] tv45 rfl rfl rfl rfl rfl (fun _=>rfl) rfl (by decide) (by decide) rfl fun u34=>?_);refine give 4 rfl ?_;refine ef (bsl 4 (slc ShopR.pc) [b.shops,[x]] tv45 rfl rfl rfl rfl rfl (fun _=>rfl) rfl (by decide) (by decide) rfl fun u35=>?_);refine give 4 rfl ?_;refine call (Nv_ _) rfl rfl fun w36=>?_;have hfl36:([b.shops,[x]].flatten).length=b.shops.length+1:=by simp only[List.flatten_cons,List.flatten_nil,List.length_append,List.length_nil,List.length_cons,Nat.add_zero,Nat.zero_add]
  refine gm tv45 12 [] fun _=>?_;subst e33;exact qr2
theorem H1_ (b:BookR) (x:BindR):Fn Tryz.prog gb 221 [.agg (BookR.pc b), .agg (BindR.pc x)] (.int .i64 (Cf_ b x)):=by
  refine fC Tryz.func221 tv45 Tryz.ntmps221 fun w N H hG=>?_;have e0:=Cf_.eq_1 b x;refine gm tv45 13 [0,1] fun B2=>?_;refine call (Zu_ _ _ _ _ (fun z_4:BindR=>decide (x=z_4)) (fun z_4=>Si_ x z_4)) rfl rfl fun w5=>?_;have hix5:=F1_ (fun z_4:BindR=>decide (x=z_4)) b.binds;refine gx tv45 4 ?_;exact rt1 rfl rfl (S_ (fun r:Int=> .int .i64 r) e0 (ple rfl))
abbrev R0_:Int->PV:=fun r=> .int .i64 r
def tbv46:Tb:=[(4,ty4),(5,ty5),(9,ty9),(33,ty33),(35,ty35),(58,ty58),(63,ty63),(244,Sd_),(395,ty395)]
theorem tv46:tbB Tryz.prog tbv46=true:=by kernel_rfl
theorem Gd_ (b:BookR) (x:BindR) (hb:b.binds.length<=1000:=by first|omega|(simp;omega)|decide +kernel) (hw:x.want.length<=1000:=by first|omega|(simp;omega)|decide +kernel):Fn Tryz.prog gb 132 [.agg (BookR.pc b), .agg (BindR.pc x)] (.tup [.agg (BookR.pc ((Av_ b x).1)), .int .i64 ((Av_ b x).2)]):=by
  refine fC Tryz.func132 tv46 Tryz.ntmps132 fun w N H hG=>?_;have e0:=Av_.eq_1 b x;generalize Av_ b x=z at e0 ⊢;refine gm tv46 13 [0,1,2] fun B2=>?_;refine call (Lj_ _ _) rfl rfl fun w5=>?_;refine gm tv46 17 [3] fun B7=>?_;refine cE e0 (fun h8 e10=>?_) (fun h8 e13=>?_)
  · have h9:=Cp_ h8;refine gm tv46 10 [] fun _=>?_;subst e10;exact qr2
  have h12:=Co_ h8;refine gx tv46 8 ?_;refine cD e13 (fun p15 e16=>?_) (fun p18 e19=>?_)
  · refine gm tv46 10 [] fun _=>?_;subst e16;exact qr2
  refine gx tv46 8 ?_;refine call (Cn_ _) rfl rfl fun w20=>?_;refine gx tv46 9 ?_;refine cN e19 (fun p23 e24=>?_) (fun p27 e28=>?_)
  · refine gm tv46 10 [] fun _=>?_;subst e24;exact qr2
  refine gx tv46 8 ?_;refine call (Li_ _ _) rfl rfl fun w29=>?_;refine call (P8_ _) rfl rfl fun w30=>?_;refine gx tv46 11 ?_;refine cN e28 (fun p33 e34=>?_) (fun p37 e38=>?_)
  · refine gm tv46 11 [] fun _=>?_;subst e34;exact qr2
  refine gx tv46 4 ?_;refine cV e38 R0_ (H1_ _ _) rfl fun r hr39 e41 w40=>?_;have hA41:=there_r b x
  (try rw[<- hr39] at hA41)
  refine gx tv46 4 ?_;refine cD e41 (fun p44 e45=>?_) (fun p47 e48=>?_)
  · refine gm tv46 10 [] fun _=>?_;subst e45;exact qr2
  refine gx tv46 9 ?_;refine cD e48 (fun p50 e51=>?_) (fun p53 e54=>?_)
  · refine gm tv46 10 [] fun _=>?_;subst e51;exact qr2
  refine gx tv46 4 ?_;refine aN [4,5,6,7,8,9] 9 mixd ?_;refine gX tv46 [0,1,2] 6 ?_;refine vE 3 rfl (eC (Xn_ _) rfl fun w55=>?_);refine vE 4 rfl (bsl 4 BindR.pc [x] tv46 rfl rfl rfl rfl rfl (fun _=>rfl) rfl (by decide) (by decide) rfl fun u56=>?_);refine vE 5 rfl (Pe_ 4 rfl (bsl 4 (slc BindR.pc) [b.binds,[x]] tv46 rfl rfl rfl rfl rfl (fun _=>rfl) rfl (by decide) (by decide) rfl fun u57=>?_));refine vE 6 rfl (Pe_ 4 rfl (U1_ (eC (Nt_ _) rfl fun w58=>?_)));have hfl58:([b.binds,[x]].flatten).length=b.binds.length+1:=by simp only[List.flatten_cons,List.flatten_nil,List.length_append,List.length_nil,List.length_cons,Nat.add_zero,Nat.zero_add]
  refine gX tv46 [7] 1 ?_;refine vT 8 rfl (sO tv46 ?_);refine vD ?_;refine gm tv46 9 [] fun _=>?_;subst e54;exact qr2
theorem H0_ (b:BookR) (shop:Bs) (key:Bs) (h:List Pair) (hb:b.binds.length<=1000:=by first|omega|(simp;omega)|decide +kernel) (hk:key.length<4294967281:=by first|omega|(simp;omega)|decide +kernel) (hr:∀ y∈b.binds,y.key.length<4294967281:=by first|assumption|decide +kernel):Fn Tryz.prog gb 200 [.agg (BookR.pc b), .str shop, .str key, .sl Pair.pc h] (.tup [.sl strc ((As_ b shop key h).1), .sl strc ((As_ b shop key h).2.1), .int .i64 ((As_ b shop key h).2.2)]):=by
  refine fC Tryz.func200 tv46 Tryz.ntmps200 fun w N H hG=>?_;have e0:=As_.eq_1 b shop key h;generalize As_ b shop key h=z at e0 ⊢;refine gm tv46 13 [0] fun B2=>?_;refine call (Lj_ _ _) rfl rfl fun w3=>?_;refine gm tv46 17 [1] fun B5=>?_;refine cE e0 (fun h6 e8=>?_) (fun h6 e10=>?_)
  · have h7:=Cp_ h6;refine gx tv46 11 ?_;subst e8;exact rt3 rfl rfl (Dq_ (A_ M_ (A_ M_ (A_ (ple rfl) V_))))
  have h9:=Co_ h6;refine gx tv46 8 ?_;refine cD e10 (fun p12 e13=>?_) (fun p15 e16=>?_)
  · refine gx tv46 1 ?_;refine aN [2,3,4,5,6,7] 6 mixd ?_;refine gX tv46 [0,1,3] 3 ?_;refine vE 2 rfl (bsl 2 strc [((Ej_ b.shops shop).getD ShopR.zero).to'] tv46 rfl rfl rfl rfl rfl (fun _=>rfl) rfl (by decide) (by decide) rfl fun u14=>?_);refine gX tv46 [4,5] 0 ?_;refine vD ?_;refine gx tv46 1 ?_;refine givec 2 rfl ?_;refine gx tv46 4 ?_;subst e13;exact rt3 rfl rfl (Dq_ (A_ M_ (A_ (ple rfl) (A_ (ple rfl) V_))))
  refine gx tv46 22 ?_;refine sw_own (t:=13) (k:=1) (e:=9) 2 strc rfl rfl ?_;refine sw_own (t:=14) (k:=1) (e:=9) 3 strc rfl rfl ?_;refine loop (ι:=Nat×(List Bs)×(List Bs)×Value×Value) [1,2,3,8,9,10,11,34,35] [0,1] (fun ⟨k,queues,places,u_queues,u_places⟩=>[(36, .int .i64 (k:Int)),(13, .osl 2),(14, .osl 3)]) (fun ⟨k,queues,places,u_queues,u_places⟩=>[(2, .arr u_queues 1 9 strc queues),(3, .arr u_places 1 9 strc places)]) (fun ⟨k,queues,places,u_queues,u_places⟩=>k<=b.binds.length/\z=Ab_ b shop key h (b.binds.drop k) queues places/\queues.length<=k/\places.length<=k) (fun ⟨k,queues,places,u_queues,u_places⟩=>b.binds.length-k) ⟨0,[],[],(.slice none 0 0),(.slice none 0 0)⟩ ⟨rfl,rfl,rfl,trivial⟩ ⟨rfl,rfl,trivial⟩ ?_ ?_
  · exact⟨Nat.zero_le _,e16,(by first|omega|(simp;done)|(simp;omega))⟩
  rintro⟨k,queues,places,u_queues,u_places⟩ ⟨hp17_1,hp17_2,hp17_3⟩;refine gx tv46 6 ?_;refine cn rfl (fun p19=>?_) fun p52=>?_
  · have e20:=Cc_ (f:=fun zz=>Ab_ b shop key h zz queues places) hp17_2 (Fj_ (by omega)) (Ab_.eq_2 _ _ _ _ _ _ _ _);have hc21:=getG (xs:=b.binds) (k:=k) (by omega);have hr_hc21:=hr (gt b.binds k) (List.mem_of_getElem? hc21);refine gx tv46 6 ?_;refine q1 (qidx tv46 k rfl rfl rfl hc21 rfl rfl rfl rfl) rfl fun w22=>?_;refine gm tv46 7 [4] fun B24=>?_;obtain⟨o,e_o,q_o⟩:=Hw_ e20;refine Hr_ (ι:=Bool) [1,2,3,8,9,10,11,13,14,16,34,35,36] [0,1,2,3,4] (fun v=>[(44, .bool v)]) (fun v=>[]) (fun v=>o=v) ?_ ?_
    · refine gx tv46 9 ?_;refine cN e_o (fun p27 e28=>?_) (fun p30 e31=>?_)
      · refine gx tv46 1 ?_;refine nX (!decide (((gt b.binds k).shop)=shop)) ?_ ⟨rfl,trivial⟩ trivial;exact e28
      refine gx tv46 4 ?_;refine call (Li_ _ _) rfl rfl fun w32=>?_;refine gx tv46 2 ?_;refine call (O4_ _ _ _ (hrk:=by simp only[H4_];omega)) rfl rfl fun w33=>?_;refine gx tv46 3 ?_;refine nX (!(Md_ (H4_ (gt b.binds k) (((Ej_ b.shops shop).getD ShopR.zero).sort)) key h)) ?_ ⟨rfl,trivial⟩ trivial;exact e31
    rintro v hp34;have e35:=K1_ q_o hp34;refine gx tv46 1 ?_;refine cE e35 (fun h36 e37=>?_) (fun h36 e38=>?_)
    · refine gy tv46 8 ?_;refine next ⟨(k+1),queues,places,(u_queues),(u_places)⟩ rfl rfl ⟨rfl,rfl,rfl,trivial⟩ ⟨rfl,rfl,trivial⟩ ?_ ?_
      · (try simp only[]);omega
      exact⟨by (try simp only[]);omega,e37,⟨by (try simp only[]);omega,by (try simp only[]);omega⟩⟩
    refine gx tv46 7 ?_;refine cE e38 (fun h39 e40=>?_) (fun h39 e46=>?_)
    · refine gx tv46 4 ?_;refine ef (ecallw (My_ _ _) rfl rfl rfl rfl rfl rfl ?_);generalize hr43:Ez_ places ((gt b.binds k).to')=r;intro u41 w42;have e44:=e40.trans (Ge_ hr43.symm);have hr43:=hr43.symm;have hA44:=put_len places ((gt b.binds k).to')
      (try rw[<- hr43] at hA44)
      refine gy tv46 9 ?_;refine lj_osl (t:=14) 3 rfl rfl ?_;refine next ⟨(k+1),queues,r,(u_queues),(u41)⟩ rfl rfl ⟨rfl,rfl,rfl,trivial⟩ ⟨rfl,rfl,trivial⟩ ?_ ?_
      · (try simp only[]);omega
      exact⟨by (try simp only[]);omega,e44,⟨by (try simp only[]);omega,by (try simp only[]);omega⟩⟩
    refine gx tv46 4 ?_;refine ef (ecallw (My_ _ _) rfl rfl rfl rfl rfl rfl ?_);generalize hr49:Ez_ queues ((gt b.binds k).to')=r1;intro u47 w48;have e50:=e46.trans (Ge_ hr49.symm);have hr49:=hr49.symm;have hA50:=put_len queues ((gt b.binds k).to')
    (try rw[<- hr49] at hA50)
    refine gy tv46 9 ?_;refine lj_osl (t:=13) 2 rfl rfl ?_;refine next ⟨(k+1),r1,places,(u47),(u_places)⟩ rfl rfl ⟨rfl,rfl,rfl,trivial⟩ ⟨rfl,rfl,trivial⟩ ?_ ?_
    · (try simp only[]);omega
    exact⟨by (try simp only[]);omega,e50,⟨by (try simp only[]);omega,by (try simp only[]);omega⟩⟩
  have e53:=Cc_ (f:=fun zz=>Ab_ b shop key h zz queues places) hp17_2 (Fk_ (by omega)) (Ab_.eq_1 _ _ _ _ _ _);refine gx tv46 14 ?_;refine givec 2 rfl ?_;refine givec 3 rfl ?_;refine gx tv46 2 ?_;subst e53;exact qr3
abbrev ty27:TI:=⟨.slc 67,1,24,[.sl DeedR.pc []]⟩
def tbv42:Tb:=[(27,ty27),(67,ty67)]
theorem tv42:tbB Tryz.prog tbv42=true:=by kernel_rfl
theorem To_ (l:List DeedR):Fn Tryz.prog gb 11 [.sl DeedR.pc l] (.bool (Hs_ l)):=by
  refine fC Tryz.func11 tv42 Tryz.ntmps11 fun w N H hG=>?_;have l_l:l.length<=140737488355328:=w.1.1;have e0:=Hs_.eq_1 l;generalize Hs_ l=z at e0 ⊢;refine gx tv42 14 ?_;refine loop (ι:=Nat) [0,5,6] [] (fun k=>[(7, .int .i64 (k:Int))]) (fun k=>[]) (fun k=>k<=l.length/\z=C1_ l (l.drop k)) (fun k=>l.length-k) 0 ⟨rfl,trivial⟩ trivial ?_ ?_
  · exact⟨Nat.zero_le _,e0⟩
  rintro k ⟨hp1_1,hp1_2⟩;refine gx tv42 6 ?_;refine cn rfl (fun p3=>?_) fun p15=>?_
  · have e4:=Cc_ (f:=fun zz=>C1_ l zz) hp1_2 (Fj_ (by omega)) (C1_.eq_2 _ _ _);have hc5:=getG (xs:=l) (k:=k) (by omega);refine gx tv42 6 ?_;refine q1 (qidx tv42 k rfl rfl rfl hc5 rfl rfl rfl rfl) rfl fun w6=>?_;refine gm tv42 8 [0] fun B8=>?_;refine call (l22_Light _) rfl rfl fun w9=>?_;have hld9:=P0_ (gt l k);refine gx tv42 3 ?_;refine cE e4 (fun h10 e12=>?_) (fun h10 e14=>?_)
    · have h11:=Cp_ h10;refine gx tv42 11 ?_;subst e12;exact qr1
    have h13:=Co_ h10;refine gy tv42 7 ?_;refine next (k+1) rfl rfl ⟨rfl,trivial⟩ trivial ?_ ?_
    · (try simp only[]);omega
    exact⟨by (try simp only[]);omega,e14⟩
  have e16:=Cc_ (f:=fun zz=>C1_ l zz) hp1_2 (Fk_ (by omega)) (C1_.eq_1 _);refine gx tv42 14 ?_;subst e16;exact qr1
def tbv47:Tb:=[(9,ty9),(35,ty35),(58,ty58),(63,ty63),(67,ty67),(244,Sd_)]
theorem tv47:tbB Tryz.prog tbv47=true:=by kernel_rfl
theorem l14_awake:Fn Tryz.prog gb 263 [] (.bool true):=by
  refine fC Tryz.func263 tv47 Tryz.ntmps263 fun w N H hG=>?_;refine gx tv47 9 ?_;refine call (If_ (⟨[],[]⟩:BookR) (⟨[97],1,[]⟩:ShopR)) rfl rfl fun w1=>?_;refine gm tv47 12 [0] fun B3=>?_;refine call (Gd_ _ (⟨[97],[113],false,[],[],false⟩:BindR)) rfl rfl fun w4=>?_;refine gm tv47 10 [] fun _=>?_;refine call (Gd_ _ (⟨[97],[113],false,[120],[],false⟩:BindR)) rfl rfl fun w6=>?_;refine gm tv47 10 [] fun _=>?_;refine call (Fn.le (H0_ _ _ _ []) (A_ (ple rfl) (A_ (ple rfl) (A_ (ple rfl) (A_ M_ V_)))) (ple rfl) rfl) rfl rfl fun w8=>?_;refine gx tv47 11 ?_;refine call Jn_ rfl rfl fun w9=>?_;refine gx tv47 1 ?_;refine ungd rfl rfl ?_;refine call l10_Awake rfl rfl fun w10=>?_;refine gx tv47 2 ?_;refine ungd rfl rfl ?_;refine gx tv47 1 ?_;refine ungd rfl rfl ?_;refine gx tv47 1 ?_;refine so_rt (t:=37) (p':= .bool true) (ple (congrArg PV.bool (show decide (((Av_ ((Av_ ((B3_ (⟨[],[]⟩:BookR) (⟨[97],1,[]⟩:ShopR)).1) (⟨[97],[113],false,[],[],false⟩:BindR)).1) (⟨[97],[113],false,[120],[],false⟩:BindR)).2)=0)=true by decide +kernel))) rfl ?_;refine gx tv47 2 ?_;refine ungd rfl rfl ?_;refine gx tv47 1 ?_;refine ungd rfl rfl ?_;refine gx tv47 1 ?_;refine so_rt (t:=41) (p':= .bool true) (ple (congrArg PV.bool (show decide (((As_ ((Av_ ((Av_ ((B3_ (⟨[],[]⟩:BookR) (⟨[97],1,[]⟩:ShopR)).1) (⟨[97],[113],false,[],[],false⟩:BindR)).1) (⟨[97],[113],false,[120],[],false⟩:BindR)).1) [97] [] []).2.2)=0)=true by decide +kernel))) rfl ?_;refine gx tv47 2 ?_;refine ungd rfl rfl ?_;refine gx tv47 1 ?_;refine ungd rfl rfl ?_;refine ef (bsl 1 strc [[113]] tv47 rfl rfl rfl rfl rfl (fun _=>rfl) rfl (by decide) (by decide) rfl fun u11=>?_);refine ungd rfl rfl ?_;refine ef (calll 1 rfl (eq_Str _ _) rfl rfl rfl fun w12=>?_);refine so_rt (t:=46) (p':= .bool true) (ple (congrArg PV.bool (show decide (((As_ ((Av_ ((Av_ ((B3_ (⟨[],[]⟩:BookR) (⟨[97],1,[]⟩:ShopR)).1) (⟨[97],[113],false,[],[],false⟩:BindR)).1) (⟨[97],[113],false,[120],[],false⟩:BindR)).1) [97] [] []).1)=[[113]])=true by decide +kernel))) rfl ?_;refine gx tv47 2 ?_;refine ungd rfl rfl ?_;refine gx tv47 1 ?_;refine ungd rfl rfl ?_;refine gx tv47 1 ?_;refine ungd rfl rfl ?_;refine gx tv47 1 ?_;refine so_rt (t:=51) (p':= .bool true) (ple (congrArg PV.bool (show decide ((((As_ ((Av_ ((Av_ ((B3_ (⟨[],[]⟩:BookR) (⟨[97],1,[]⟩:ShopR)).1) (⟨[97],[113],false,[],[],false⟩:BindR)).1) (⟨[97],[113],false,[120],[],false⟩:BindR)).1) [97] [] []).2.1).length:Int)=0)=true by decide +kernel))) rfl ?_;refine gx tv47 5 ?_;refine rt1 rfl rfl (ple ?_);exact congrArg PV.bool (by first|rfl|decide +kernel)
theorem l14_Awake:Fn Tryz.prog gb 187 [] (.bool true):=by
  refine fC Tryz.func187 tv47 Tryz.ntmps187 fun w N H hG=>?_;refine gx tv47 7 ?_;refine call l14_awake rfl rfl fun w1=>?_;refine gx tv47 4 ?_;refine rt1 rfl rfl (ple ?_)
  rfl
theorem l22_awake:Fn Tryz.prog gb 103 [] (.bool true):=by
  refine fC Tryz.func103 tv47 Tryz.ntmps103 fun w N H hG=>?_;refine gx tv47 8 ?_;refine call (Xp_ (⟨11,1,(⟨[],0,[]⟩:ShopR),(⟨[],0,0,[]⟩:QueueR),(⟨[],[],false,[],[],false⟩:BindR),[],0,0,0,0,0,(⟨0,[],[],[],[],0,0⟩:Mail),[]⟩:DeedR)) rfl rfl fun w1=>?_;have :=Qm_ (d:=(⟨11,1,(⟨[],0,[]⟩:ShopR),(⟨[],0,0,[]⟩:QueueR),(⟨[],[],false,[],[],false⟩:BindR),[],0,0,0,0,0,(⟨0,[],[],[],[],0,0⟩:Mail),[]⟩:DeedR)) (by first|omega|decide);have :=Ux_ (⟨11,1,(⟨[],0,[]⟩:ShopR),(⟨[],0,0,[]⟩:QueueR),(⟨[],[],false,[],[],false⟩:BindR),[],0,0,0,0,0,(⟨0,[],[],[],[],0,0⟩:Mail),[]⟩:DeedR);refine gx tv47 9 ?_;refine call Oc_ rfl rfl fun w2=>?_;refine gx tv47 1 ?_;refine ungd rfl rfl ?_;refine call l14_Awake rfl rfl fun w3=>?_;refine gx tv47 2 ?_;refine ungd rfl rfl ?_;refine gx tv47 1 ?_;refine ungd rfl rfl ?_;refine gx tv47 1 ?_;refine so_rt (t:=14) (p':= .bool true) (ple (congrArg PV.bool (show decide ((Ec_ (⟨11,1,(⟨[],0,[]⟩:ShopR),(⟨[],0,0,[]⟩:QueueR),(⟨[],[],false,[],[],false⟩:BindR),[],0,0,0,0,0,(⟨0,[],[],[],[],0,0⟩:Mail),[]⟩:DeedR))=0)=true by decide +kernel))) rfl ?_;refine gx tv47 2 ?_;refine ungd rfl rfl ?_;refine gx tv47 1 ?_;refine ungd rfl rfl ?_;refine gx tv47 1 ?_;refine ungd rfl rfl ?_;refine gx tv47 1 ?_;refine so_rt (t:=19) (p':= .bool true) (ple (congrArg PV.bool (show decide (((Aq_ (⟨11,1,(⟨[],0,[]⟩:ShopR),(⟨[],0,0,[]⟩:QueueR),(⟨[],[],false,[],[],false⟩:BindR),[],0,0,0,0,0,(⟨0,[],[],[],[],0,0⟩:Mail),[]⟩:DeedR)).length:Int)=9)=true by decide +kernel))) rfl ?_;refine gx tv47 5 ?_;refine rt1 rfl rfl (ple ?_);exact congrArg PV.bool (by first|rfl|decide +kernel)
theorem l22_Awake:Fn Tryz.prog gb 43 [] (.bool true):=by
  refine fC Tryz.func43 tv47 Tryz.ntmps43 fun w N H hG=>?_;refine gx tv47 7 ?_;refine call l22_awake rfl rfl fun w1=>?_;refine gx tv47 4 ?_;refine rt1 rfl rfl (ple ?_)
  rfl
end Go.SW.V
