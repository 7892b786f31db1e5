/-
  A part of the proof of SessionPieces: Runs of quiet steps with new blocks and stores among them: one computation, proved once; rules whose plain conditions need not be written. Over any program that the table fits; each asks what it lists. The walks of this seat, printed by program: stairwellref04.letter, words.plain, words.Name. The walks of this seat, printed by program: octet.Out.Num, octet.Out.Raw, octet.Out.String, octet.Out.Text. The walks of this seat, printed by program: octet.New, octet.In.Fail, octet.In.Raw. The walks of this seat, printed by program: strings.Split, words.Split, words.key, words.Key. The walks of this seat, printed by program: api.Pair], head.Same, api.Pair], head.Find$1, head.Find, head.pair, head.Check. The walks of this seat, printed by program: deed.sameBind, deed.bit. The walks of this seat, printed by program: octet.In.Num, octet.In.Text, octet.In.Left, octet.In.Err, octet.In.End. The walks of this seat, printed by program: words.Matches, words.Pattern. The walks of this seat, printed by program: head.Bytes, head.one, head.Read. The walks of this seat, printed by program: crc.Step, crc.Sum, frame.Bytes, frame.Parse. The walks of this seat, printed by program: reply.blank, reply.Reply.spare, reply.mail, reply.Reply.Check, reply.Reply.Frame. The walks of this seat, printed by program: feed.Feed.Take, feed.Feed.Rest, feed.Feed.Err. The walks of this seat, printed by program: mail.Check, mail.Bytes, draft.Life, stairwellref26.Life, deed.maybe, deed.bound, mail.Same, deed.Same. The walks of this seat, printed by program: deed.Deed.told, deed.first, deed.Deed.Check. The walks of this seat, printed by program: deed.Deed.Bytes. The walks of this seat, printed by program: stairwellref04.Name, stairwellref04.Split, stairwellref04.Key. The walks of this seat, printed by program: stairwellref09.Pair, stairwellref09.Check, stairwellref09.Same. The walks of this seat, printed by program: stairwelllaw09.Light, stairwelllaw12.To, stairwelllaw13.Light, stairwelllaw22.Light, stairwelllaw14.To, stairwelllaw22.To. The walks of this seat, printed by program: stairwellref13.Same, stairwellref14.SameBind, stairwellref22.Same, stairwellref22.names, stairwellref22.maybe, stairwellref22.spare, stairwellref22.checkBind, stairwellref13.Check, stairwellref22.Check. The walks of this seat, printed by program: match.Rule.Check, match.Rule.heads, match.Rule.Goes, match.Same. The walks of this seat, printed by program: slices.Equal[[]string,string], slices.Index[[]string,string], slices.Contains[[]string,string], route.Shop.check, route.Book.Shop. The walks of this seat, printed by program: route.Bind.rule, route.Bind.same, api.Pair], route.Bind.clone, route.Bind]. The walks of this seat, printed by program: stairwelllaw01.awake, stairwelllaw01.Awake, stairwelllaw04.awake, stairwelllaw04.Awake, stairwelllaw09.awake, stairwelllaw09.Awake, stairwelllaw10.awake, stairwelllaw10.Awake, stairwelllaw13.awake, stairwelllaw13.Awake. The walks of this seat, printed by program: stairwelllaw02.a
-/
import Derived.Test.YtifcilncaepeoaaGreatDoorSessionPiecesP3
import Derived.KernelRfl
import Derived.Test.YtifcilncaepeoaaGreatDoorProg
import Derived.Test.YtifcilncaepeoaaGreatDoorSessionPiecesP2
set_option linter.unusedVariables false
set_option linter.unusedSimpArgs false
namespace Go.SW.V
open Go.SW
variable {P:Program} {n:Nat} {N:Rest} {H0:Env} {all rest:List Oper} {Q:Qs} {ks:List Kt} {fF:Nat→PV} {fL:Nat→Blk} {T ty d:Nat} {pos:String} {af:Array Edge} {x y z:Operand} {K:St→Prop}
structure EfR where
  F:Nat→PV
  L:Nat→Blk
  eq:Option (Nat×Nat)
def mkE (tb:Tb) (n:Nat) (i b:Nat) (F:Nat→PV) (L:Nat→Blk) (o:Oper):Option EfR:=
  match o.guard with
  | some _=>none
  | none=>match o.dst with
    | none=>none
    | some d=>match Nat.blt d n with
      | false=>none
      | true=>match o.op with
        | .alloc T=>match lkT tb T with
          | some ti=>match evL ti.zero with
            | some zs=>match A6_ zs with
              | true=>some ⟨updp F d (.own i b 0),lups L i (.box b T zs),none⟩
              | false=>none
            | none=>none
          | none=>none
        | .box T x=>match evP F x with
          | .agg cs=>match A6_ cs with
            | true=>some ⟨updp F d (.own i b 0),lups L i (.box b T cs),none⟩
            | false=>none
          | v=>match evS v with
            | some p=>match p.one with
              | true=>some ⟨updp F d (.own i b 0),lups L i (.box b T [p]),none⟩
              | false=>none
            | none=>none
        | _=>none
def stE (tb:Tb) (F:Nat→PV) (L:Nat→Blk) (o:Oper):Option EfR:=
  match o.guard with
  | some _=>none
  | none=>match o.dst with
    | some _=>none
    | none=>match o.op with
      | .store T x y=>match evP F x with
        | .own i b off=>match L i with
          | .box b' T0 cs=>match lkT tb T with
            | some ti=>match evP F y with
              | .agg ps=>match A6_ ps with
                | true=>match all1 ps with
                  | true=>match Nat.beq ps.length ti.size with
                    | true=>match Nat.ble (off+ti.size) cs.length with
                      | true=>match evL (cs.take off++(ps++cs.drop (off+ti.size))) with
                        | some cs'=>some ⟨F,lups L i (.box b T0 cs'),some (b',b)⟩
                        | none=>none
                      | false=>none
                    | false=>none
                  | false=>none
                | false=>none
              | v=>match Nat.beq ti.size 1 with
                | true=>match evS v with
                  | some p=>match p.one with
                    | true=>match Nat.blt off cs.length with
                      | true=>match evL (cs.set off p) with
                        | some cs'=>some ⟨F,lups L i (.box b T0 cs'),some (b',b)⟩
                        | none=>none
                      | false=>none
                    | false=>none
                  | none=>none
                | false=>none
            | none=>none
          | _=>none
        | _=>none
      | _=>none
def kindE (o:Op):Nat:=
  match o with
  | .alloc _=>0
  | .box _ _=>0
  | .store _ _ _=>1
  | _=>2
def runE (tb:Tb) (n:Nat):Nat→List Nat→(Nat→Nat)→Cf→List Kt→(Nat→PV)→(Nat→Blk)→List Prop→List Nat→List Nat→Option RR
  | 0,_,_,c,ks,F,L,ps,as0,bs=>frcP ps fun ps=>frcN as0 fun as0=>frcN bs fun bs=>some ⟨c,ks,F,L,ps,as0,bs⟩
  | k+1,is,B,c,ks,F,L,ps,as0,bs=>
    match c with
    | .ops all (o::rest)=>match kindE o.op with
      | 0=>match is with
        | []=>none
        | i::is=>match mkE tb n i (B 0) F L o with
          | some ⟨F,L,_⟩=>runE tb n k is (fun i=>B (i+1)) (.ops all rest) ks F L ps as0 bs
          | none=>none
      | 1=>match stE tb F L o with
        | some ⟨F,L,e⟩=>match e with
          | some (a,b)=>runE tb n k is B (.ops all rest) ks F L ps (a::as0) (b::bs)
          | none=>none
        | none=>none
      | _=>match run tb n 1 (.ops all (o::rest)) ks F L ps as0 bs with
        | some ⟨c,ks,F,L,ps,as0,bs⟩=>runE tb n k is B c ks F L ps as0 bs
        | none=>none
    | c=>match run tb n 1 c ks F L ps as0 bs with
      | some ⟨c,ks,F,L,ps,as0,bs⟩=>runE tb n k is B c ks F L ps as0 bs
      | none=>none
theorem mkE_ok {tb:Tb} (ht:tbB P tb=true) {i:Nat} {F:Nat→PV} {L:Nat→Blk} {o:Oper} (h:∀ b,∃ r,mkE tb n i b F L o=some r∧Hd P n N H0 Q (.ops all rest) ks ⟨r.F,r.L⟩):Hd P n N H0 Q (.ops all (o::rest)) ks ⟨F,L⟩:=by
  obtain ⟨dst,op,ty,pos,af,g⟩:=o
  have h0:=h 0
  cases g with
  | some q=>obtain ⟨r,h1,_⟩:=h0;simp [mkE] at h1
  | none=>
    cases dst with
    | none=>obtain ⟨r,h1,_⟩:=h0;simp [mkE] at h1
    | some d=>
      cases hd:Nat.blt d n with
      | false=>obtain ⟨r,h1,_⟩:=h0;simp [mkE,hd] at h1
      | true=>
        cases op with
        | alloc T=>
          simp only [mkE,hd] at h
          cases hti:lkT tb T with
          | none=>rw [hti] at h;obtain ⟨r,h1,_⟩:=h 0;simp at h1
          | some ti=>
            rw [hti] at h
            simp only at h
            cases hz:evL ti.zero with
            | none=>rw [hz] at h;obtain ⟨r,h1,_⟩:=h 0;simp at h1
            | some zs=>
              rw [hz] at h
              simp only at h
              cases hn:A6_ zs with
              | false=>rw [hn] at h;obtain ⟨r,h1,_⟩:=h 0;simp at h1
              | true=>
                rw [hn] at h
                refine ef (alloc ht i hti hz hn hd fun b=>?_)
                obtain ⟨r,h1,h2⟩:=h b
                simp only [Option.some.injEq] at h1
                subst h1;exact h2
        | box T x=>
          simp only [mkE,hd] at h
          split at h
          · rename_i cs hx
            cases hn:A6_ cs with
            | false=>rw [hn] at h;obtain ⟨r,h1,_⟩:=h 0;simp at h1
            | true=>
              rw [hn] at h
              refine ef (boxA i hx hn hd fun b=>?_)
              obtain ⟨r,h1,h2⟩:=h b
              simp only [Option.some.injEq] at h1
              subst h1;exact h2
          · cases hs:evS (evP F x) with
            | none=>rw [hs] at h;obtain ⟨r,h1,_⟩:=h 0;simp at h1
            | some p=>
              rw [hs] at h
              simp only at h
              cases ho:p.one with
              | false=>rw [ho] at h;obtain ⟨r,h1,_⟩:=h 0;simp at h1
              | true=>
                rw [ho] at h
                refine ef (box1 i hs ho hd fun b=>?_)
                obtain ⟨r,h1,h2⟩:=h b
                simp only [Option.some.injEq] at h1
                subst h1;exact h2
        | _=>obtain ⟨r,h1,_⟩:=h0;simp [mkE,hd] at h1
theorem stE_ok {tb:Tb} (ht:tbB P tb=true) {F:Nat→PV} {L:Nat→Blk} {o:Oper} {r:EfR} (h:stE tb F L o=some r) (he:∀ q,r.eq=some q→q.1=q.2) (k:Hd P n N H0 Q (.ops all rest) ks ⟨r.F,r.L⟩):Hd P n N H0 Q (.ops all (o::rest)) ks ⟨F,L⟩:=by
  obtain ⟨dst,op,ty,pos,af,g⟩:=o
  cases g with
  | some q=>simp [stE] at h
  | none=>
    cases dst with
    | some d=>simp [stE] at h
    | none=>
      cases op with
      | store T x y=>
        simp only [stE] at h
        split at h
        · rename_i i b off hx
          split at h
          · rename_i b' T0 cs hb
            split at h
            · rename_i ti hti
              split at h
              · rename_i ps hy
                split at h
                · rename_i hn
                  split at h
                  · rename_i ho
                    split at h
                    · rename_i hsz
                      split at h
                      · rename_i hl
                        split at h
                        · rename_i cs' hc
                          simp only [Option.some.injEq] at h
                          subst h
                          exact ef (storeA ht hx hb hti hy hn ho (Nat.eq_of_beq_eq_true hsz) hl (he _ rfl) hc k)
                        · cases h
                      · cases h
                    · cases h
                  · cases h
                · cases h
              · split at h
                · rename_i hsz
                  split at h
                  · rename_i p hs
                    split at h
                    · rename_i ho
                      split at h
                      · rename_i hl
                        split at h
                        · rename_i cs' hc
                          simp only [Option.some.injEq] at h
                          subst h
                          exact ef (store1 ht hx hb hti (Nat.eq_of_beq_eq_true hsz) hs ho hl (he _ rfl) hc k)
                        · cases h
                      · cases h
                    · cases h
                  · cases h
                · cases h
            · cases h
          · cases h
        · cases h
      | _=>simp [stE] at h
def okR (P:Program) (n:Nat) (N:Rest) (H0:Env) (Q:Qs) (r:RR):Prop:=AllP r.ps∧r.as0=r.bs∧Hd P n N H0 Q r.c r.ks ⟨r.F,r.L⟩
theorem runE_ok {tb:Tb} (ht:tbB P tb=true):∀ (k:Nat) (is:List Nat) (c:Cf) (ks:List Kt) (F:Nat→PV) (L:Nat→Blk) (ps:List Prop) (as0 bs:List Nat),(∀ B:Nat→Nat,∃ r,runE tb n k is B c ks F L ps as0 bs=some r∧okR P n N H0 Q r)→AllP ps∧as0=bs∧Hd P n N H0 Q c ks ⟨F,L⟩:=by
  intro k
  induction k with
  | zero=>
    intro is c ks F L ps as0 bs h
    obtain ⟨r,h1,h2,h3,h4⟩:=h (fun _=>0)
    simp only [runE,Kn_,Mn_,Option.some.injEq] at h1
    subst h1
    exact ⟨h2,h3,h4⟩
  | succ k ih=>
    intro is c ks F L ps as0 bs h
    have one:(∀ B:Nat→Nat,∃ r,(match run tb n 1 c ks F L ps as0 bs with
        | some ⟨c,ks,F,L,ps,as0,bs⟩=>runE tb n k is B c ks F L ps as0 bs
        | none=>none)=some r∧okR P n N H0 Q r)→AllP ps∧as0=bs∧Hd P n N H0 Q c ks ⟨F,L⟩:=by
      intro h
      cases hr:run tb n 1 c ks F L ps as0 bs with
      | none=>obtain ⟨r,h1,_⟩:=h (fun _=>0);rw [hr] at h1;cases h1
      | some q=>
        obtain ⟨c',ks',F',L',ps',as',bs'⟩:=q
        obtain ⟨i1,i2,i3⟩:=ih is c' ks' F' L' ps' as' bs' (fun B=>by obtain ⟨r,h1,h2⟩:=h B;rw [hr] at h1;exact ⟨r,h1,h2⟩)
        obtain ⟨j1,j2,j3⟩:=Uo_ ht (Q:=Q) (N:=N) (H0:=H0) 1 c ks F L ps as0 bs _ hr i1 i2
        exact ⟨j1,j2,j3 i3⟩
    cases c with
    | code c=>exact one h
    | ex e=>exact one h
    | ops all l=>
      cases l with
      | nil=>exact one h
      | cons o rest=>
        simp only [runE] at h
        split at h
        · cases is with
          | nil=>obtain ⟨r,h1,_⟩:=h (fun _=>0);cases h1
          | cons i is=>
            have hb:∀ b,∃ r,mkE tb n i b F L o=some r∧AllP ps∧as0=bs∧Hd P n N H0 Q (.ops all rest) ks ⟨r.F,r.L⟩:=by
              intro b
              cases hm:mkE tb n i b F L o with
              | none=>obtain ⟨r,h1,_⟩:=h (fun _=>b);simp only [hm] at h1;cases h1
              | some q=>
                obtain ⟨F',L',e⟩:=q
                refine ⟨_,rfl,ih is (.ops all rest) ks F' L' ps as0 bs fun B=>?_⟩
                obtain ⟨r,h1,h2⟩:=h (fun j=>match j with | 0=>b | j+1=>B j)
                simp only [hm] at h1
                exact ⟨r,h1,h2⟩
            obtain ⟨_,_,q1,q2,_⟩:=hb 0
            exact ⟨q1,q2,mkE_ok ht fun b=>by obtain ⟨r,h1,_,_,h2⟩:=hb b;exact ⟨r,h1,h2⟩⟩
        · cases hs:stE tb F L o with
          | none=>obtain ⟨r,h1,_⟩:=h (fun _=>0);rw [hs] at h1;cases h1
          | some q=>
            obtain ⟨F',L',e⟩:=q
            cases e with
            | none=>obtain ⟨r,h1,_⟩:=h (fun _=>0);rw [hs] at h1;cases h1
            | some ab=>
              obtain ⟨a,b⟩:=ab
              obtain ⟨i1,i2,i3⟩:=ih is (.ops all rest) ks F' L' ps (a::as0) (b::bs) (fun B=>by obtain ⟨r,h1,h2⟩:=h B;rw [hs] at h1;exact ⟨r,h1,h2⟩)
              simp only [List.cons.injEq] at i2
              exact ⟨i1,i2.2,stE_ok ht hs (fun q hq=>by cases hq;exact i2.1) i3⟩
        · exact one h
theorem gmp {tb:Tb} (ht:tbB P tb=true) (k:Nat) (is:List Nat) {c c':Cf} {ks':List Kt} {F':(Nat→Nat)→Nat→PV} {L':(Nat→Nat)→Nat→Blk} {ps:(Nat→Nat)→List Prop} {as0 bs:(Nat→Nat)→List Nat} (h:∀ B,runE tb n k is B c ks fF fL [] [] []=some ⟨c',ks',F' B,L' B,ps B,as0 B,bs B⟩) (he:∀ B,as0 B=bs B) (hp:∀ B,AllP (ps B)) (next :∀ B:Nat→Nat,Hd P n N H0 Q c' ks' ⟨F' B,L' B⟩):Hd P n N H0 Q c ks ⟨fF,fL⟩:=
  (runE_ok ht k is c ks fF fL [] [] [] fun B=>⟨_,h B,hp B,he B,next B⟩).2.2
theorem gx {tb:Tb} (ht:tbB P tb=true) (k:Nat) {c c':Cf} {ks':List Kt} {F':Nat→PV} {L':Nat→Blk} {as0 bs:List Nat} (next :Hd P n N H0 Q c' ks' ⟨F',L'⟩) (h:run tb n k c ks fF fL [] [] []=some ⟨c',ks',F',L',[],as0,bs⟩:=by exact rfl) (he:as0=bs:=by exact rfl):Hd P n N H0 Q c ks ⟨fF,fL⟩:=go ht k h he trivial next
theorem gm {tb:Tb} (ht:tbB P tb=true) (k:Nat) (is:List Nat) {c c':Cf} {ks':List Kt} {F':(Nat→Nat)→Nat→PV} {L':(Nat→Nat)→Nat→Blk} {as0 bs:(Nat→Nat)→List Nat} (next :∀ B:Nat→Nat,Hd P n N H0 Q c' ks' ⟨F' B,L' B⟩) (h:∀ B,runE tb n k is B c ks fF fL [] [] []=some ⟨c',ks',F' B,L' B,[],as0 B,bs B⟩:=by exact fun _=>rfl) (he:∀ B,as0 B=bs B:=by exact fun _=>rfl):Hd P n N H0 Q c ks ⟨fF,fL⟩:=gmp ht k is h he (fun _=>trivial) next
abbrev jIn (xs:List Nat) (j:Option Nat):Bool:=match j with | none=>true | some j=>memB xs j
theorem sA {tb:Tb} {ti:TI} {i b b' off T0:Nat} {cs ps cs':List PV} (ht:tbB P tb=true) (k:K ⟨fF,lups fL i (.box b T0 cs')⟩) (hx:evP fF x = .own i b off:=by exact rfl) (hb:fL i = .box b' T0 cs:=by exact rfl) (hti:lkT tb T=some ti:=by exact rfl) (hy:evP fF y = .agg ps:=by exact rfl) (hn:A6_ ps=true:=by exact rfl) (ho:all1 ps=true:=by exact rfl) (hsz:ps.length=ti.size:=by exact rfl) (hl:Nat.ble (off+ti.size) cs.length=true:=by exact rfl) (hbb:b'=b:=by exact rfl) (hc:evL (cs.take off++(ps++cs.drop (off+ti.size)))=some cs':=by exact rfl):E1 P n N H0 all ⟨none, .store T x y,ty,pos,af,none⟩ (some i) ⟨fF,fL⟩ K:=storeA ht hx hb hti hy hn ho hsz hl hbb hc k
theorem sO {tb:Tb} {ti:TI} {i b b' off T0:Nat} {cs cs':List PV} {p:PV} (ht:tbB P tb=true) (k:K ⟨fF,lups fL i (.box b T0 cs')⟩) (hx:evP fF x = .own i b off:=by exact rfl) (hb:fL i = .box b' T0 cs:=by exact rfl) (hti:lkT tb T=some ti:=by exact rfl) (hsz:ti.size=1:=by exact rfl) (hy:evS (evP fF y)=some p:=by exact rfl) (ho:p.one=true:=by exact rfl) (hl:Nat.blt off cs.length=true:=by exact rfl) (hbb:b'=b:=by exact rfl) (hc:evL (cs.set off p)=some cs':=by exact rfl):E1 P n N H0 all ⟨none, .store T x y,ty,pos,af,none⟩ (some i) ⟨fF,fL⟩ K:=store1 ht hx hb hti hsz hy ho hl hbb hc k
theorem aL {tb:Tb} {ti:TI} {zs:List PV} (ht:tbB P tb=true) (i:Nat) (k:∀ b,K ⟨updp fF d (.own i b 0),lups fL i (.box b T zs)⟩) (hti:lkT tb T=some ti:=by exact rfl) (hz:evL ti.zero=some zs:=by exact rfl) (hn:A6_ zs=true:=by exact rfl) (hd:Nat.blt d n=true:=by exact rfl):E1 P n N H0 all ⟨some d, .alloc T,ty,pos,af,none⟩ (some i) ⟨fF,fL⟩ K:=alloc ht i hti hz hn hd k
theorem eC {f:FuncId} {args:List PV} {res:PV} {as0:Array Operand} {ats:Array TypeId} (h:Fn P H0.g f args res) (ha:argsP fF x as0.toList=some (f,args)) (k:res.wf→K ⟨updp fF d res,fL⟩) (hd:Nat.blt d n=true:=by exact rfl):E1 P n N H0 all ⟨some d, .call ⟨.value x,as0,ats⟩,ty,pos,af,none⟩ none ⟨fF,fL⟩ K:=ecall h ha hd k
theorem vE {xs:List Nat} {fuel:Nat} {listed:Array Bool} {o:Oper} {j:Option Nat} (i:Nat) (hi:nth all i=some o) (h:E1 P n N H0 all o j ⟨fF,fL⟩ (fun s'=>Hv P n N H0 Q (some xs) all fuel (listed.setIfInBounds i true) ks s')) (hr:Region.ready .any all.toArray listed=[i]:=by kernel_rfl) (hj:jIn xs j=true:=by exact rfl):Hv P n N H0 Q (some xs) all (fuel+1) listed ks ⟨fF,fL⟩:=ve i hi hr hj h
theorem vT {xs:Option (List Nat)} {fuel:Nat} {listed:Array Bool} {o:Oper} {j:Option Nat} (i:Nat) (hi:nth all i=some o) (h:E1 P n N H0 all o j ⟨fF,fL⟩ (fun s'=>Hv P n N H0 Q none all fuel (listed.setIfInBounds i true) ks s')) (hr:Region.ready .any all.toArray listed=[i]:=by kernel_rfl) (ht:R4_ all listed i=true:=by kernel_rfl):Hv P n N H0 Q xs all (fuel+1) listed ks ⟨fF,fL⟩:=vt i hi hr ht h
theorem vD {xs:Option (List Nat)} {fuel:Nat} {listed:Array Bool} (k:Hd P n N H0 Q (.ex .normal) ks ⟨fF,fL⟩) (h:Region.ready .any all.toArray listed=[]:=by kernel_rfl):Hv P n N H0 Q xs all fuel listed ks ⟨fF,fL⟩:=vdone h k
theorem aN (xs:List Nat) (m:Nat) {id:Nat} {ops:Array Oper} (hmx:P.follows .mixedOrders=true) (h:Hv P n N H0 Q (some xs) ops.toList m (Array.replicate m false) ks ⟨fF,fL⟩) (hm:ops.toList.length=m:=by exact rfl):Hd P n N H0 Q (.code (.region id ops true)) ks ⟨fF,fL⟩:=any xs m hmx hm h
theorem gX {tb:Tb} (ht:tbB P tb=true) (order:List Nat) (f:Nat) {xs:Option (List Nat)} {fuel:Nat} {listed:Array Bool} {F':Nat→PV} {L':Nat→Blk} {as0 bs:List Nat} (next :Hv P n N H0 Q xs all f (lst listed order) ks ⟨F',L'⟩) (hf:fuel=f+order.length:=by exact rfl) (hc:chkV n all order listed=true:=by kernel_rfl) (h:runV tb xs all order fF fL [] [] []=some ⟨F',L',[],as0,bs⟩:=by exact rfl) (he:as0=bs:=by exact rfl):Hv P n N H0 Q xs all fuel listed ks ⟨fF,fL⟩:=gov ht order f hf hc h he trivial next
theorem vC {xs:Option (List Nat)} {fuel:Nat} {listed:Array Bool} {f:FuncId} {args:List PV} {res:PV} {as0:Array Operand} {ats:Array TypeId} (i:Nat) (hi:nth all i=some ⟨some d, .call ⟨.value x,as0,ats⟩,ty,pos,af,none⟩) (h:Fn P H0.g f args res) (ha:argsP fF x as0.toList=some (f,args)) (k:res.wf→Hv P n N H0 Q xs all fuel (listed.setIfInBounds i true) ks ⟨updp fF d res,fL⟩) (hck:(rdB all listed i&&apB n all listed i ⟨some d, .call ⟨.value x,as0,ats⟩,ty,pos,af,none⟩&&Nat.blt d n&&nosB (.call ⟨.value x,as0,ats⟩))=true:=by kernel_rfl) (hf:res.flat=true:=by exact rfl):Hv P n N H0 Q xs all (fuel+1) listed ks ⟨fF,fL⟩:=vcall i hi hck h hf ha k
theorem nX {ι:Type _} {keep kL:List Nat} {G:Nat→PV} {GL:Nat→Blk} {lv:ι→List (Nat×PV)} {lL:ι→List (Nat×Blk)} {Φ:ι→Prop} {μ:ι→Nat} {m:Nat} {ks:List Kt} {Q:Qs} (x':ι) (hΦ:Φ x') (h3:AllF fF (lv x')) (h4:AllL fL (lL x')) (h1:keep.map fF=keep.map G:=by exact rfl) (h2:kL.map fL=kL.map GL:=by exact rfl) (hm:μ x'<m:=by decide):Hd P n N H0 Q (.ex .normal) (.lp (LJ (fun x=>⟨mkF (lv x) keep G,mkL (lL x) kL GL⟩) Φ μ m)::ks) ⟨fF,fL⟩:=next x' h1 h2 h3 h4 hm hΦ
theorem cE {α:Type} {v a b:α} {c:Operand} {p q:Code} {t:Bool} (e:v = bif t then a else b) (ht:t=true→v=a→Hd P n N H0 Q (.code p) ks ⟨fF,fL⟩) (hf:t=false→v=b→Hd P n N H0 Q (.code q) ks ⟨fF,fL⟩) (hc:evP fF c = .bool t:=by exact rfl):Hd P n N H0 Q (.code (.cond c p q)) ks ⟨fF,fL⟩:=cnd hc (fun h=>ht h (e.trans (by rw [h];rfl))) (fun h=>hf h (e.trans (by rw [h];rfl)))
theorem cD {α:Type} {v a b:α} {c:Operand} {p q:Code} {t:Prop} [Decidable t] (e:v = bif decide t then a else b) (ht:t→v=a→Hd P n N H0 Q (.code p) ks ⟨fF,fL⟩) (hf:¬t→v=b→Hd P n N H0 Q (.code q) ks ⟨fF,fL⟩) (hc:evP fF c = .bool (decide t):=by exact rfl):Hd P n N H0 Q (.code (.cond c p q)) ks ⟨fF,fL⟩:=cE e (fun h=>ht (of_decide_eq_true h)) (fun h=>hf (of_decide_eq_false h)) hc
theorem cN {α:Type} {v a b:α} {c:Operand} {p q:Code} {t:Prop} [Decidable t] (e:v = bif !decide t then a else b) (ht:¬t→v=a→Hd P n N H0 Q (.code p) ks ⟨fF,fL⟩) (hf:t→v=b→Hd P n N H0 Q (.code q) ks ⟨fF,fL⟩) (hc:evP fF c = .bool (!decide t):=by exact rfl):Hd P n N H0 Q (.code (.cond c p q)) ks ⟨fF,fL⟩:=cE e (fun h=>ht (by simpa using h)) (fun h=>hf (by simpa using h)) hc
theorem fC {tb:Tb} {G:Gb} {m:Nat} {f:FuncId} {fn:Func} {c:Code} {args:List PV} {res:PV} (hf:P.funcs[f]? = some fn) (ht:tbB P tb=true) (hn:fn.ntmps=m) (h:PV.wfs args→∀ N H,G.p H→Hd P m N ⟨H,G⟩ (rtK tb fn.results.toList res) (.code c) [] ⟨Ka_ args,fun _=> .no⟩) (hb:fn.body=some c:=by exact rfl) (hs:Nat.ble args.length m=true:=by exact rfl) (h1:(fn.name == "runtime.NumGoroutine")=false:=by kernel_rfl) (h2:fn.body.isNone=false:=by kernel_rfl) (hno:res.noOsl=true:=by exact rfl) (hna:A6_ args=true:=by exact rfl):Fn P G f args res:=fn_cw ht hf hb hn hs (S_ hf h1 h2) hno hna h
variable {tb:Tb} {rs:List ResultVar} {as0 bs:List Nat} {res q0 q1 q2 q3:PV}
theorem qr1 (h:Du_ tb ⟨fF,fL⟩ rs=some ([q0],as0,bs):=by exact rfl) (he:as0=bs:=by exact rfl) (hp:PLe q0 res:=by exact ple rfl):Hd P n N H0 (rtK tb rs res) (.ex .ret) [] ⟨fF,fL⟩:=rt1 h he hp
theorem qr2 (h:Du_ tb ⟨fF,fL⟩ rs=some ([q0,q1],as0,bs):=by exact rfl) (he:as0=bs:=by exact rfl) (hp:PLe (.tup [q0,q1]) res:=by exact ple rfl):Hd P n N H0 (rtK tb rs res) (.ex .ret) [] ⟨fF,fL⟩:=rt2 h he hp
theorem qr3 (h:Du_ tb ⟨fF,fL⟩ rs=some ([q0,q1,q2],as0,bs):=by exact rfl) (he:as0=bs:=by exact rfl) (hp:PLe (.tup [q0,q1,q2]) res:=by exact ple rfl):Hd P n N H0 (rtK tb rs res) (.ex .ret) [] ⟨fF,fL⟩:=rt3 h he hp
theorem qr4 (h:Du_ tb ⟨fF,fL⟩ rs=some ([q0,q1,q2,q3],as0,bs):=by exact rfl) (he:as0=bs:=by exact rfl) (hp:PLe (.tup [q0,q1,q2,q3]) res:=by exact ple rfl):Hd P n N H0 (rtK tb rs res) (.ex .ret) [] ⟨fF,fL⟩:=rt4 h he hp
theorem cV {α β:Type} {v:β} {g:α} {kf:α→β} {f:FuncId} {args:List PV} {xs:Array Operand} {ats:Array TypeId} (e:v=lt g kf) (enc:α→PV) (h:Fn P H0.g f args (enc g)) (ha:argsP fF x xs.toList=some (f,args)) (k:∀ r,r=g→v=kf r→(enc r).wf→Hd P n N H0 Q (.ops all rest) ks ⟨updp fF d (enc r),fL⟩) (hd:Nat.blt d n=true:=by exact rfl):Hd P n N H0 Q (.ops all (⟨some d, .call ⟨.value x,xs,ats⟩,ty,pos,af,none⟩::rest)) ks ⟨fF,fL⟩:=
  callv g enc h ha hd fun r hr w=>k r hr (e.trans (C0_ hr)) w
theorem gy {tb:Tb} (ht:tbB P tb=true) (k:Nat) {c c':Cf} {ks':List Kt} {F':Nat→PV} {L':Nat→Blk} {ps:List Prop} {as0 bs:List Nat} (next :Hd P n N H0 Q c' ks' ⟨F',L'⟩) (h:run tb n k c ks fF fL [] [] []=some ⟨c',ks',F',L',ps,as0,bs⟩:=by exact rfl) (he:as0=bs:=by exact rfl) (hp:AllP ps:=by repeat' (first | exact trivial | refine And.intro ?_ ?_ | exact fun hc=>hc | exact rfl | exact fun hc=>rfl | omega | (intro hc;omega) | (intro hc;rw [hc];rfl))):Hd P n N H0 Q c ks ⟨fF,fL⟩:=go ht k h he hp next
theorem gmy {tb:Tb} (ht:tbB P tb=true) (k:Nat) (is:List Nat) {c c':Cf} {ks':List Kt} {F':(Nat→Nat)→Nat→PV} {L':(Nat→Nat)→Nat→Blk} {ps:(Nat→Nat)→List Prop} {as0 bs:(Nat→Nat)→List Nat} (next :∀ B:Nat→Nat,Hd P n N H0 Q c' ks' ⟨F' B,L' B⟩) (h:∀ B,runE tb n k is B c ks fF fL [] [] []=some ⟨c',ks',F' B,L' B,ps B,as0 B,bs B⟩:=by exact fun _=>rfl) (he:∀ B,as0 B=bs B:=by exact fun _=>rfl) (hp:∀ B,AllP (ps B):=by intro B;repeat' (first | exact trivial | refine And.intro ?_ ?_ | exact fun hc=>hc | exact rfl | exact fun hc=>rfl | omega | (intro hc;omega) | (intro hc;rw [hc];rfl))):Hd P n N H0 Q c ks ⟨fF,fL⟩:=gmp ht k is h he hp next
theorem gXy {tb:Tb} (ht:tbB P tb=true) (order:List Nat) (f:Nat) {xs:Option (List Nat)} {fuel:Nat} {listed:Array Bool} {F':Nat→PV} {L':Nat→Blk} {ps:List Prop} {as0 bs:List Nat} (next :Hv P n N H0 Q xs all f (lst listed order) ks ⟨F',L'⟩) (hf:fuel=f+order.length:=by exact rfl) (hc:chkV n all order listed=true:=by kernel_rfl) (h:runV tb xs all order fF fL [] [] []=some ⟨F',L',ps,as0,bs⟩:=by exact rfl) (he:as0=bs:=by exact rfl) (hp:AllP ps:=by repeat' (first | exact trivial | refine And.intro ?_ ?_ | exact fun hc=>hc | exact rfl | exact fun hc=>rfl | omega | (intro hc;omega) | (intro hc;rw [hc];rfl))):Hv P n N H0 Q xs all fuel listed ks ⟨fF,fL⟩:=gov ht order f hf hc h he hp next
end Go.SW.V
set_option linter.unusedVariables false
set_option maxRecDepth 100000
set_option maxHeartbeats 4000000
namespace Go.SW.V
open Go.SW Go.Proofs
def gb:Gb:=⟨fun H=>GInt H 2∧GTab H 1 laidT∧GStrs H 0 tellsT,fun H H' hl h=>⟨h.1.mono hl,h.2.1.mono hl,h.2.2.mono hl⟩⟩
theorem gbML {H:Hp} (h:gb.p H):GInt H 2:=h.1
theorem gbCrc {H:Hp} (h:gb.p H):GTab H 1 laidT:=h.2.1
theorem Mp_ {H:Hp} (h:gb.p H):GStrs H 0 tellsT:=h.2.2
abbrev ty9:TI:=⟨.str,1,16,[.str []]⟩
def tbv1:Tb:=[(9,ty9)]
theorem tv1:tbB Tryz.prog tbv1=true:=by kernel_rfl
theorem Le_ (s:Bs):Fn Tryz.prog gb 232 [.str s] (.bool (plain s)):=by
  refine fC Tryz.func232 tv1 Tryz.ntmps232 fun w N H hG=>?_;have s_l:s.length≤9223372036854775807:=w.1;refine gx tv1 14 ?_;refine loop (ι:=Nat) [0,5,6] [] (fun k=>[(7, .int .i64 (k:Int))]) (fun k=>[]) (fun k=>k≤s.length∧(s.drop k).all (fun c=>letter c.toNat)=plain s) (fun k=>s.length-k) 0 ⟨rfl,trivial⟩ trivial ?_ ?_
  · exact ⟨by omega,rfl⟩
  rintro k hp1;obtain ⟨hk1,hk2⟩:=hp1;refine gx tv1 6 ?_;refine cnd rfl (fun h2=>?_) (fun h2=>?_)
  · have p3:=dt h2;have :=u8r (s.getD k 0);refine gx tv1 14 ?_;refine q1 (sidx tv1 k rfl rfl rfl rfl rfl (by omega)) rfl fun w4=>?_;refine gy tv1 16 ?_;refine cnd rfl (fun h5=>?_) (fun h5=>?_)
    · have h6:=bl h5;have p7:=dt h6;have h8:=br h5;have p9:=dt h8;refine gx tv1 2 ?_;refine cndT rfl h5 ?_;refine gy tv1 8 ?_;refine next (k+1) rfl rfl ⟨rfl,trivial⟩ trivial ?_ ?_
      · omega
      exact ⟨by omega,by rw [← hk2,Dx_ (k:=k) (by omega),List.all_cons];generalize ((s.getD k 0).toNat:Int)=z at *;simp [letter, *]⟩
    refine gy tv1 11 ?_;refine cnd rfl (fun h10=>?_) (fun h10=>?_)
    · have h11:=bl h10;have p12:=dt h11;have h13:=br h10;have p14:=dt h13;refine gx tv1 2 ?_;refine cndT rfl h10 ?_;refine gy tv1 8 ?_;refine next (k+1) rfl rfl ⟨rfl,trivial⟩ trivial ?_ ?_
      · omega
      exact ⟨by omega,by rw [← hk2,Dx_ (k:=k) (by omega),List.all_cons];generalize ((s.getD k 0).toNat:Int)=z at *;simp [letter, *]⟩
    refine gx tv1 7 ?_;refine cnd rfl (fun h15=>?_) (fun h15=>?_)
    · have p16:=dt h15;refine gx tv1 2 ?_;refine cndT rfl h15 ?_;refine gy tv1 8 ?_;refine next (k+1) rfl rfl ⟨rfl,trivial⟩ trivial ?_ ?_
      · omega
      exact ⟨by omega,by rw [← hk2,Dx_ (k:=k) (by omega),List.all_cons];generalize ((s.getD k 0).toNat:Int)=z at *;simp [letter, *]⟩
    have p17:=df h15;refine gx tv1 6 ?_;refine cnd rfl (fun h18=>?_) (fun h18=>?_)
    · have p19:=dt h18;refine gy tv1 8 ?_;refine next (k+1) rfl rfl ⟨rfl,trivial⟩ trivial ?_ ?_
      · omega
      exact ⟨by omega,by rw [← hk2,Dx_ (k:=k) (by omega),List.all_cons];generalize ((s.getD k 0).toNat:Int)=z at *;simp [letter, *]⟩
    have p20:=df h18;refine gx tv1 12 ?_;refine rt1 rfl rfl ?_;refine ple ?_;refine congrArg PV.bool ?_;first | (rw [← hk2,Dx_ (k:=k) (by omega),List.all_cons];generalize ((s.getD k 0).toNat:Int)=z at *;simp [letter, *];done) | (rw [← hk2,List.drop_of_length_le (by omega)];rfl)
  have p21:=df h2;refine gx tv1 11 ?_;refine rt1 rfl rfl ?_;refine ple ?_;refine congrArg PV.bool ?_;first | (rw [← hk2,Dx_ (k:=k) (by omega),List.all_cons];generalize ((s.getD k 0).toNat:Int)=z at *;simp [letter, *];done) | (rw [← hk2,List.drop_of_length_le (by omega)];rfl)
theorem Bc_ (s:Bs):Fn Tryz.prog gb 198 [.str s] (.int .i64 (B8_ s)):=by
  refine fC Tryz.func198 tv1 Tryz.ntmps198 fun w N H hG=>?_;refine gx tv1 14 ?_;refine cnd rfl (fun h1=>?_) (fun h1=>?_)
  · have p2:=dt h1;refine gx tv1 8 ?_;refine rt1 rfl rfl ?_;refine ple ?_
    simp [B8_, *] <;> omega
  have p3:=df h1;refine gx tv1 8 ?_;refine cnd rfl (fun h4=>?_) (fun h4=>?_)
  · have p5:=dt h4;refine gx tv1 8 ?_;refine rt1 rfl rfl ?_;refine ple ?_
    simp [B8_, *] <;> omega
  have p6:=df h4;refine gx tv1 3 ?_;refine call (Le_ _) rfl rfl fun w7=>?_;refine gx tv1 4 ?_;refine cnd rfl (fun h8=>?_) (fun h8=>?_)
  · have h9:=Bo_ h8;refine gx tv1 8 ?_;refine rt1 rfl rfl ?_;refine ple ?_
    simp [B8_, *] <;> omega
  have h10:=Cp_ h8;refine gx tv1 9 ?_;refine rt1 rfl rfl ?_;refine ple ?_
  simp [B8_, *] <;> omega
end Go.SW.V
set_option linter.unusedVariables false
set_option maxRecDepth 100000
set_option maxHeartbeats 4000000
namespace Go.SW.V
open Go.SW Go.Proofs
theorem cb182:U_ Tryz.prog 182:=S_ Tryz.func182 (by kernel_rfl) (by kernel_rfl)
abbrev ty3:TI:=⟨.int .i64,1,8,[.int .i64 0]⟩
abbrev ty27:TI:=⟨.int .u64,1,8,[.int .u64 0]⟩
abbrev ty40:TI:=⟨.int .i64,1,8,[.int .i64 0]⟩
abbrev N6_:TI:=⟨.agg [(0,1),(1,1)],2,24,[.str [], .int .i64 0]⟩
def tbv2:Tb:=[(3,ty3),(9,ty9),(27,ty27),(40,ty40),(285,N6_)]
theorem tv2:tbB Tryz.prog tbv2=true:=by kernel_rfl
theorem out_Num (o:Out) (n bytes:Int) (hlen:o.s.length≤4611686018427387904):Fn Tryz.prog gb 182 [.agg (Out.pc o), .int .u64 n, .int .i64 bytes] (.agg (Out.pc (A_ o n bytes))):=
  Qw_ (vs:=[.agg [str o.s, .int .i64 o.err].toArray, .int .u64 n, .int .i64 bytes]) (v:= .agg [str (A_ o n bytes).s, .int .i64 (A_ o n bytes).err].toArray) cb182 rfl rfl
    (fun w H=>Sims.cons (Sim.toAgg (Sims.cons (Sim.str w.1.1) (Sims.cons (Sim.int w.1.2.1.1 w.1.2.1.2) Sims.nil))) (Sims.cons (Sim.int w.2.1.1 w.2.1.2) (Sims.cons (Sim.int w.2.2.1.1 w.2.2.1.2) Sims.nil)))
    (fun w H=>Sim.toAgg (Sims.cons (Sim.str (by have :=I_ o n bytes;omega)) (Sims.cons (Sim.int w.1.2.1.1 w.1.2.1.2) Sims.nil)))
    (fun w H hG=>SW.out_Num H o n w.2.1 bytes w.2.2.1 hlen)
theorem Ft_ (o:Out) (s:Bs) (hlen:o.s.length+s.length≤4611686018427387904:=by first | omega | (have :=hrl (by assumption);omega) | (simp [A_,J_,G_,numK] <;> omega) | (have :=hrl (by assumption);simp [A_,J_,G_,numK] <;> omega)):Fn Tryz.prog gb 187 [.agg (Out.pc o), .str s] (.agg (Out.pc (J_ o s))):=by
  refine fC Tryz.func187 tv2 Tryz.ntmps187 fun w N H hG=>?_;refine gmp tv2 23 [0,1] (fun _=>rfl) (fun _=>rfl) (fun _=>⟨(by first | omega | (simp <;> omega)),trivial⟩) fun B2=>?_;refine rt1 rfl rfl ?_;refine ple ?_
  rfl
theorem Aa_ (o:Out):Fn Tryz.prog gb 184 [.agg (Out.pc o)] (.str o.s):=by
  refine fC Tryz.func184 tv2 Tryz.ntmps184 fun w N H hG=>?_;refine gm tv2 14 [0] fun B2=>?_;refine rt1 rfl rfl ?_;refine ple ?_
  rfl
theorem Ak_ (o:Out) (s:Bs) (hlen:o.s.length+s.length≤4611686018427386000:=by first | omega | (have :=hrl (by assumption);omega) | (simp [A_,J_,G_,numK] <;> omega) | (have :=hrl (by assumption);simp [A_,J_,G_,numK] <;> omega)):Fn Tryz.prog gb 183 [.agg (Out.pc o), .str s] (.agg (Out.pc (B_ o s))):=by
  refine fC Tryz.func183 tv2 Tryz.ntmps183 fun w N H hG=>?_;refine gm tv2 14 [0,1] fun B2=>?_;refine cnd rfl (fun h4=>?_) (fun h4=>?_)
  · have p5:=dt h4;refine gx tv2 8 ?_;refine cnd rfl (fun h6=>?_) (fun h6=>?_)
    · have p7:=dt h6;refine gm tv2 13 [] fun _=>?_;refine rt1 rfl rfl ?_;refine ple ?_
      simp [B_,Out.pc, *]
    have p9:=df h6;refine gm tv2 10 [] fun _=>?_;refine rt1 rfl rfl ?_;refine ple ?_
    simp [B_,Out.pc, *]
  have p11:=df h4;refine gx tv2 7 ?_;refine q1 (qconv tv2 rfl rfl rfl rfl (Rg_ (by omega))) rfl fun w12=>?_;refine call (out_Num _ _ _ (by first | omega | (have :=hrl (by assumption);omega) | (simp [A_,J_,G_,numK] <;> omega) | (have :=hrl (by assumption);simp [A_,J_,G_,numK] <;> omega))) rfl rfl fun w13=>?_;have :=I_ o (s.length:Int) 2;refine gx tv2 1 ?_;refine call (Ft_ _ _) rfl rfl fun w14=>?_;have :=C6_ (A_ o (s.length:Int) 2) s;refine gm tv2 4 [] fun _=>?_;refine rt1 rfl rfl ?_;refine ple ?_
  simp [B_,Out.pc, *]
end Go.SW.V
set_option linter.unusedVariables false
set_option maxRecDepth 100000
set_option maxHeartbeats 4000000
namespace Go.SW.V
open Go.SW Go.Proofs
theorem cb117:U_ Tryz.prog 117:=S_ Tryz.func117 (by kernel_rfl) (by kernel_rfl)
theorem cb158:U_ Tryz.prog 158:=S_ Tryz.func158 (by kernel_rfl) (by kernel_rfl)
theorem cb193:U_ Tryz.prog 193:=S_ Tryz.func193 (by kernel_rfl) (by kernel_rfl)
abbrev ty261:TI:=⟨.agg [(0,1),(1,1)],2,24,[.str [], .int .i64 0]⟩
def tbv3:Tb:=[(9,ty9),(40,ty40),(261,ty261)]
theorem tv3:tbB Tryz.prog tbv3=true:=by kernel_rfl
theorem Kg_ (s:Bs):Fb Tryz.prog gb 117 [.str s] 261 (In.pc (⟨s,0⟩)):=by
  refine fb_cw tv3 Tryz.func117 rfl Tryz.ntmps117 rfl cb117 rfl rfl fun w N H hG=>?_;refine gm tv3 14 [0] fun B2=>?_;refine rb rfl rfl rfl rfl rfl ?_;exact Rq_
theorem Hn_ (i:In) (code:Int):Fm Tryz.prog gb 158 [.int .i64 code] 261 (In.pc i) (.tup []) (In.pc (Ab_ i code)):=by
  refine Mg_ tv3 Tryz.func158 rfl Tryz.ntmps158 rfl cb158 rfl rfl rfl rfl fun w wp b N H hG=>?_;refine gx tv3 3 ?_;refine q1 (qpne Tryz.underlying217 rfl rfl) rfl fun w1=>?_;refine gy tv3 13 ?_;refine cnd rfl (fun h2=>?_) (fun h2=>?_)
  · have h3:=bl h2;have h4:=bl h3;have h5:=br h3;have p6:=dt h5;have h7:=br h2;have h8:=Bo_ h7;have p9:=df h8;refine gm tv3 11 [] fun _=>?_;refine rm0n rfl rfl ?_ rfl rfl rfl ?_
    · exact ple (by first | rfl | (simp [Ab_, *];done))
    refine ples ?_
    first | rfl | (simp [Ab_,In.pc, *];done) | (simp only [Ab_];split <;> simp_all [In.pc])
  refine gx tv3 1 ?_;refine rm0n rfl rfl ?_ rfl rfl rfl ?_
  · exact ple (by first | rfl | (simp [Ab_, *];done))
  refine ples ?_
  first | rfl | (simp [Ab_,In.pc, *];done) | (simp only [Ab_];split <;> simp_all [In.pc])
theorem U3_ (i:In) (n:Int):Fm Tryz.prog gb 193 [.int .i64 n] 261 (In.pc i) (.str ((Bs_ i n).1)) (In.pc ((Bs_ i n).2)):=by
  refine Mg_ tv3 Tryz.func193 rfl Tryz.ntmps193 rfl cb193 rfl rfl rfl rfl fun w wp b N H hG=>?_;refine gx tv3 11 ?_;refine q1 (qpeq Tryz.underlying217 rfl rfl) rfl fun w1=>?_;refine gx tv3 14 ?_;refine cnd rfl (fun h2=>?_) (fun h2=>?_)
  · have h3:=Bo_ h2;have p4:=df h3;refine gx tv3 2 ?_;refine cndT rfl h2 ?_;refine gx tv3 8 ?_;refine rm1 rfl rfl ?_ rfl rfl rfl ?_
    · exact ple (by first | rfl | (simp [Bs_,Ab_, *];done))
    refine ples ?_
    first | rfl | (simp [Bs_,Ab_,In.pc, *];done) | (simp only [Bs_,Ab_];split <;> simp_all [In.pc])
  have h5:=Cp_ h2;have p6:=dt h5;refine gx tv3 6 ?_;refine cnd rfl (fun h7=>?_) (fun h7=>?_)
  · have p8:=dt h7;refine gx tv3 8 ?_;refine rm1 rfl rfl ?_ rfl rfl rfl ?_
    · exact ple (by first | rfl | (simp [Bs_,Ab_, *];done))
    refine ples ?_
    first | rfl | (simp [Bs_,Ab_,In.pc, *];done) | (simp only [Bs_,Ab_];split <;> simp_all [In.pc])
  have p9:=df h7;refine gx tv3 12 ?_;refine cnd rfl (fun h10=>?_) (fun h10=>?_)
  · have p11:=dt h10;refine gx tv3 3 ?_;refine ef (ecallm (Hn_ _ _) rfl rfl rfl rfl rfl fun w12 w12p=>?_);refine gx tv3 10 ?_;refine rm1 rfl rfl ?_ rfl rfl rfl ?_
    · exact ple (by first | rfl | (simp [Bs_,Ab_, *];done))
    refine ples ?_
    first | rfl | (simp [Bs_,Ab_,In.pc, *];done) | (simp only [Bs_,Ab_];split <;> simp_all [In.pc])
  have p13:=df h10;refine gx tv3 10 ?_;refine q1 (sshi tv3 (n).toNat rfl rfl rfl rfl (by omega) (by omega)) rfl fun w14=>?_;refine gx tv3 11 ?_;refine q1 (sslo tv3 (n).toNat rfl rfl rfl rfl (by omega) (by omega)) rfl fun w15=>?_;refine gm tv3 12 [] fun _=>?_;refine rm1 rfl rfl ?_ rfl rfl rfl ?_
  · exact ple (by first | rfl | (simp [Bs_,Ab_, *];done))
  refine ples ?_
  first | rfl | (simp [Bs_,Ab_,In.pc, *];done) | (simp only [Bs_,Ab_];split <;> simp_all [In.pc])
end Go.SW.V
set_option linter.unusedVariables false
set_option maxRecDepth 100000
set_option maxHeartbeats 4000000
namespace Go.SW.V
open Go.SW Go.Proofs
theorem cb265:U_ Tryz.prog 265:=S_ Tryz.func265 (by kernel_rfl) (by kernel_rfl)
abbrev O7_:TI:=⟨.slc 9,1,24,[.sl strc []]⟩
def tbv4:Tb:=[(9,ty9),(200,O7_)]
theorem tv4:tbB Tryz.prog tbv4=true:=by kernel_rfl
theorem strings_Split (s p:Bs) (hp:p=[46]) (hs:s.length<4294967281):Fn Tryz.prog gb 265 [.str s, .str p] (.sl strc (dots s)):=
  ⟨cb265,rfl,fun N H L w us hg hsim hm=>by
    obtain ⟨v1,_,rfl,h1,h2⟩:=hsim.inv_cons;obtain ⟨v2,_,rfl,h3,h4⟩:=h2.inv_cons
    cases h4.inv_nil
    rw [h1.inv_str.1,h3.inv_str.1]
    refine (SW.strings_Split H s p hp (gbML hg) hs N L w hm).mono fun _ _ ⟨v,H',h5,⟨a,c,h6,h7⟩,h8,h9⟩=>⟨v,H',h5,?_,h8,h9⟩
    rw [h6]
    exact Sim.of_slh (k:=1) ⟨h7.1,fun m hm=>by
      obtain ⟨cs,hE,hat⟩:=h7.2 m hm;obtain ⟨hE1,hE2⟩:=hE;subst hE1;exact ⟨_,⟨rfl,Sims.nil.cons (Sim.str hE2),fun u hu=>by simp at hu;subst hu;rfl⟩,hat⟩⟩ (by have :=U6_ s;omega)⟩
theorem Ho_ (s:Bs) (hs:s.length<4294967281:=by omega):Fn Tryz.prog gb 254 [.str s] (.sl strc (Ay_ s)):=by
  refine fC Tryz.func254 tv4 Tryz.ntmps254 fun w N H hG=>?_;refine gx tv4 12 ?_;refine cnd rfl (fun h1=>?_) (fun h1=>?_)
  · have p2:=dt h1;refine gx tv4 7 ?_;refine rt1 rfl rfl ?_;refine Fz_ ?_
    simp [Ay_, *]
  have p3:=df h1;refine gx tv4 5 ?_;refine call (strings_Split _ _ (by rfl) (by omega)) rfl rfl fun w4=>?_;refine gx tv4 4 ?_;refine rt1 rfl rfl ?_;refine ple ?_
  simp [Ay_, *]
theorem Od_ (s:Bs) (besides:List Bs):Fn Tryz.prog gb 233 [.str s, .sl strc besides] (.int .i64 (keyE besides s)):=by
  refine fC Tryz.func233 tv4 Tryz.ntmps233 fun w N H hG=>?_;have s_l:s.length≤9223372036854775807:=w.1;have besides_l:besides.length≤140737488355328:=w.2.1.1;refine gx tv4 14 ?_;refine cnd rfl (fun h1=>?_) (fun h1=>?_)
  · have p2:=dt h1;refine gx tv4 8 ?_;refine rt1 rfl rfl ?_;refine ple ?_
    simp [keyE, *]
  have p3:=df h1;refine gx tv4 9 ?_;refine call (Ho_ _) rfl rfl fun w4=>?_;refine gx tv4 5 ?_;refine loop (ι:=Nat) [0,1,9,10,11,12,13,14] [] (fun k=>[(15, .int .i64 (k:Int))]) (fun k=>[]) (fun k=>k≤(Ay_ s).length∧(Ay_ s).any (Mm_ besides)=((Ay_ s).drop k).any (Mm_ besides)) (fun k=>(Ay_ s).length-k) 0 ⟨rfl,trivial⟩ trivial ?_ ?_
  · exact ⟨Nat.zero_le _,by simp⟩
  rintro k hp5;obtain ⟨hk1,hk2⟩:=hp5;have hwl:=Ng_ s;refine gx tv4 6 ?_;refine cnd rfl (fun h6=>?_) (fun h6=>?_)
  · have p7:=dt h6;obtain ⟨c8,hc9⟩:=getE (xs:=Ay_ s) (m:=k) (by omega);have c8_l:c8.length≤9223372036854775807:=(w4.2 c8 (List.mem_of_getElem? hc9)).1;refine gx tv4 6 ?_;refine q1 (qidx tv4 k rfl rfl rfl hc9 rfl rfl rfl rfl) rfl fun w10=>?_;refine gx tv4 13 ?_;refine loop (ι:=Nat) [0,1,6,9,10,11,12,13,14,15,16,17,18,19,20] [] (fun j=>[(21, .int .i64 (j:Int))]) (fun j=>[]) (fun j=>j≤besides.length∧besides.contains c8=(besides.drop j).contains c8) (fun j=>besides.length-j) 0 ⟨rfl,trivial⟩ trivial ?_ ?_
    · exact ⟨Nat.zero_le _,by simp⟩
    rintro j hp11;obtain ⟨hj1,hj2⟩:=hp11;refine gx tv4 6 ?_;refine cnd rfl (fun h12=>?_) (fun h12=>?_)
    · have p13:=dt h12;obtain ⟨c14,hc15⟩:=getE (xs:=besides) (m:=j) (by omega);have c14_l:c14.length≤9223372036854775807:=(w.2.1.2 c14 (List.mem_of_getElem? hc15)).1;refine gx tv4 6 ?_;refine q1 (qidx tv4 j rfl rfl rfl hc15 rfl rfl rfl rfl) rfl fun w16=>?_;refine gx tv4 11 ?_;refine cnd rfl (fun h17=>?_) (fun h17=>?_)
      · have p18:=dt h17;refine gy tv4 12 ?_;refine next (k+1) rfl rfl ⟨rfl,trivial⟩ trivial ?_ ?_
        · omega
        refine ⟨by omega,?_⟩
        rw [hk2,Cj_ hc9,List.any_cons]
        have hb:Mm_ besides c8=false:=by
          unfold Mm_
          rw [hj2,Cj_ hc15]
          first | (simp [*];done) | simp_all
        simp [hb]
      have p19:=df h17;refine gy tv4 7 ?_;refine next (j+1) rfl rfl ⟨rfl,trivial⟩ trivial ?_ ?_
      · omega
      refine ⟨by omega,?_⟩
      rw [hj2,Cj_ hc15,List.contains_cons]
      simp [*]
    have p20:=df h12;refine gx tv4 11 ?_;refine callg rfl (fun hc=>(Le_ _)) rfl ⟨(fun hc=>hc),trivial⟩ rfl rfl fun _=>?_;refine gy tv4 4 ?_;refine cnd rfl (fun h21=>?_) (fun h21=>?_)
    · refine gx tv4 12 ?_;refine rt1 rfl rfl ?_;refine ple ?_;have hb:Mm_ besides c8=true:=by
        unfold Mm_
        rw [hj2,List.drop_of_length_le (by omega)]
        first | (simp [*];done) | simp_all
      unfold keyE
      rw [if_neg (by omega),hk2,Cj_ hc9,List.any_cons,hb]
      rfl
    have h22:=orl h21;have p23:=df h22;have h24:=orr h21;have h25:=Cp_ h24;refine gy tv4 7 ?_;refine next (k+1) rfl rfl ⟨rfl,trivial⟩ trivial ?_ ?_
    · omega
    refine ⟨by omega,?_⟩
    rw [hk2,Cj_ hc9,List.any_cons]
    have hb:Mm_ besides c8=false:=by
      unfold Mm_
      rw [hj2,List.drop_of_length_le (by omega)]
      first | (simp [*];done) | simp_all
    simp [hb]
  have p26:=df h6;refine gx tv4 12 ?_;refine rt1 rfl rfl ?_;refine ple ?_
  unfold keyE
  rw [if_neg (by omega),hk2,List.drop_of_length_le (by omega)]
  rfl
theorem H9_ (s:Bs):Fn Tryz.prog gb 199 [.str s] (.int .i64 (keyE [] s)):=by
  refine fC Tryz.func199 tv4 Tryz.ntmps199 fun w N H hG=>?_;refine gx tv4 8 ?_;refine call (Fn.le (Od_ _ []) (F_ (ple rfl) (F_ Bi_ A5_)) (ple rfl) rfl) rfl rfl fun w1=>?_;refine gx tv4 4 ?_;refine rt1 rfl rfl ?_;refine ple ?_
  rfl
end Go.SW.V
set_option linter.unusedVariables false
set_option maxRecDepth 100000
set_option maxHeartbeats 4000000
namespace Go.SW.V
open Go.SW Go.Proofs
theorem ag2:Ag Tryz.prog 2 false:=fun w=>by kernel_rfl
theorem ag5:Ag Tryz.prog 5 false:=fun w=>by kernel_rfl
theorem ag9:Ag Tryz.prog 9 false:=fun w=>by kernel_rfl
theorem Zc_:Tryz.prog.eqGuardType Tryz.prog.depth 199=false:=by kernel_rfl
theorem mixd:Tryz.prog.follows .mixedOrders=true:=by kernel_rfl
theorem Yq_ (p q:Pair):∀ (H:Hp) (vs us:List Value),Sims H (Pair.pc p) vs→Sims H (Pair.pc q) us→EqV Tryz.prog 10000 199 (.agg vs.toArray) (.agg us.toArray) (decide (p=q)):=by
  intro H vs us hv hu;obtain ⟨_,_,rfl,v0,v_0⟩:=hv.inv_cons;obtain ⟨_,_,rfl,v1,v_1⟩:=v_0.inv_cons;obtain ⟨_,_,rfl,v2,v_2⟩:=v_1.inv_cons;obtain ⟨_,_,rfl,v3,v_3⟩:=v_2.inv_cons
  cases v_3.inv_nil
  cases v0.inv_str.1;cases v1.inv_int.1;cases v2.inv_int.1;cases v3.inv_str.1
  obtain ⟨_,_,rfl,u0,u_0⟩:=hu.inv_cons;obtain ⟨_,_,rfl,u1,u_1⟩:=u_0.inv_cons;obtain ⟨_,_,rfl,u2,u_2⟩:=u_1.inv_cons;obtain ⟨_,_,rfl,u3,u_3⟩:=u_2.inv_cons
  cases u_3.inv_nil
  cases u0.inv_str.1;cases u1.inv_int.1;cases u2.inv_int.1;cases u3.inv_str.1
  exact EqV.to (Nj_ Tryz.underlying199 (by kernel_rfl) (I0_ (by decide) ag9 rfl rfl (Hp_ Tryz.underlying9) (I0_ (by decide) ag5 rfl rfl (I5_ Tryz.underlying5) (I0_ (by decide) ag2 rfl rfl (I5_ Tryz.underlying2) (I0_ (by decide) ag9 rfl rfl (Hp_ Tryz.underlying9) Nd_))))) (by obtain ⟨a0,a1,a2,a3⟩:=p;obtain ⟨b0,b1,b2,b3⟩:=q;rw [Bool.eq_iff_iff];simp)
abbrev ty2:TI:=⟨.int .i64,1,8,[.int .i64 0]⟩
abbrev ty5:TI:=⟨.int .u8,1,1,[.int .u8 0]⟩
abbrev ty47:TI:=⟨.slc 199,1,24,[.sl Pair.pc []]⟩
abbrev Wm_:TI:=⟨.agg [(0,1),(1,1),(2,1),(3,1)],4,48,[.str [], .int .u8 0, .int .i64 0, .str []]⟩
def tbv5:Tb:=[(2,ty2),(5,ty5),(9,ty9),(47,ty47),(199,Wm_)]
theorem tv5:tbB Tryz.prog tbv5=true:=by kernel_rfl
theorem U9_ (a:List Pair) (b:List Pair):Fn Tryz.prog gb 121 [.sl Pair.pc a, .sl Pair.pc b] (.bool (decide (a=b))):=by
  refine fC Tryz.func121 tv5 Tryz.ntmps121 fun w N H hG=>?_;have a_l:a.length≤140737488355328:=w.1.1;have b_l:b.length≤140737488355328:=w.2.1.1;refine gx tv5 15 ?_;refine cnd rfl (fun h1=>?_) (fun h1=>?_)
  · have h2:=Bo_ h1;have p3:=df h2;refine gx tv5 7 ?_;refine rt1 rfl rfl ?_;refine ple ?_;exact congrArg PV.bool (V3_ (by assumption)).symm
  have h4:=Cp_ h1;have p5:=dt h4;refine gx tv5 11 ?_;refine loop (ι:=Nat) [0,1,6,7,8,9,10,11,12] [] (fun k=>[(13, .int .i64 (k:Int))]) (fun k=>[]) (fun k=>k≤a.length ∧ decide (a=b) = decide (a.drop k=b.drop k)) (fun k=>a.length-k) 0 ⟨rfl,trivial⟩ trivial ?_ ?_
  · exact ⟨Nat.zero_le _,rfl⟩
  rintro k hp6;obtain ⟨hk1,hk2⟩:=hp6;refine gx tv5 6 ?_;refine cnd rfl (fun h7=>?_) (fun h7=>?_)
  · have p8:=dt h7;refine gx tv5 11 ?_;refine aN [0,1,2,3,4,5] 9 mixd ?_;refine gX tv5 [0,1] 7 ?_;obtain ⟨c9,hc10⟩:=getE (xs:=a) (m:=k) (by omega);have c9_w:=Pair.pwf (w.1.2 c9 (List.mem_of_getElem? hc10));refine vq 2 (qidx tv5 k rfl rfl rfl hc10 rfl rfl rfl rfl) rfl (by kernel_rfl) rfl fun w11=>?_;refine gX tv5 [3,4,5] 3 ?_;obtain ⟨c12,hc13⟩:=getE (xs:=b) (m:=k) (by omega);have c12_w:=Pair.pwf (w.2.1.2 c12 (List.mem_of_getElem? hc13));refine vq 6 (qidx tv5 k rfl rfl rfl hc13 rfl rfl rfl rfl) rfl (by kernel_rfl) rfl fun w14=>?_;refine gX tv5 [7] 1 ?_;refine vq 8 (sane rfl rfl Zc_ (Yq_ c9 c12)) rfl (by kernel_rfl) rfl fun w15=>?_;refine vD ?_;refine gx tv5 1 ?_;refine cnd rfl (fun h16=>?_) (fun h16=>?_)
    · have h17:=Bo_ h16;have p18:=df h17;refine gx tv5 11 ?_;refine rt1 rfl rfl ?_;refine ple ?_;exact congrArg PV.bool (Rt_ hk2 (Cj_ hc10) (Cj_ hc13) (by assumption)).symm
    have h19:=Cp_ h16;have p20:=dt h19;refine gy tv5 7 ?_;refine next (k+1) rfl rfl ⟨rfl,trivial⟩ trivial ?_ ?_
    · omega
    exact ⟨by omega,Q5_ hk2 (Cj_ hc10) (Cj_ hc13) (by assumption)⟩
  have p21:=df h7;refine gx tv5 11 ?_;refine rt1 rfl rfl ?_;refine ple ?_;exact congrArg PV.bool (Td_ hk2 (by omega) (by omega)).symm
theorem Ke_ (a:List Pair) (b:List Pair):Fn Tryz.prog gb 77 [.sl Pair.pc a, .sl Pair.pc b] (.bool (decide (a=b))):=by
  refine fC Tryz.func77 tv5 Tryz.ntmps77 fun w N H hG=>?_;refine gx tv5 9 ?_;refine call (U9_ _ _) rfl rfl fun w1=>?_;refine gx tv5 4 ?_;refine rt1 rfl rfl ?_;refine ple ?_
  rfl
theorem Ui_ (s:List Pair) (f:FuncId) (f_fst f_cap:List PV) (f_p:Pair→Bool) (f_h:∀ x,Fn Tryz.prog gb f (argsP.apL f_fst ((.agg (Pair.pc x))::f_cap)) (.bool (f_p x))):Fn Tryz.prog gb 251 [.sl Pair.pc s, .fn f f_fst f_cap] (.int .i64 (idxP f_p s)):=by
  refine fC Tryz.func251 tv5 Tryz.ntmps251 fun w N H hG=>?_;have s_l:s.length≤140737488355328:=w.1.1;refine gx tv5 14 ?_;refine loop (ι:=Nat) [0,1,6,7] [] (fun k=>[(8, .int .i64 (k:Int))]) (fun k=>[]) (fun k=>k≤s.length∧idxP f_p s=idxF f_p k (s.drop k)) (fun k=>s.length-k) 0 ⟨rfl,trivial⟩ trivial ?_ ?_
  · exact ⟨Nat.zero_le _,rfl⟩
  rintro k hp1;obtain ⟨hk1,hk2⟩:=hp1;refine gx tv5 6 ?_;refine cnd rfl (fun h2=>?_) (fun h2=>?_)
  · have p3:=dt h2;obtain ⟨c4,hc5⟩:=getE (xs:=s) (m:=k) (by omega);have c4_w:=Pair.pwf (w.1.2 c4 (List.mem_of_getElem? hc5));refine gx tv5 15 ?_;refine q1 (qidx tv5 k rfl rfl rfl hc5 rfl rfl rfl rfl) rfl fun w6=>?_;refine gx tv5 1 ?_;refine call (f_h c4) rfl rfl fun w7=>?_;refine gx tv5 2 ?_;refine cnd rfl (fun h8=>?_) (fun h8=>?_)
    · refine gx tv5 12 ?_;refine rt1 rfl rfl ?_;refine ple ?_;exact congrArg (PV.int .i64) (Iu_ hk2 (Cj_ hc5) (by assumption)).symm
    refine gy tv5 7 ?_;refine next (k+1) rfl rfl ⟨rfl,trivial⟩ trivial ?_ ?_
    · omega
    exact ⟨by omega,G3_ hk2 (Cj_ hc5) (by assumption)⟩
  have p9:=df h2;refine gx tv5 11 ?_;refine rt1 rfl rfl ?_;refine ple ?_;exact congrArg (PV.int .i64) (I2_ hk2 (by omega)).symm
theorem Sg_ (p:Pair) (key:Bs):Fn Tryz.prog gb 252 [.agg (Pair.pc p), .el [.str key] 0] (.bool (decide (p.key=key))):=by
  refine fC Tryz.func252 tv5 Tryz.ntmps252 fun w N H hG=>?_;refine gm tv5 16 [0] fun B2=>?_;refine rt1 rfl rfl ?_;refine ple ?_
  rfl
theorem On_ (h:List Pair) (key:Bs):Fn Tryz.prog gb 230 [.sl Pair.pc h, .str key] (.tup [.agg (Pair.pc ((Lo_ h key).getD Pair.zero)), .bool ((Lo_ h key).isSome)]):=by
  refine fC Tryz.func230 tv5 Tryz.ntmps230 fun w N H hG=>?_;refine gm tv5 10 [0,1] fun B2=>?_;refine freeze (i:=0) (t:=3) rfl rfl rfl rfl ?_;refine gx tv5 1 ?_;refine call (Ui_ _ _ _ _ (fun z_4:Pair=>decide (z_4.key=key)) (fun z_4=>Sg_ z_4 key)) rfl rfl fun w5=>?_;have hix5:=Ko_ (fun z_4:Pair=>decide (z_4.key=key)) h;refine gx tv5 10 ?_;refine cnd rfl (fun h6=>?_) (fun h6=>?_)
  · have p7:=dt h6;refine gm tv5 9 [] fun _=>?_;refine rt2 rfl rfl ?_;refine ple ?_;have e:=Xa_ (by assumption);have e2:Lo_ h key=none:=by unfold Lo_;rw [← e];congr 1;funext x;exact Kd_ _ _
    rw [e2];rfl
  have p9:=df h6;obtain ⟨c10,hc11⟩:=getE (xs:=h) (m:=(idxP (fun z_4:Pair=>decide (z_4.key=key)) h).toNat) (by omega);have c10_w:=Pair.pwf (w.1.2 c10 (List.mem_of_getElem? hc11));refine gx tv5 6 ?_;refine q1 (qidx tv5 (idxP (fun z_4:Pair=>decide (z_4.key=key)) h).toNat rfl rfl (by omega) hc11 rfl rfl rfl rfl) rfl fun w12=>?_;refine gm tv5 6 [] fun _=>?_;refine rt2 rfl rfl ?_;refine ple ?_;have e:=(Ws_ (by assumption) hc11).2;have e2:Lo_ h key=some c10:=by unfold Lo_;rw [← e];congr 1;funext x;exact Kd_ _ _
  rw [e2];rfl
theorem Kw_ (p:Pair) (ahead:List Pair):Fn Tryz.prog gb 196 [.agg (Pair.pc p), .sl Pair.pc ahead] (.int .i64 (Ai_ p ahead)):=by
  refine fC Tryz.func196 tv5 Tryz.ntmps196 fun w N H hG=>?_;refine gm tv5 11 [0] fun B2=>?_;refine call (Bc_ _) rfl rfl fun w3=>?_;refine gx tv5 9 ?_;refine cnd rfl (fun h4=>?_) (fun h4=>?_)
  · have h5:=Bo_ h4;have p6:=df h5;refine gx tv5 8 ?_;refine rt1 rfl rfl ?_;refine ple ?_;refine congrArg (PV.int .i64) ?_
    simp only [Bool.or_eq_true,Bool.and_eq_true,Bool.not_eq_true',decide_eq_true_eq,Bool.or_eq_false_iff,Bool.and_eq_false_iff,Bool.not_eq_false',decide_eq_false_iff_not,beq_iff_eq,beq_eq_false_iff_ne] at *
    unfold Ai_
    (repeat' split) <;> first | rfl | (exfalso;omega) | (exfalso;simp_all;done) | (exfalso;simp_all;omega) | grind
  have h7:=Cp_ h4;have p8:=dt h7;refine gx tv5 7 ?_;refine call (On_ _ _) rfl rfl fun w9=>?_;refine gm tv5 18 [1] fun B11=>?_;refine cnd rfl (fun h12=>?_) (fun h12=>?_)
  · have p13:=dt h12;refine gx tv5 8 ?_;refine rt1 rfl rfl ?_;refine ple ?_;refine congrArg (PV.int .i64) ?_
    simp only [Bool.or_eq_true,Bool.and_eq_true,Bool.not_eq_true',decide_eq_true_eq,Bool.or_eq_false_iff,Bool.and_eq_false_iff,Bool.not_eq_false',decide_eq_false_iff_not,beq_iff_eq,beq_eq_false_iff_ne] at *
    unfold Ai_
    (repeat' split) <;> first | rfl | (exfalso;omega) | (exfalso;simp_all;done) | (exfalso;simp_all;omega) | grind
  have p14:=df h12;refine gy tv5 14 ?_;refine cnd rfl (fun h15=>?_) (fun h15=>?_)
  · have h16:=bl h15;have p17:=dt h16;have h18:=br h15;have p19:=dt h18;refine gx tv5 8 ?_;refine rt1 rfl rfl ?_;refine ple ?_;refine congrArg (PV.int .i64) ?_
    simp only [Bool.or_eq_true,Bool.and_eq_true,Bool.not_eq_true',decide_eq_true_eq,Bool.or_eq_false_iff,Bool.and_eq_false_iff,Bool.not_eq_false',decide_eq_false_iff_not,beq_iff_eq,beq_eq_false_iff_ne] at *
    unfold Ai_
    (repeat' split) <;> first | rfl | (exfalso;omega) | (exfalso;simp_all;done) | (exfalso;simp_all;omega) | grind
  refine gy tv5 18 ?_;refine cnd rfl (fun h20=>?_) (fun h20=>?_)
  · have h21:=bl h20;have h22:=bl h21;have p23:=dt h22;have h24:=br h21;have h25:=Bo_ h24;have p26:=df h25;have h27:=br h20;have h28:=Bo_ h27;have p29:=df h28;refine gx tv5 8 ?_;refine rt1 rfl rfl ?_;refine ple ?_;refine congrArg (PV.int .i64) ?_
    simp only [Bool.or_eq_true,Bool.and_eq_true,Bool.not_eq_true',decide_eq_true_eq,Bool.or_eq_false_iff,Bool.and_eq_false_iff,Bool.not_eq_false',decide_eq_false_iff_not,beq_iff_eq,beq_eq_false_iff_ne] at *
    unfold Ai_
    (repeat' split) <;> first | rfl | (exfalso;omega) | (exfalso;simp_all;done) | (exfalso;simp_all;omega) | grind
  refine gy tv5 14 ?_;refine cnd rfl (fun h30=>?_) (fun h30=>?_)
  · have h31:=bl h30;have p32:=dt h31;have h33:=br h30;have h34:=Bo_ h33;have p35:=df h34;refine gx tv5 2 ?_;refine cndT rfl h30 ?_;refine gx tv5 8 ?_;refine rt1 rfl rfl ?_;refine ple ?_;refine congrArg (PV.int .i64) ?_
    simp only [Bool.or_eq_true,Bool.and_eq_true,Bool.not_eq_true',decide_eq_true_eq,Bool.or_eq_false_iff,Bool.and_eq_false_iff,Bool.not_eq_false',decide_eq_false_iff_not,beq_iff_eq,beq_eq_false_iff_ne] at *
    unfold Ai_
    (repeat' split) <;> first | rfl | (exfalso;omega) | (exfalso;simp_all;done) | (exfalso;simp_all;omega) | grind
  refine gy tv5 12 ?_;refine cnd rfl (fun h36=>?_) (fun h36=>?_)
  · have h37:=bl h36;have h38:=Bo_ h37;have p39:=df h38;have h40:=br h36;have h41:=Bo_ h40;have p42:=df h41;refine gx tv5 8 ?_;refine rt1 rfl rfl ?_;refine ple ?_;refine congrArg (PV.int .i64) ?_
    simp only [Bool.or_eq_true,Bool.and_eq_true,Bool.not_eq_true',decide_eq_true_eq,Bool.or_eq_false_iff,Bool.and_eq_false_iff,Bool.not_eq_false',decide_eq_false_iff_not,beq_iff_eq,beq_eq_false_iff_ne] at *
    unfold Ai_
    (repeat' split) <;> first | rfl | (exfalso;omega) | (exfalso;simp_all;done) | (exfalso;simp_all;omega) | grind
  refine gx tv5 6 ?_;refine cnd rfl (fun h43=>?_) (fun h43=>?_)
  · refine gx tv5 8 ?_;refine rt1 rfl rfl ?_;refine ple ?_;refine congrArg (PV.int .i64) ?_
    simp only [Bool.or_eq_true,Bool.and_eq_true,Bool.not_eq_true',decide_eq_true_eq,Bool.or_eq_false_iff,Bool.and_eq_false_iff,Bool.not_eq_false',decide_eq_false_iff_not,beq_iff_eq,beq_eq_false_iff_ne] at *
    unfold Ai_
    (repeat' split) <;> first | rfl | (exfalso;omega) | (exfalso;simp_all;done) | (exfalso;simp_all;omega) | grind
  refine gx tv5 9 ?_;refine rt1 rfl rfl ?_;refine ple ?_;refine congrArg (PV.int .i64) ?_
  simp only [Bool.or_eq_true,Bool.and_eq_true,Bool.not_eq_true',decide_eq_true_eq,Bool.or_eq_false_iff,Bool.and_eq_false_iff,Bool.not_eq_false',decide_eq_false_iff_not,beq_iff_eq,beq_eq_false_iff_ne] at *
  unfold Ai_
  (repeat' split) <;> first | rfl | (exfalso;omega) | (exfalso;simp_all;done) | (exfalso;simp_all;omega) | grind
theorem Dy_ (h:List Pair):Fn Tryz.prog gb 201 [.sl Pair.pc h] (.int .i64 (Ck_ h)):=by
  refine fC Tryz.func201 tv5 Tryz.ntmps201 fun w N H hG=>?_;refine gx tv5 13 ?_;refine cnd rfl (fun h1=>?_) (fun h1=>?_)
  · have p2:=dt h1;refine gx tv5 7 ?_;refine rt1 rfl rfl ?_;refine ple ?_
    simp [Ck_, *]
  have p3:=df h1;refine gx tv5 11 ?_;refine loop (ι:=Nat) [0,6,7,8,9,10] [] (fun k=>[(11, .int .i64 (k:Int))]) (fun k=>[]) (fun k=>k≤h.length∧Er_ [] h=Er_ (h.take k) (h.drop k)) (fun k=>h.length-k) 0 ⟨rfl,trivial⟩ trivial ?_ ?_
  · exact ⟨Nat.zero_le _,rfl⟩
  rintro k hp4;obtain ⟨hk1,hk2⟩:=hp4;refine gx tv5 6 ?_;refine cnd rfl (fun h5=>?_) (fun h5=>?_)
  · have p6:=dt h5;obtain ⟨c7,hc8⟩:=getE (xs:=h) (m:=k) (by omega);have c7_w:=Pair.pwf (w.1.2 c7 (List.mem_of_getElem? hc8));refine gx tv5 7 ?_;refine q1 (qidx tv5 k rfl rfl rfl hc8 rfl rfl rfl rfl) rfl fun w9=>?_;refine gm tv5 7 [0] fun B11=>?_;refine aN [1,2,3,4,5,6] 6 mixd ?_;refine gX tv5 [0,1,2] 3 ?_;refine vq 3 (lshi tv5 k rfl rfl rfl rfl rfl (fun _=>rfl) rfl (by omega)) rfl (by kernel_rfl) rfl fun w12=>?_;refine vC 4 rfl (Kw_ _ _) rfl fun w13=>?_;have :=H5_ c7 (h.take k);refine gX tv5 [5] 0 ?_;refine vD ?_;refine gx tv5 7 ?_;refine cnd rfl (fun h14=>?_) (fun h14=>?_)
    · have h15:=Bo_ h14;have p16:=df h15;refine gx tv5 12 ?_;refine rt1 rfl rfl ?_;refine ple ?_
      unfold Ck_
      rw [if_neg (by omega),hk2,Cj_ hc8]
      simp only [Er_]
      rw [if_pos (by omega)]
    have h17:=Cp_ h14;have p18:=dt h17;refine gy tv5 7 ?_;refine next (k+1) rfl rfl ⟨rfl,trivial⟩ trivial ?_ ?_
    · omega
    refine ⟨by omega,?_⟩
    rw [hk2,Cj_ hc8,takeE hc8]
    simp only [Er_]
    rw [if_neg (by omega)]
  have p19:=df h5;refine gx tv5 11 ?_;refine rt1 rfl rfl ?_;refine ple ?_
  unfold Ck_
  rw [if_neg (by omega),hk2,List.drop_of_length_le (by omega)]
  rfl
end Go.SW.V
set_option linter.unusedVariables false
set_option maxRecDepth 100000
set_option maxHeartbeats 4000000
namespace Go.SW.V
open Go.SW Go.Proofs
abbrev ty4:TI:=⟨.bool,1,1,[.bool false]⟩
abbrev ty49:TI:=⟨.agg [(0,1),(1,1),(2,1),(3,1),(4,1),(5,1)],6,88,[.str [], .str [], .bool false, .str [], .sl Pair.pc [], .bool false]⟩
def tbv9:Tb:=[(4,ty4),(9,ty9),(47,ty47),(49,ty49)]
theorem tv9:tbB Tryz.prog tbv9=true:=by kernel_rfl
theorem M6_ (a:BindR) (b:BindR):Fn Tryz.prog gb 242 [.agg (BindR.pc a), .agg (BindR.pc b)] (.bool (decide (a=b))):=by
  refine fC Tryz.func242 tv9 Tryz.ntmps242 fun w N H hG=>?_;refine gmy tv9 40 [0,1] fun B2=>?_;refine callg rfl (fun hc=>(Ke_ _ _)) rfl ⟨(fun hc=>hc),(fun hc=>hc),trivial⟩ rfl rfl fun _=>?_;refine gy tv9 12 ?_;refine rt1 rfl rfl ?_;refine ple ?_;exact congrArg PV.bool (by rw [Bool.eq_iff_iff];first | (simp [BindR.eq_iff,and_assoc];done) | (simp [BindR.eq_iff];grind))
theorem Jy_ (yes:Bool):Fn Tryz.prog gb 239 [.bool yes] (.int .u64 (bitN yes)):=by
  refine fC Tryz.func239 tv9 Tryz.ntmps239 fun w N H hG=>?_;refine gx tv9 11 ?_;refine cnd rfl (fun h1=>?_) (fun h1=>?_)
  · refine gx tv9 7 ?_;refine rt1 rfl rfl ?_;refine ple ?_
    simp only [bitN, *];rfl
  refine gx tv9 8 ?_;refine rt1 rfl rfl ?_;refine ple ?_
  simp only [bitN, *];rfl
end Go.SW.V
set_option linter.unusedVariables false
set_option maxRecDepth 100000
set_option maxHeartbeats 4000000
namespace Go.SW.V
open Go.SW Go.Proofs
theorem cb119:U_ Tryz.prog 119:=S_ Tryz.func119 (by kernel_rfl) (by kernel_rfl)
theorem cb153:U_ Tryz.prog 153:=S_ Tryz.func153 (by kernel_rfl) (by kernel_rfl)
theorem cb154:U_ Tryz.prog 154:=S_ Tryz.func154 (by kernel_rfl) (by kernel_rfl)
theorem cb155:U_ Tryz.prog 155:=S_ Tryz.func155 (by kernel_rfl) (by kernel_rfl)
theorem cb159:U_ Tryz.prog 159:=S_ Tryz.func159 (by kernel_rfl) (by kernel_rfl)
abbrev ty291:TI:=⟨.slc 5,1,24,[.sl u8c []]⟩
def tbv6:Tb:=[(3,ty3),(5,ty5),(9,ty9),(27,ty27),(40,ty40),(261,ty261),(291,ty291)]
theorem tv6:tbB Tryz.prog tbv6=true:=by kernel_rfl
theorem Fl_ (i:In) (bytes:Int):Fm Tryz.prog gb 153 [.int .i64 bytes] 261 (In.pc i) (.int .u64 (((K_ i bytes)).1)) (In.pc (((K_ i bytes)).2)):=by
  refine Mg_ tv6 Tryz.func153 rfl Tryz.ntmps153 rfl cb153 rfl rfl rfl rfl fun w wp b N H hG=>?_;have hb0:=Ie_ i (min bytes 8);refine gx tv6 16 ?_;refine ef (ecallm (U3_ _ (min bytes 8)) rfl rfl rfl rfl rfl fun w1 w1p=>?_);refine ef (ss2b tv6 rfl rfl rfl rfl rfl rfl rfl (by omega) rfl ?_);refine gx tv6 5 ?_;refine loop (ι:=Nat) [0,1,4,8,9,10,11,12,13] [0] (fun k=>[(5, .int .u64 (beN ((Bs_ i (min bytes 8)).1.take k):Int)),(14, .int .i64 (k:Int))]) (fun k=>[]) (fun k=>k≤(Bs_ i (min bytes 8)).1.length) (fun k=>(Bs_ i (min bytes 8)).1.length-k) 0 ⟨rfl,rfl,trivial⟩ trivial ?_ ?_
  · exact Nat.zero_le _
  rintro k hp2;have hb:=Ie_ i (min bytes 8);refine gx tv6 6 ?_;refine cnd rfl (fun h3=>?_) (fun h3=>?_)
  · have p4:=dt h3;obtain ⟨c5,hc6⟩:=getE (xs:=(Bs_ i (min bytes 8)).1) (m:=k) (by omega);refine gx tv6 6 ?_;refine q1 (qidx tv6 k rfl rfl rfl hc6 rfl rfl rfl rfl) rfl fun w7=>?_;have :=Y1_ ((BitVec.ofInt (IntKind.bits .u64) (IntKind.wrap .u64 ((beN ((Bs_ i (min bytes 8)).1.take k):Int)*2 ^ (min (8:Int).toNat (IntKind.bits .u64)))) ||| BitVec.ofInt (IntKind.bits .u64) ((c5).toNat:Int)).toNat)
    refine gy tv6 18 ?_;refine next (k+1) rfl rfl ⟨(congrArg (PV.int .u64) (Xi_ hc6 (by omega))),rfl,trivial⟩ trivial ?_ ?_
    · omega
    omega
  have p8:=df h3;refine gx tv6 12 ?_;refine rm1 rfl rfl ?_ rfl rfl rfl ?_
  · refine ple ?_
    simp only [K_]
    rw [List.take_of_length_le (by omega)]
  exact ples rfl
theorem F1_ (i:In) (most:Int):Fm Tryz.prog gb 154 [.int .i64 most] 261 (In.pc i) (.str (((M_ i most)).1)) (In.pc (((M_ i most)).2)):=by
  refine Mg_ tv6 Tryz.func154 rfl Tryz.ntmps154 rfl cb154 rfl rfl rfl rfl fun w wp b N H hG=>?_;refine gx tv6 8 ?_;refine ef (ecallm (Fl_ _ _) rfl rfl rfl rfl rfl fun w1 w1p=>?_);have :=Bq_ i 2;refine q1 (qconv tv6 rfl rfl rfl rfl (L7_ (by omega))) rfl fun w2=>?_;refine gx tv6 11 ?_;refine cnd rfl (fun h3=>?_) (fun h3=>?_)
  · have p4:=dt h3;refine gx tv6 2 ?_;refine ef (ecallm (Hn_ _ _) rfl rfl rfl rfl rfl fun w5 w5p=>?_);refine gx tv6 6 ?_;refine ef (ecallm (U3_ _ _) rfl rfl rfl rfl rfl fun w6 w6p=>?_);refine gx tv6 4 ?_;refine rm1 rfl rfl ?_ rfl rfl rfl ?_
    · exact ple (by simp [M_, *])
    exact ples (by simp [M_,In.pc, *])
  have p7:=df h3;refine gx tv6 6 ?_;refine ef (ecallm (U3_ _ _) rfl rfl rfl rfl rfl fun w8 w8p=>?_);refine gx tv6 4 ?_;refine rm1 rfl rfl ?_ rfl rfl rfl ?_
  · exact ple (by simp [M_, *])
  exact ples (by simp [M_,In.pc, *])
theorem in_Left (i:In):Fm Tryz.prog gb 159 [] 261 (In.pc i) (.int .i64 (i.s.length:Int)) (In.pc i):=by
  refine Mg_ tv6 Tryz.func159 rfl Tryz.ntmps159 rfl cb159 rfl rfl rfl rfl fun w wp b N H hG=>?_;refine gx tv6 9 ?_;refine q1 (qpeq Tryz.underlying217 rfl rfl) rfl fun w1=>?_;refine gx tv6 16 ?_;refine rm1 rfl rfl ?_ rfl rfl rfl ?_
  · exact ple rfl
  exact ples rfl
theorem Ii_ (i:In):Fm Tryz.prog gb 155 [] 261 (In.pc i) (.int .i64 i.err) (In.pc i):=by
  refine Mg_ tv6 Tryz.func155 rfl Tryz.ntmps155 rfl cb155 rfl rfl rfl rfl fun w wp b N H hG=>?_;refine gx tv6 9 ?_;refine q1 (qpeq Tryz.underlying217 rfl rfl) rfl fun w1=>?_;refine gx tv6 15 ?_;refine rm1 rfl rfl ?_ rfl rfl rfl ?_
  · exact ple rfl
  exact ples rfl
theorem in_End (i:In):Fm Tryz.prog gb 119 [] 261 (In.pc i) (.int .i64 (K8_ i)) (In.pc i):=by
  refine Mg_ tv6 Tryz.func119 rfl Tryz.ntmps119 rfl cb119 rfl rfl rfl rfl fun w wp b N H hG=>?_;refine gx tv6 9 ?_;refine ef (ecallm (Ii_ _) rfl rfl rfl rfl rfl fun w1 w1p=>?_);refine gx tv6 3 ?_;refine callgm rfl (fun hc=>(in_Left _)) rfl rfl rfl rfl ⟨(fun hc=>hc),trivial⟩ rfl rfl fun _=>?_;refine gy tv6 4 ?_;refine cnd rfl (fun h2=>?_) (fun h2=>?_)
  · have h3:=bl h2;have p4:=dt h3;have h5:=br h2;have p6:=dt h5;refine gx tv6 7 ?_;refine rm1 rfl rfl ?_ rfl rfl rfl ?_
    · refine ple ?_;refine congrArg (PV.int .i64) ?_
      simp only [Bool.or_eq_true,Bool.and_eq_true,Bool.not_eq_true',decide_eq_true_eq,Bool.or_eq_false_iff,Bool.and_eq_false_iff,Bool.not_eq_false',decide_eq_false_iff_not,beq_iff_eq,beq_eq_false_iff_ne] at *
      unfold K8_
      (repeat' split) <;> first | rfl | (exfalso;omega) | (exfalso;simp_all;done) | (exfalso;simp_all;omega) | grind
    exact ples rfl
  refine gx tv6 5 ?_;refine ef (ecallm (Ii_ _) rfl rfl rfl rfl rfl fun w7 w7p=>?_);refine gx tv6 4 ?_;refine rm1 rfl rfl ?_ rfl rfl rfl ?_
  · refine ple ?_;refine congrArg (PV.int .i64) ?_
    simp only [Bool.or_eq_true,Bool.and_eq_true,Bool.not_eq_true',decide_eq_true_eq,Bool.or_eq_false_iff,Bool.and_eq_false_iff,Bool.not_eq_false',decide_eq_false_iff_not,beq_iff_eq,beq_eq_false_iff_ne] at *
    unfold K8_
    (repeat' split) <;> first | rfl | (exfalso;omega) | (exfalso;simp_all;done) | (exfalso;simp_all;omega) | grind
  exact ples rfl
end Go.SW.V
set_option linter.unusedVariables false
set_option maxRecDepth 100000
set_option maxHeartbeats 4000000
namespace Go.SW.V
open Go.SW Go.Proofs
def tbv7:Tb:=[(9,ty9),(200,O7_)]
theorem tv7:tbB Tryz.prog tbv7=true:=by kernel_rfl
theorem Ev_ (pattern:Bs) (key:Bs) (hp:pattern.length<4294967281:=by first | omega | (simp;done) | decide) (hk:key.length<4294967281:=by first | omega | (simp;done) | decide):Fn Tryz.prog gb 248 [.str pattern, .str key] (.bool (mt (Ay_ pattern) (Ay_ key))):=by
  refine fC Tryz.func248 tv7 Tryz.ntmps248 fun w N H hG=>?_;refine gx tv7 8 ?_;refine call (Ho_ _) rfl rfl fun w1=>?_;refine gx tv7 1 ?_;refine call (Ho_ _) rfl rfl fun w2=>?_;refine gx tv7 18 ?_;refine loop (ι:=Nat×Nat×Int×Nat) [0,1,5,6,11,12,13,14] [] (fun ⟨i,j,b,f⟩=>[(7, .int .i64 (i:Int)),(8, .int .i64 (j:Int)),(9, .int .i64 b),(10, .int .i64 (f:Int))]) (fun ⟨i,j,b,f⟩=>[]) (fun ⟨i,j,b,f⟩=>MI (Ay_ pattern) (Ay_ key) i j b f) (fun ⟨i,j,b,f⟩=>mmu (Ay_ pattern) (Ay_ key) j b f) ⟨0,0,(-1),0⟩ ⟨rfl,rfl,rfl,rfl,trivial⟩ trivial ?_ ?_
  · exact MI.start _ _
  rintro ⟨i,j,b,f⟩ hp3;have hmi:=hp3;have hwp:=Ng_ pattern;have hwk:=Ng_ key;have :=hmi.hi;have :=hmi.hj;have :=hmi.hf;have :=hmi.hb;have :=hmi.hbi;refine gx tv7 9 ?_;refine cnd rfl (fun h4=>?_) (fun h4=>?_)
  · have p5:=dt h4;obtain ⟨c6,hc7⟩:=getJ (Ay_ pattern) i;refine gx tv7 13 ?_;refine q1g [25,26] rfl (fun hc=>qidx tv7 i rfl rfl rfl (hc7 (by first | omega | (simp only [gOf,Bool.and_eq_true,Bool.or_eq_true,Bool.not_eq_true',decide_eq_true_eq,decide_eq_false_iff_not,Bool.not_eq_false',Bool.and_true,Bool.true_and,cond_true,cond_false] at *;omega))) rfl rfl rfl rfl) ⟨(fun hc=>hc),(fun hc=>hc),trivial⟩ rfl rfl rfl fun _=>?_;refine gy tv7 6 ?_;refine cnd rfl (fun h8=>?_) (fun h8=>?_)
    · have h9:=bl h8;have p10:=dt h9;have h11:=br h8;have p12:=dt h11;refine gy tv7 15 ?_;obtain ⟨c13,hc14⟩:=getE (xs:=Ay_ key) (m:=j) (by omega);refine next ⟨(i+1),j,((i:Int)+1),j⟩ rfl rfl ⟨(congrArg (PV.int .i64) (by omega)),rfl,rfl,rfl,trivial⟩ trivial ?_ ?_
      · exact Xw_ hmi (by omega)
      exact MI.hash hmi (by rw [(hc7 (by first | omega | (simp only [gOf,Bool.and_eq_true,Bool.or_eq_true,Bool.not_eq_true',decide_eq_true_eq,decide_eq_false_iff_not,Bool.not_eq_false',Bool.and_true,Bool.true_and,cond_true,cond_false] at *;omega)))];simp [*])
    refine gx tv7 1 ?_;refine aN [0,1,2,3,4,5] 23 mixd ?_;refine gX tv7 [0,1,2,3,4,5,6] 16 ?_;refine vqg 7 [41,42] rfl (by kernel_rfl) rfl rfl (fun hc=>qidx tv7 i rfl rfl rfl (hc7 (by first | omega | (simp only [gOf,Bool.and_eq_true,Bool.or_eq_true,Bool.not_eq_true',decide_eq_true_eq,decide_eq_false_iff_not,Bool.not_eq_false',Bool.and_true,Bool.true_and,cond_true,cond_false] at *;omega))) rfl rfl rfl rfl) ⟨(fun hc=>hc),(fun hc=>hc),trivial⟩ rfl fun _=>?_;refine gXy tv7 [8,9,10,11,12] 10 ?_;refine vqg 13 [47,48] rfl (by kernel_rfl) rfl rfl (fun hc=>qidx tv7 i rfl rfl rfl (hc7 (by first | omega | (simp only [gOf,Bool.and_eq_true,Bool.or_eq_true,Bool.not_eq_true',decide_eq_true_eq,decide_eq_false_iff_not,Bool.not_eq_false',Bool.and_true,Bool.true_and,cond_true,cond_false] at *;omega))) rfl rfl rfl rfl) ⟨(fun hc=>hc),(fun hc=>hc),trivial⟩ rfl fun _=>?_;refine gXy tv7 [14,15,16] 6 ?_;obtain ⟨c15,hc16⟩:=getJ (Ay_ key) j;refine vqg 17 [51,52] rfl (by kernel_rfl) rfl rfl (fun hc=>qidx tv7 j rfl rfl rfl (hc16 (by first | omega | (simp only [gOf,Bool.and_eq_true,Bool.or_eq_true,Bool.not_eq_true',decide_eq_true_eq,decide_eq_false_iff_not,Bool.not_eq_false',Bool.and_true,Bool.true_and,cond_true,cond_false] at *;omega))) rfl rfl rfl rfl) ⟨(fun hc=>hc),(fun hc=>hc),trivial⟩ rfl fun _=>?_;refine gXy tv7 [18,19,20,21,22] 0 ?_;refine vD ?_;refine gx tv7 1 ?_;refine cnd rfl (fun h17=>?_) (fun h17=>?_)
    · have h18:=bl h17;have p19:=dt h18;have h20:=br h17;refine gy tv7 10 ?_;refine next ⟨(i+1),(j+1),b,f⟩ rfl rfl ⟨(congrArg (PV.int .i64) (by omega)),rfl,rfl,rfl,trivial⟩ trivial ?_ ?_
      · exact W4_ (by omega)
      first | exact MI.step hmi (hc7 (by first | omega | (simp only [gOf,Bool.and_eq_true,Bool.or_eq_true,Bool.not_eq_true',decide_eq_true_eq,decide_eq_false_iff_not,Bool.not_eq_false',Bool.and_true,Bool.true_and,cond_true,cond_false] at *;omega))) (hc16 (by first | omega | (simp only [gOf,Bool.and_eq_true,Bool.or_eq_true,Bool.not_eq_true',decide_eq_true_eq,decide_eq_false_iff_not,Bool.not_eq_false',Bool.and_true,Bool.true_and,cond_true,cond_false] at *;omega))) (by assumption) (by first | exact .inl (by assumption) | exact .inr (by assumption)) | exact MI.step hmi (hc7 (by first | omega | (simp only [gOf,Bool.and_eq_true,Bool.or_eq_true,Bool.not_eq_true',decide_eq_true_eq,decide_eq_false_iff_not,Bool.not_eq_false',Bool.and_true,Bool.true_and,cond_true,cond_false] at *;omega))) (hc16 (by first | omega | (simp only [gOf,Bool.and_eq_true,Bool.or_eq_true,Bool.not_eq_true',decide_eq_true_eq,decide_eq_false_iff_not,Bool.not_eq_false',Bool.and_true,Bool.true_and,cond_true,cond_false] at *;omega))) (by simp_all) (by first | (left;simp_all;done) | (right;simp_all;done) | grind)
    refine gx tv7 7 ?_;refine cnd rfl (fun h21=>?_) (fun h21=>?_)
    · have p22:=dt h21;refine gy tv7 15 ?_;have hbad:∀ w,(Ay_ pattern)[i]? = some w→w≠[35]∧w≠[42]∧w≠c15:=by
        intro w hw;obtain ⟨hlt,_⟩:=List.getElem?_eq_some_iff.1 hw
        rw [(hc7 (by first | omega | (simp only [gOf,Bool.and_eq_true,Bool.or_eq_true,Bool.not_eq_true',decide_eq_true_eq,decide_eq_false_iff_not,Bool.not_eq_false',Bool.and_true,Bool.true_and,cond_true,cond_false] at *;omega)))] at hw;cases hw
        first | exact ⟨by assumption,by assumption,by assumption⟩ | (refine ⟨?_,?_,?_⟩ <;> intro q <;> simp_all)
      refine next ⟨b.toNat,(f+1),b,(f+1)⟩ rfl rfl ⟨(congrArg (PV.int .i64) (by omega)),rfl,rfl,rfl,trivial⟩ trivial ?_ ?_
      · exact Wz_ hmi.hf (by omega)
      exact MI.back hmi (hc16 (by first | omega | (simp only [gOf,Bool.and_eq_true,Bool.or_eq_true,Bool.not_eq_true',decide_eq_true_eq,decide_eq_false_iff_not,Bool.not_eq_false',Bool.and_true,Bool.true_and,cond_true,cond_false] at *;omega))) (by omega) hbad
    have p23:=df h21;refine gx tv7 11 ?_;refine rt1 rfl rfl ?_;refine ple ?_;have hbad:∀ w,(Ay_ pattern)[i]? = some w→w≠[35]∧w≠[42]∧w≠c15:=by
      intro w hw;obtain ⟨hlt,_⟩:=List.getElem?_eq_some_iff.1 hw
      rw [(hc7 (by first | omega | (simp only [gOf,Bool.and_eq_true,Bool.or_eq_true,Bool.not_eq_true',decide_eq_true_eq,decide_eq_false_iff_not,Bool.not_eq_false',Bool.and_true,Bool.true_and,cond_true,cond_false] at *;omega)))] at hw;cases hw
      first | exact ⟨by assumption,by assumption,by assumption⟩ | (refine ⟨?_,?_,?_⟩ <;> intro q <;> simp_all)
    exact congrArg PV.bool (MI.none hmi (hc16 (by first | omega | (simp only [gOf,Bool.and_eq_true,Bool.or_eq_true,Bool.not_eq_true',decide_eq_true_eq,decide_eq_false_iff_not,Bool.not_eq_false',Bool.and_true,Bool.true_and,cond_true,cond_false] at *;omega))) (by omega) hbad).symm
  have p24:=df h4;refine gx tv7 7 ?_;refine loop (ι:=Nat) [0,1,5,6,8,9,10,11,12,13,14,15,16,17,18] [] (fun q=>[(7, .int .i64 (q:Int))]) (fun q=>[]) (fun q=>q≤(Ay_ pattern).length∧mt (Ay_ pattern) (Ay_ key)=mt ((Ay_ pattern).drop q) []) (fun q=>(Ay_ pattern).length-q) i ⟨rfl,trivial⟩ trivial ?_ ?_
  · exact ⟨by omega,hmi.fin (by omega)⟩
  rintro q hp25;obtain ⟨hq1,hq2⟩:=hp25;obtain ⟨c26,hc27⟩:=getJ (Ay_ pattern) q;refine gx tv7 10 ?_;refine q1g [74,75] rfl (fun hc=>qidx tv7 q rfl rfl rfl (hc27 (by first | omega | (simp only [gOf,Bool.and_eq_true,Bool.or_eq_true,Bool.not_eq_true',decide_eq_true_eq,decide_eq_false_iff_not,Bool.not_eq_false',Bool.and_true,Bool.true_and,cond_true,cond_false] at *;omega))) rfl rfl rfl rfl) ⟨(fun hc=>hc),(fun hc=>hc),trivial⟩ rfl rfl rfl fun _=>?_;refine gy tv7 5 ?_;refine cnd rfl (fun h28=>?_) (fun h28=>?_)
  · have h29:=bl h28;have p30:=dt h29;have h31:=br h28;have p32:=dt h31;refine gy tv7 9 ?_;refine next (q+1) rfl rfl ⟨rfl,trivial⟩ trivial ?_ ?_
    · omega
    exact ⟨by omega,mt_end hq2 (by rw [(hc27 (by first | omega | (simp only [gOf,Bool.and_eq_true,Bool.or_eq_true,Bool.not_eq_true',decide_eq_true_eq,decide_eq_false_iff_not,Bool.not_eq_false',Bool.and_true,Bool.true_and,cond_true,cond_false] at *;omega)))];simp [*])⟩
  refine gx tv7 15 ?_;refine rt1 rfl rfl ?_;refine ple ?_;refine congrArg PV.bool ?_
  rw [hq2]
  by_cases hql:q<(Ay_ pattern).length
  · rw [mt_endN (hc27 (by first | omega | (simp only [gOf,Bool.and_eq_true,Bool.or_eq_true,Bool.not_eq_true',decide_eq_true_eq,decide_eq_false_iff_not,Bool.not_eq_false',Bool.and_true,Bool.true_and,cond_true,cond_false] at *;omega))) (by first | assumption | simp_all)]
    rw [decide_eq_false_iff_not];omega
  have hqe:q=(Ay_ pattern).length:=by omega
  subst hqe
  rw [List.drop_length];simp [mt]
theorem H1_ (s:Bs):Fn Tryz.prog gb 200 [.str s] (.int .i64 (keyE patB s)):=by
  refine fC Tryz.func200 tv7 Tryz.ntmps200 fun w N H hG=>?_;refine gx tv7 8 ?_;refine ef (bsl 0 strc [[42],[35]] tv7 rfl rfl rfl rfl rfl (fun _=>rfl) rfl (by decide) (by decide) rfl fun u1=>?_);refine ef (calll 0 rfl (Od_ _ _) rfl rfl rfl fun w2=>?_);refine gx tv7 4 ?_;refine rt1 rfl rfl ?_;refine ple ?_
  rfl
end Go.SW.V
set_option linter.unusedVariables false
set_option maxRecDepth 100000
set_option maxHeartbeats 4000000
namespace Go.SW.V
open Go.SW Go.Proofs
theorem cb157:U_ Tryz.prog 157:=S_ Tryz.func157 (by kernel_rfl) (by kernel_rfl)
theorem cb195:U_ Tryz.prog 195:=S_ Tryz.func195 (by kernel_rfl) (by kernel_rfl)
def tbv8:Tb:=[(2,ty2),(3,ty3),(5,ty5),(9,ty9),(27,ty27),(47,ty47),(199,Wm_),(285,N6_)]
theorem tv8:tbB Tryz.prog tbv8=true:=by kernel_rfl
theorem Eb_ (h:List Pair):Fn Tryz.prog gb 186 [.sl Pair.pc h] (.tup [.str (Y_ h), .int .i64 (Ck_ h)]):=by
  refine fC Tryz.func186 tv8 Tryz.ntmps186 fun w N H hG=>?_;have h_l:h.length≤140737488355328:=w.1.1;refine gx tv8 10 ?_;refine call (Dy_ _) rfl rfl fun w1=>?_;refine gx tv8 9 ?_;refine cnd rfl (fun h2=>?_) (fun h2=>?_)
  · have h3:=Bo_ h2;have p4:=df h3;refine gx tv8 9 ?_;refine rt2 rfl rfl ?_;refine ple ?_
    unfold Y_
    rw [if_neg (by omega)]
  have h5:=Cp_ h2;have p6:=dt h5;refine gx tv8 7 ?_;refine q1 (qconv tv8 rfl rfl rfl rfl (Rg_ (by omega))) rfl fun w7=>?_;refine call (out_Num (⟨[],0⟩:Out) _ _ (by first | omega | (have :=hrl (by assumption);omega) | (simp [A_,J_,G_,numK] <;> omega) | (have :=hrl (by assumption);simp [A_,J_,G_,numK] <;> omega))) rfl rfl fun w8=>?_;have nl0:(⟨[],0⟩:Out).s.length=0:=rfl;have :=I_ (⟨[],0⟩:Out) (h.length:Int) 1;refine gm tv8 13 [0] fun B10=>?_;refine loop (ι:=Nat×Out) [0,2,3,4,5,8,9,10,11,13,14,15,16,17,18,19] [] (fun ⟨k,o⟩=>[(20, .int .i64 (k:Int))]) (fun ⟨k,o⟩=>[(0, .box (B10 0) 285 [.str o.s, .int .i64 o.err])]) (fun ⟨k,o⟩=>k≤h.length∧h.foldl Dg_ (A_ ⟨[],0⟩ h.length 1)=(h.drop k).foldl Dg_ o∧o.s.length≤8+110*k) (fun ⟨k,o⟩=>h.length-k) ⟨0,(A_ (⟨[],0⟩:Out) (h.length:Int) 1)⟩ ⟨rfl,trivial⟩ ⟨rfl,trivial⟩ ?_ ?_
  · exact ⟨Nat.zero_le _,rfl,by simp at *;omega⟩
  rintro ⟨k,o⟩ hp11;obtain ⟨hk1,hk2,hk3⟩:=hp11;have hok:=G7_ (h:=h) (by assumption);refine gx tv8 6 ?_;refine cnd rfl (fun h12=>?_) (fun h12=>?_)
  · have p13:=dt h12;obtain ⟨c14,hc15⟩:=getE (xs:=h) (m:=k) (by omega);have hpk:=hok.2 c14 (List.mem_of_getElem? hc15);have c14_w:=Pair.pwf (w.1.2 c14 (List.mem_of_getElem? hc15));refine gx tv8 6 ?_;refine q1 (qidx tv8 k rfl rfl rfl hc15 rfl rfl rfl rfl) rfl fun w16=>?_;refine gm tv8 6 [1] fun B18=>?_;refine aN [2,3,4,5,6,7] 9 mixd ?_;refine gX tv8 [0,1,2] 6 ?_;refine vC 3 rfl (Ak_ _ _) rfl fun w19=>?_;have :=L_ o c14.key;refine gX tv8 [4,5,6] 2 ?_;refine vC 7 rfl (out_Num _ _ _ (by first | omega | (have :=hrl (by assumption);omega) | (simp [A_,J_,G_,numK] <;> omega) | (have :=hrl (by assumption);simp [A_,J_,G_,numK] <;> omega))) rfl fun w20=>?_;have :=I_ (B_ o c14.key) c14.kind 1;refine vT 8 rfl (sA tv8 ?_);refine vD ?_;refine gx tv8 14 ?_;refine cnd rfl (fun h21=>?_) (fun h21=>?_)
    · have p22:=dt h21;refine gx tv8 5 ?_;refine call (out_Num _ _ _ (by first | omega | (have :=hrl (by assumption);omega) | (simp [A_,J_,G_,numK] <;> omega) | (have :=hrl (by assumption);simp [A_,J_,G_,numK] <;> omega))) rfl rfl fun w23=>?_;have :=I_ (A_ (B_ o c14.key) c14.kind 1) (IntKind.wrap .u64 c14.num) 8;refine gmy tv8 9 [] fun _=>?_;refine next ⟨(k+1),(A_ (A_ (B_ o c14.key) c14.kind 1) (IntKind.wrap .u64 c14.num) 8)⟩ rfl rfl ⟨rfl,trivial⟩ ⟨rfl,trivial⟩ ?_ ?_
      · simp only [];omega
      have e:(A_ (A_ (B_ o c14.key) c14.kind 1) (IntKind.wrap .u64 c14.num) 8)=Dg_ o c14:=by unfold Dg_;first | (rw [if_pos (by omega)];done) | (rw [if_neg (by omega),if_pos (by omega)];done) | (rw [if_neg (by omega),if_neg (by omega),if_pos (by omega)];done) | (rw [if_neg (by omega),if_neg (by omega),if_neg (by omega)];done)
      simp only []
      rw [e]
      have hlo:=E4_ (o:=o) (hok.2 c14 (List.mem_of_getElem? hc15));refine ⟨by omega,?_,by omega⟩
      rw [hk2,Cj_ hc15,List.foldl_cons]
    have p25:=df h21;refine gx tv8 6 ?_;refine cnd rfl (fun h26=>?_) (fun h26=>?_)
    · have p27:=dt h26;refine gx tv8 4 ?_;refine call (Ak_ _ _) rfl rfl fun w28=>?_;have :=L_ (A_ (B_ o c14.key) c14.kind 1) c14.text;refine gmy tv8 9 [] fun _=>?_;refine next ⟨(k+1),(B_ (A_ (B_ o c14.key) c14.kind 1) c14.text)⟩ rfl rfl ⟨rfl,trivial⟩ ⟨rfl,trivial⟩ ?_ ?_
      · simp only [];omega
      have e:(B_ (A_ (B_ o c14.key) c14.kind 1) c14.text)=Dg_ o c14:=by unfold Dg_;first | (rw [if_pos (by omega)];done) | (rw [if_neg (by omega),if_pos (by omega)];done) | (rw [if_neg (by omega),if_neg (by omega),if_pos (by omega)];done) | (rw [if_neg (by omega),if_neg (by omega),if_neg (by omega)];done)
      simp only []
      rw [e]
      have hlo:=E4_ (o:=o) (hok.2 c14 (List.mem_of_getElem? hc15));refine ⟨by omega,?_,by omega⟩
      rw [hk2,Cj_ hc15,List.foldl_cons]
    have p30:=df h26;refine gx tv8 6 ?_;refine cnd rfl (fun h31=>?_) (fun h31=>?_)
    · have p32:=dt h31;refine gx tv8 5 ?_;refine call (out_Num _ _ _ (by first | omega | (have :=hrl (by assumption);omega) | (simp [A_,J_,G_,numK] <;> omega) | (have :=hrl (by assumption);simp [A_,J_,G_,numK] <;> omega))) rfl rfl fun w33=>?_;have :=I_ (A_ (B_ o c14.key) c14.kind 1) (IntKind.wrap .u64 c14.num) 1;refine gmy tv8 9 [] fun _=>?_;refine next ⟨(k+1),(A_ (A_ (B_ o c14.key) c14.kind 1) (IntKind.wrap .u64 c14.num) 1)⟩ rfl rfl ⟨rfl,trivial⟩ ⟨rfl,trivial⟩ ?_ ?_
      · simp only [];omega
      have e:(A_ (A_ (B_ o c14.key) c14.kind 1) (IntKind.wrap .u64 c14.num) 1)=Dg_ o c14:=by unfold Dg_;first | (rw [if_pos (by omega)];done) | (rw [if_neg (by omega),if_pos (by omega)];done) | (rw [if_neg (by omega),if_neg (by omega),if_pos (by omega)];done) | (rw [if_neg (by omega),if_neg (by omega),if_neg (by omega)];done)
      simp only []
      rw [e]
      have hlo:=E4_ (o:=o) (hok.2 c14 (List.mem_of_getElem? hc15));refine ⟨by omega,?_,by omega⟩
      rw [hk2,Cj_ hc15,List.foldl_cons]
    have p35:=df h31;refine gy tv8 8 ?_;refine next ⟨(k+1),(A_ (B_ o c14.key) c14.kind 1)⟩ rfl rfl ⟨rfl,trivial⟩ ⟨rfl,trivial⟩ ?_ ?_
    · simp only [];omega
    have e:(A_ (B_ o c14.key) c14.kind 1)=Dg_ o c14:=by unfold Dg_;first | (rw [if_pos (by omega)];done) | (rw [if_neg (by omega),if_pos (by omega)];done) | (rw [if_neg (by omega),if_neg (by omega),if_pos (by omega)];done) | (rw [if_neg (by omega),if_neg (by omega),if_neg (by omega)];done)
    simp only []
    rw [e]
    have hlo:=E4_ (o:=o) (hok.2 c14 (List.mem_of_getElem? hc15));refine ⟨by omega,?_,by omega⟩
    rw [hk2,Cj_ hc15,List.foldl_cons]
  have p36:=df h12;refine gx tv8 8 ?_;refine call (Aa_ _) rfl rfl fun w37=>?_;refine gx tv8 5 ?_;refine rt2 rfl rfl ?_;refine ple ?_
  unfold Y_
  rw [if_pos (by assumption)]
  rw [List.drop_of_length_le (by omega),List.foldl_nil] at hk2
  rw [show Ld_ h=o from hk2]
  have e0:Ck_ h=0:=by assumption
  rw [e0]
theorem Rb_ (i:In):Fm Tryz.prog gb 195 [] 261 (In.pc i) (.agg (Pair.pc (((O_ i)).1))) (In.pc (((O_ i)).2)):=by
  refine Mg_ tv8 Tryz.func195 rfl Tryz.ntmps195 rfl cb195 rfl rfl rfl rfl fun w wp b N H hG=>?_;refine gm tv8 8 [1] fun B2=>?_;refine ef (ecallm (F1_ _ _) rfl rfl rfl rfl rfl fun w3 w3p=>?_);have :=Ch_ i 16;generalize hg5:M_ i 16=g4 at *;refine gx tv8 1 ?_;refine ef (ecallm (Fl_ _ _) rfl rfl rfl rfl rfl fun w6 w6p=>?_);have :=Bq_ ((g4).2) 1;generalize hg8:K_ ((g4).2) 1=g7 at *;refine q1 (qconv tv8 rfl rfl rfl rfl (rg_u8 (by omega))) rfl fun w9=>?_;refine gm tv8 19 [2] fun B11=>?_;refine cnd rfl (fun h12=>?_) (fun h12=>?_)
  · have p13:=dt h12;refine gx tv8 2 ?_;refine ef (ecallm (Fl_ _ _) rfl rfl rfl rfl rfl fun w14 w14p=>?_);have :=Bq_ ((g7).2) 8;generalize hg16:K_ ((g7).2) 8=g15 at *;refine gm tv8 13 [] fun _=>?_;refine rm1 rfl rfl ?_ rfl rfl rfl ?_;have e:O_ i=((⟨(g4).1,(g7).1,(IntKind.wrap .i64 ((g15).1)),[]⟩:Pair),((g15).2)):=by unfold O_;simp only;(repeat first | simp only [hg5,hg8,hg16] | rw [if_pos (by omega)] | rw [if_neg (by omega)]);all_goals first | rfl | (rw [Ca_ (by omega) (by omega)];done) | (simp [*];done) | (rw [Ca_ (by omega) (by omega)];simp [*];done)
    · exact ple (by first | (rw [e];done) | (rw [e];rfl))
    have e:O_ i=((⟨(g4).1,(g7).1,(IntKind.wrap .i64 ((g15).1)),[]⟩:Pair),((g15).2)):=by unfold O_;simp only;(repeat first | simp only [hg5,hg8,hg16] | rw [if_pos (by omega)] | rw [if_neg (by omega)]);all_goals first | rfl | (rw [Ca_ (by omega) (by omega)];done) | (simp [*];done) | (rw [Ca_ (by omega) (by omega)];simp [*];done)
    exact ples (by first | (rw [e];done) | (rw [e];rfl))
  have p18:=df h12;refine gx tv8 6 ?_;refine cnd rfl (fun h19=>?_) (fun h19=>?_)
  · have p20:=dt h19;refine gx tv8 2 ?_;refine ef (ecallm (F1_ _ _) rfl rfl rfl rfl rfl fun w21 w21p=>?_);have :=Ch_ ((g7).2) 64;generalize hg23:M_ ((g7).2) 64=g22 at *;refine gm tv8 12 [] fun _=>?_;refine rm1 rfl rfl ?_ rfl rfl rfl ?_;have e:O_ i=((⟨(g4).1,(g7).1,0,(g22).1⟩:Pair),((g22).2)):=by unfold O_;simp only;(repeat first | simp only [hg5,hg8,hg23] | rw [if_pos (by omega)] | rw [if_neg (by omega)]);all_goals first | rfl | (rw [Ca_ (by omega) (by omega)];done) | (simp [*];done) | (rw [Ca_ (by omega) (by omega)];simp [*];done)
    · exact ple (by first | (rw [e];done) | (rw [e];rfl))
    have e:O_ i=((⟨(g4).1,(g7).1,0,(g22).1⟩:Pair),((g22).2)):=by unfold O_;simp only;(repeat first | simp only [hg5,hg8,hg23] | rw [if_pos (by omega)] | rw [if_neg (by omega)]);all_goals first | rfl | (rw [Ca_ (by omega) (by omega)];done) | (simp [*];done) | (rw [Ca_ (by omega) (by omega)];simp [*];done)
    exact ples (by first | (rw [e];done) | (rw [e];rfl))
  have p25:=df h19;refine gx tv8 6 ?_;refine cnd rfl (fun h26=>?_) (fun h26=>?_)
  · have p27:=dt h26;refine gx tv8 2 ?_;refine ef (ecallm (Fl_ _ _) rfl rfl rfl rfl rfl fun w28 w28p=>?_);have :=Bq_ ((g7).2) 1;generalize hg30:K_ ((g7).2) 1=g29 at *;refine q1 (qconv tv8 rfl rfl rfl rfl (L7_ (by omega))) rfl fun w31=>?_;refine gm tv8 12 [] fun _=>?_;refine rm1 rfl rfl ?_ rfl rfl rfl ?_;have e:O_ i=((⟨(g4).1,(g7).1,(g29).1,[]⟩:Pair),((g29).2)):=by unfold O_;simp only;(repeat first | simp only [hg5,hg8,hg30] | rw [if_pos (by omega)] | rw [if_neg (by omega)]);all_goals first | rfl | (rw [Ca_ (by omega) (by omega)];done) | (simp [*];done) | (rw [Ca_ (by omega) (by omega)];simp [*];done)
    · exact ple (by first | (rw [e];done) | (rw [e];rfl))
    have e:O_ i=((⟨(g4).1,(g7).1,(g29).1,[]⟩:Pair),((g29).2)):=by unfold O_;simp only;(repeat first | simp only [hg5,hg8,hg30] | rw [if_pos (by omega)] | rw [if_neg (by omega)]);all_goals first | rfl | (rw [Ca_ (by omega) (by omega)];done) | (simp [*];done) | (rw [Ca_ (by omega) (by omega)];simp [*];done)
    exact ples (by first | (rw [e];done) | (rw [e];rfl))
  have p33:=df h26;refine gx tv8 2 ?_;refine ef (ecallm (Hn_ _ _) rfl rfl rfl rfl rfl fun w34 w34p=>?_);refine gm tv8 10 [] fun _=>?_;refine rm1 rfl rfl ?_ rfl rfl rfl ?_;have e:O_ i=((⟨(g4).1,(g7).1,0,[]⟩:Pair),(Ab_ ((g7).2) 8)):=by unfold O_;simp only;(repeat first | simp only [hg5,hg8] | rw [if_pos (by omega)] | rw [if_neg (by omega)]);all_goals first | rfl | (rw [Ca_ (by omega) (by omega)];done) | (simp [*];done) | (rw [Ca_ (by omega) (by omega)];simp [*];done)
  · exact ple (by first | (rw [e];done) | (rw [e];rfl))
  have e:O_ i=((⟨(g4).1,(g7).1,0,[]⟩:Pair),(Ab_ ((g7).2) 8)):=by unfold O_;simp only;(repeat first | simp only [hg5,hg8] | rw [if_pos (by omega)] | rw [if_neg (by omega)]);all_goals first | rfl | (rw [Ca_ (by omega) (by omega)];done) | (simp [*];done) | (rw [Ca_ (by omega) (by omega)];simp [*];done)
  exact ples (by first | (rw [e];done) | (rw [e];rfl))
theorem Tk_ (i:In):Fm Tryz.prog gb 157 [] 261 (In.pc i) (.sl Pair.pc (((Ac_ i)).1)) (In.pc (((Ac_ i)).2)):=by
  refine Mg_ tv8 Tryz.func157 rfl Tryz.ntmps157 rfl cb157 rfl rfl rfl rfl fun w wp b N H hG=>?_;refine gx tv8 8 ?_;refine ef (ecallm (Fl_ _ _) rfl rfl rfl rfl rfl fun w1 w1p=>?_);have :=Bq_ i 1;generalize hg3:K_ i 1=g2 at *;refine q1 (qconv tv8 rfl rfl rfl rfl (L7_ (by omega))) rfl fun w4=>?_;refine gx tv8 10 ?_;refine cnd rfl (fun h5=>?_) (fun h5=>?_)
  · have p6:=dt h5;refine gx tv8 2 ?_;refine ef (ecallm (Hn_ _ _) rfl rfl rfl rfl rfl fun w7 w7p=>?_);refine gx tv8 15 ?_;refine sw_own (t:=4) (k:=4) (e:=199) 1 Pair.pc rfl rfl ?_;refine loop (ι:=Nat×(List Pair)×Value×In) [0,3,6,7,8,9,10,11,13] [] (fun ⟨k,h,u_h,j⟩=>[(4, .osl 1),(14, .int .i64 (k:Int))]) (fun ⟨k,h,u_h,j⟩=>[(1, .arr u_h 4 199 Pair.pc h),(0, .box b 261 [.str j.s, .int .i64 j.err])]) (fun ⟨k,h,u_h,j⟩=>k≤((g2).1).toNat∧Ac_ i=Dd_ (((g2).1).toNat-k) j h∧h.length≤k) (fun ⟨k,h,u_h,j⟩=>((g2).1).toNat-k) ⟨0,[],(.slice none 0 0),(Ab_ ((g2).2) 6)⟩ ⟨rfl,rfl,trivial⟩ ⟨rfl,rfl,trivial⟩ ?_ ?_
    · exact ⟨Nat.zero_le _,by unfold Ac_;(repeat first | simp only [hg3] | rw [if_pos (by omega)] | rw [if_neg (by omega)]);all_goals rfl,Nat.zero_le _⟩
    rintro ⟨k,h,u_h,j⟩ hp8;obtain ⟨hk1,hk2,hk3⟩:=hp8;refine gx tv8 6 ?_;refine cnd rfl (fun h9=>?_) (fun h9=>?_)
    · have p10:=dt h9;refine gx tv8 7 ?_;refine ef (ecallm (Rb_ _) rfl rfl rfl rfl rfl fun w11 w11p=>?_);generalize hg13:O_ j=g12 at *;refine gm tv8 8 [2] fun B15=>?_;refine ef (ecallm (Ii_ _) rfl rfl rfl rfl rfl fun w16 w16p=>?_);refine gx tv8 3 ?_;refine cnd rfl (fun h17=>?_) (fun h17=>?_)
      · have p18:=dt h17;refine gx tv8 4 ?_;refine ef (calll 1 rfl (Kw_ _ _) rfl rfl rfl fun w19=>?_);have :=H5_ ((g12).1) h;generalize hg21:Ai_ ((g12).1) h=g20 at *;refine ef (ecallm (Hn_ _ _) rfl rfl rfl rfl rfl fun w22 w22p=>?_);refine gx tv8 6 ?_;refine ef (ecallm (Ii_ _) rfl rfl rfl rfl rfl fun w23 w23p=>?_);refine gx tv8 3 ?_;refine cnd rfl (fun h24=>?_) (fun h24=>?_)
        · have h25:=Bo_ h24;have p26:=df h25;refine gx tv8 12 ?_;refine rm1 rfl rfl ?_ rfl rfl rfl ?_
          · have e:Ac_ i=([],(Ab_ ((g12).2) g20)):=by
              rw [hk2,show ((g2).1).toNat-k=(((g2).1).toNat-(k+1))+1 by omega]
              have z:=fun k=>G4_ (k:=k) (h:=h) (show O_ j=(g12.1,g12.2) from hg13) (by omega) (by rw [hg21];omega)
              rw [hg21] at z
              exact z _
            exact Fz_ (by rw [e])
          have e:Ac_ i=([],(Ab_ ((g12).2) g20)):=by
            rw [hk2,show ((g2).1).toNat-k=(((g2).1).toNat-(k+1))+1 by omega]
            have z:=fun k=>G4_ (k:=k) (h:=h) (show O_ j=(g12.1,g12.2) from hg13) (by omega) (by rw [hg21];omega)
            rw [hg21] at z
            exact z _
          exact ples (by first | (rw [e];done) | (rw [e];rfl))
        have h27:=Cp_ h24;have p28:=dt h27;refine gx tv8 5 ?_;refine ef (bsl 3 Pair.pc [((g12).1)] tv8 rfl rfl rfl rfl rfl (fun _=>rfl) rfl (by decide) (by decide) rfl fun u29=>?_);refine ef (app tv8 [((g12).1)] rfl rfl rfl rfl rfl rfl rfl rfl rfl (src_o rfl rfl) (by first | omega | (simp;omega)) rfl fun u30=>?_);refine gy tv8 8 ?_;refine next ⟨(k+1),(h++[((g12).1)]),(u30),(Ab_ ((g12).2) g20)⟩ rfl rfl ⟨rfl,rfl,trivial⟩ ⟨rfl,rfl,trivial⟩ ?_ ?_
        · simp only [];omega
        refine ⟨by omega,?_,by simp;omega⟩
        rw [hk2,show ((g2).1).toNat-k=(((g2).1).toNat-(k+1))+1 by omega]
        have z:=fun k=>O1_ (k:=k) (h:=h) (show O_ j=(g12.1,g12.2) from hg13) (by omega) (by rw [hg21];omega)
        rw [hg21] at z
        exact z _
      have p31:=df h17;refine gx tv8 6 ?_;refine ef (ecallm (Ii_ _) rfl rfl rfl rfl rfl fun w32 w32p=>?_);refine gx tv8 3 ?_;refine cndT rfl (by rw [h17] <;> rfl) ?_;refine gx tv8 12 ?_;refine rm1 rfl rfl ?_ rfl rfl rfl ?_
      · have e:Ac_ i=([],((g12).2)):=by
          rw [hk2,show ((g2).1).toNat-k=(((g2).1).toNat-(k+1))+1 by omega]
          exact Hc_ (show O_ j=(g12.1,g12.2) from hg13) (by omega)
        exact Fz_ (by rw [e])
      have e:Ac_ i=([],((g12).2)):=by
        rw [hk2,show ((g2).1).toNat-k=(((g2).1).toNat-(k+1))+1 by omega]
        exact Hc_ (show O_ j=(g12.1,g12.2) from hg13) (by omega)
      exact ples (by first | (rw [e];done) | (rw [e];rfl))
    have p33:=df h9;refine gx tv8 11 ?_;refine givec 1 rfl ?_;refine gx tv8 1 ?_;refine rm1 rfl rfl ?_ rfl rfl rfl ?_
    · have e:Ac_ i=(h,j):=by
        rw [hk2,show ((g2).1).toNat-k=0 by omega]
        rfl
      exact ple (by rw [e])
    have e:Ac_ i=(h,j):=by
      rw [hk2,show ((g2).1).toNat-k=0 by omega]
      rfl
    exact ples (by first | (rw [e];done) | (rw [e];rfl))
  have p34:=df h5;refine gx tv8 15 ?_;refine sw_own (t:=4) (k:=4) (e:=199) 1 Pair.pc rfl rfl ?_;refine loop (ι:=Nat×(List Pair)×Value×In) [0,3,6,7,8,9,10,13] [] (fun ⟨k,h,u_h,j⟩=>[(4, .osl 1),(14, .int .i64 (k:Int))]) (fun ⟨k,h,u_h,j⟩=>[(1, .arr u_h 4 199 Pair.pc h),(0, .box b 261 [.str j.s, .int .i64 j.err])]) (fun ⟨k,h,u_h,j⟩=>k≤((g2).1).toNat∧Ac_ i=Dd_ (((g2).1).toNat-k) j h∧h.length≤k) (fun ⟨k,h,u_h,j⟩=>((g2).1).toNat-k) ⟨0,[],(.slice none 0 0),((g2).2)⟩ ⟨rfl,rfl,trivial⟩ ⟨rfl,rfl,trivial⟩ ?_ ?_
  · exact ⟨Nat.zero_le _,by unfold Ac_;(repeat first | simp only [hg3] | rw [if_pos (by omega)] | rw [if_neg (by omega)]);all_goals rfl,Nat.zero_le _⟩
  rintro ⟨k,h,u_h,j⟩ hp35;obtain ⟨hk1,hk2,hk3⟩:=hp35;refine gx tv8 6 ?_;refine cnd rfl (fun h36=>?_) (fun h36=>?_)
  · have p37:=dt h36;refine gx tv8 7 ?_;refine ef (ecallm (Rb_ _) rfl rfl rfl rfl rfl fun w38 w38p=>?_);generalize hg40:O_ j=g39 at *;refine gm tv8 8 [2] fun B42=>?_;refine ef (ecallm (Ii_ _) rfl rfl rfl rfl rfl fun w43 w43p=>?_);refine gx tv8 3 ?_;refine cnd rfl (fun h44=>?_) (fun h44=>?_)
    · have p45:=dt h44;refine gx tv8 4 ?_;refine ef (calll 1 rfl (Kw_ _ _) rfl rfl rfl fun w46=>?_);have :=H5_ ((g39).1) h;generalize hg48:Ai_ ((g39).1) h=g47 at *;refine ef (ecallm (Hn_ _ _) rfl rfl rfl rfl rfl fun w49 w49p=>?_);refine gx tv8 6 ?_;refine ef (ecallm (Ii_ _) rfl rfl rfl rfl rfl fun w50 w50p=>?_);refine gx tv8 3 ?_;refine cnd rfl (fun h51=>?_) (fun h51=>?_)
      · have h52:=Bo_ h51;have p53:=df h52;refine gx tv8 12 ?_;refine rm1 rfl rfl ?_ rfl rfl rfl ?_
        · have e:Ac_ i=([],(Ab_ ((g39).2) g47)):=by
            rw [hk2,show ((g2).1).toNat-k=(((g2).1).toNat-(k+1))+1 by omega]
            have z:=fun k=>G4_ (k:=k) (h:=h) (show O_ j=(g39.1,g39.2) from hg40) (by omega) (by rw [hg48];omega)
            rw [hg48] at z
            exact z _
          exact Fz_ (by rw [e])
        have e:Ac_ i=([],(Ab_ ((g39).2) g47)):=by
          rw [hk2,show ((g2).1).toNat-k=(((g2).1).toNat-(k+1))+1 by omega]
          have z:=fun k=>G4_ (k:=k) (h:=h) (show O_ j=(g39.1,g39.2) from hg40) (by omega) (by rw [hg48];omega)
          rw [hg48] at z
          exact z _
        exact ples (by first | (rw [e];done) | (rw [e];rfl))
      have h54:=Cp_ h51;have p55:=dt h54;refine gx tv8 5 ?_;refine ef (bsl 3 Pair.pc [((g39).1)] tv8 rfl rfl rfl rfl rfl (fun _=>rfl) rfl (by decide) (by decide) rfl fun u56=>?_);refine ef (app tv8 [((g39).1)] rfl rfl rfl rfl rfl rfl rfl rfl rfl (src_o rfl rfl) (by first | omega | (simp;omega)) rfl fun u57=>?_);refine gy tv8 8 ?_;refine next ⟨(k+1),(h++[((g39).1)]),(u57),(Ab_ ((g39).2) g47)⟩ rfl rfl ⟨rfl,rfl,trivial⟩ ⟨rfl,rfl,trivial⟩ ?_ ?_
      · simp only [];omega
      refine ⟨by omega,?_,by simp;omega⟩
      rw [hk2,show ((g2).1).toNat-k=(((g2).1).toNat-(k+1))+1 by omega]
      have z:=fun k=>O1_ (k:=k) (h:=h) (show O_ j=(g39.1,g39.2) from hg40) (by omega) (by rw [hg48];omega)
      rw [hg48] at z
      exact z _
    have p58:=df h44;refine gx tv8 6 ?_;refine ef (ecallm (Ii_ _) rfl rfl rfl rfl rfl fun w59 w59p=>?_);refine gx tv8 3 ?_;refine cndT rfl (by rw [h44] <;> rfl) ?_;refine gx tv8 12 ?_;refine rm1 rfl rfl ?_ rfl rfl rfl ?_
    · have e:Ac_ i=([],((g39).2)):=by
        rw [hk2,show ((g2).1).toNat-k=(((g2).1).toNat-(k+1))+1 by omega]
        exact Hc_ (show O_ j=(g39.1,g39.2) from hg40) (by omega)
      exact Fz_ (by rw [e])
    have e:Ac_ i=([],((g39).2)):=by
      rw [hk2,show ((g2).1).toNat-k=(((g2).1).toNat-(k+1))+1 by omega]
      exact Hc_ (show O_ j=(g39.1,g39.2) from hg40) (by omega)
    exact ples (by first | (rw [e];done) | (rw [e];rfl))
  have p60:=df h36;refine gx tv8 11 ?_;refine givec 1 rfl ?_;refine gx tv8 1 ?_;refine rm1 rfl rfl ?_ rfl rfl rfl ?_
  · have e:Ac_ i=(h,j):=by
      rw [hk2,show ((g2).1).toNat-k=0 by omega]
      rfl
    exact ple (by rw [e])
  have e:Ac_ i=(h,j):=by
    rw [hk2,show ((g2).1).toNat-k=0 by omega]
    rfl
  exact ples (by first | (rw [e];done) | (rw [e];rfl))
end Go.SW.V
set_option linter.unusedVariables false
set_option maxRecDepth 100000
set_option maxHeartbeats 4000000
namespace Go.SW.V
open Go.SW Go.Proofs
theorem sz258:Sz Tryz.prog 258 1:=fun w=>by kernel_rfl
abbrev Nq_:TI:=⟨.agg [(0,1),(1,1),(2,1)],3,24,[.int .u8 0, .int .u8 0, .str []]⟩
abbrev ty258:TI:=⟨.int .u32,1,4,[.int .u32 0]⟩
def tbv10:Tb:=[(5,ty5),(9,ty9),(27,ty27),(158,Nq_),(200,O7_),(258,ty258),(285,N6_)]
theorem tv10:tbB Tryz.prog tbv10=true:=by kernel_rfl
theorem Xe_ (r:Int) (b:Int):Fn Tryz.prog gb 194 [.int .u32 r, .int .u8 b] (.int .u32 (Gm_ r b)):=by
  refine fC Tryz.func194 tv10 Tryz.ntmps194 fun w N H hG=>?_;have :=Ob_ ((BitVec.ofInt (IntKind.bits .u32) r ^^^ BitVec.ofInt (IntKind.bits .u32) b).toNat);refine gx tv10 21 ?_;refine loop (ι:=Nat×Int) [1,4,5,6,7,8] [] (fun ⟨k,q⟩=>[(0, .int .u32 q),(9, .int .i64 (k:Int))]) (fun ⟨k,q⟩=>[]) (fun ⟨k,q⟩=>k≤2∧crcIt (2-k) q=Gm_ r b) (fun ⟨k,q⟩=>2-k) ⟨0,(Xc_ r b)⟩ ⟨rfl,rfl,trivial⟩ trivial ?_ ?_
  · exact ⟨Nat.zero_le _,rfl⟩
  rintro ⟨k,q⟩ hp1;obtain ⟨hk1,hk2⟩:=hp1;refine gx tv10 6 ?_;refine cnd rfl (fun h2=>?_) (fun h2=>?_)
  · have p3:=dt h2;have :=Ob_ ((BitVec.ofInt (IntKind.bits .u32) q &&& BitVec.ofInt (IntKind.bits .u32) 15).toNat);refine gy tv10 9 ?_;refine q1 (qgtab (m:=((IntKind.wrap .u32 ((BitVec.ofInt (IntKind.bits .u32) q &&& BitVec.ofInt (IntKind.bits .u32) 15).toNat))).toNat) laidT (by decide) (fun _ h=>gbCrc h) rfl Tryz.underlying324 sz258 (by omega) (W2_ _) rfl) rfl fun w4=>?_;have :=Ob_ ((BitVec.ofInt (IntKind.bits .u32) (Int.fdiv q (2 ^ (min (4:Int).toNat (IntKind.bits .u32)))) ^^^ BitVec.ofInt (IntKind.bits .u32) (laidT.getD ((IntKind.wrap .u32 ((BitVec.ofInt (IntKind.bits .u32) q &&& BitVec.ofInt (IntKind.bits .u32) 15).toNat))).toNat 0)).toNat);refine gy tv10 10 ?_;refine next ⟨(k+1),(crc1 q)⟩ rfl rfl ⟨rfl,rfl,trivial⟩ trivial ?_ ?_
    · (try simp only []);omega
    try simp only []
    refine ⟨by omega,?_⟩
    rw [← hk2,show 2-k=(2-(k+1))+1 by omega]
    rfl
  have p5:=df h2;refine gx tv10 12 ?_;refine rt1 rfl rfl ?_;refine ple ?_;obtain rfl :k=2:=by omega
  exact congrArg (PV.int .u32) hk2
theorem Ne_ (parts:List Bs):Fn Tryz.prog gb 156 [.sl strc parts] (.int .u32 (Ga_ parts)):=by
  refine fC Tryz.func156 tv10 Tryz.ntmps156 fun w N H hG=>?_;have parts_l:parts.length≤140737488355328:=w.1.1;refine gx tv10 19 ?_;refine loop (ι:=Nat×Int) [0,2,7,8] [] (fun ⟨k,r⟩=>[(3, .int .u32 r),(9, .int .i64 (k:Int))]) (fun ⟨k,r⟩=>[]) (fun ⟨k,r⟩=>k≤parts.length∧parts.foldl crcB 4294967295=(parts.drop k).foldl crcB r∧0≤r∧r≤4294967295) (fun ⟨k,r⟩=>parts.length-k) ⟨0,4294967295⟩ ⟨rfl,rfl,trivial⟩ trivial ?_ ?_
  · exact ⟨Nat.zero_le _,rfl,by omega,by omega⟩
  rintro ⟨k,r⟩ hp1;obtain ⟨hk1,hk2,hk3,hk4⟩:=hp1;refine gx tv10 6 ?_;refine cnd rfl (fun h2=>?_) (fun h2=>?_)
  · have p3:=dt h2;obtain ⟨c4,hc5⟩:=getE (xs:=parts) (m:=k) (by omega);have c4_l:c4.length≤9223372036854775807:=(w.1.2 c4 (List.mem_of_getElem? hc5)).1;refine gx tv10 6 ?_;refine q1 (qidx tv10 k rfl rfl rfl hc5 rfl rfl rfl rfl) rfl fun w6=>?_;refine gx tv10 12 ?_;refine loop (ι:=Nat×Int) [0,2,5,7,8,9,10,11,12,13,14] [] (fun ⟨j,q⟩=>[(3, .int .u32 q),(15, .int .i64 (j:Int))]) (fun ⟨j,q⟩=>[]) (fun ⟨j,q⟩=>j≤c4.length∧c4.foldl (fun q c=>Gm_ q c.toNat) r=(c4.drop j).foldl (fun q c=>Gm_ q c.toNat) q∧0≤q∧q≤4294967295) (fun ⟨j,q⟩=>c4.length-j) ⟨0,r⟩ ⟨rfl,rfl,trivial⟩ trivial ?_ ?_
    · exact ⟨Nat.zero_le _,rfl,by omega,by omega⟩
    rintro ⟨j,q⟩ hp7;obtain ⟨hj1,hj2,hj3,hj4⟩:=hp7;refine gx tv10 6 ?_;refine cnd rfl (fun h8=>?_) (fun h8=>?_)
    · have p9:=dt h8;have :=u8r (c4.getD j 0);refine gx tv10 14 ?_;refine q1 (sidx tv10 j rfl rfl rfl rfl rfl (by omega)) rfl fun w10=>?_;refine call (Xe_ _ _) rfl rfl fun w11=>?_;have :=S4_ q ((c4.getD j 0).toNat:Int);refine gy tv10 8 ?_;refine next ⟨(j+1),(Gm_ q (c4.getD j 0).toNat)⟩ rfl rfl ⟨rfl,rfl,trivial⟩ trivial ?_ ?_
      · (try simp only []);omega
      refine ⟨by omega,?_,by omega,by omega⟩
      rw [hj2,Dx_ (k:=j) (by omega),List.foldl_cons]
    have p12:=df h8;refine gy tv10 10 ?_;refine next ⟨(k+1),q⟩ rfl rfl ⟨rfl,rfl,trivial⟩ trivial ?_ ?_
    · (try simp only []);omega
    refine ⟨by omega,?_,by omega,by omega⟩
    rw [hk2,Cj_ hc5,List.foldl_cons]
    rw [List.drop_of_length_le (by omega),List.foldl_nil] at hj2
    rw [show crcB r c4=q from hj2]
  have p13:=df h2;refine gx tv10 13 ?_;refine rt1 rfl rfl ?_;refine ple ?_
  rw [List.drop_of_length_le (by omega),List.foldl_nil] at hk2
  unfold Ga_
  rw [hk2]
theorem Kz_ (f:Frame):Fn Tryz.prog gb 144 [.agg (Frame.pc f)] (.tup [.str (T_ f), .int .i64 (Jw_ f)]):=by
  refine fC Tryz.func144 tv10 Tryz.ntmps144 fun w N H hG=>?_;refine gm tv10 16 [0] fun B2=>?_;refine cnd rfl (fun h3=>?_) (fun h3=>?_)
  · have p4:=dt h3;refine gx tv10 8 ?_;refine rt2 rfl rfl ?_;refine ple ?_
    simp [T_,Jw_,Jv_, *]
  have p5:=df h3;refine gx tv10 3 ?_;refine aN [1,2,3,4,5,6] 14 mixd ?_;refine gX tv10 [0,1,2,3] 10 ?_;refine vC 4 rfl (out_Num (⟨[],0⟩:Out) _ _ (by first | omega | (have :=hrl (by assumption);omega) | (simp [A_,J_,G_,numK] <;> omega) | (have :=hrl (by assumption);simp [A_,J_,G_,numK] <;> omega))) rfl fun w6=>?_;have nl0:(⟨[],0⟩:Out).s.length=0:=rfl;have :=I_ (⟨[],0⟩:Out) f.channel 1;refine gX tv10 [5,6,7] 6 ?_;refine vC 8 rfl (out_Num _ _ _ (by first | omega | (have :=hrl (by assumption);omega) | (simp [A_,J_,G_,numK] <;> omega) | (have :=hrl (by assumption);simp [A_,J_,G_,numK] <;> omega))) rfl fun w7=>?_;have :=I_ (A_ (⟨[],0⟩:Out) f.channel 1) f.kind 1;refine gX tv10 [9,10] 3 ?_;refine vC 11 rfl (Ak_ _ _) rfl fun w8=>?_;have :=L_ (A_ (A_ (⟨[],0⟩:Out) f.channel 1) f.kind 1) f.body;refine vE 12 rfl (aL tv10 1 fun b9=>?_);refine vT 13 rfl (sA tv10 ?_);refine vD ?_;refine gx tv10 2 ?_;refine aN [2,3,4,5,6,7] 11 mixd ?_;refine gX tv10 [0,1] 9 ?_;refine vC 2 rfl (Aa_ _) rfl fun w10=>?_;refine vE 3 rfl (bsl 2 strc [(B_ (A_ (A_ (⟨[],0⟩:Out) f.channel 1) f.kind 1) f.body).s] tv10 rfl rfl rfl rfl rfl (fun _=>rfl) rfl (by decide) (by decide) rfl fun u11=>?_);refine vE 4 rfl (calll 2 rfl (Ne_ _) rfl rfl rfl fun w12=>?_);have :=H8_ [(B_ (A_ (A_ (⟨[],0⟩:Out) f.channel 1) f.kind 1) f.body).s];refine gX tv10 [5] 5 ?_;refine vC 6 rfl (out_Num _ _ _ (by first | omega | (have :=hrl (by assumption);omega) | (simp [A_,J_,G_,numK] <;> omega) | (have :=hrl (by assumption);simp [A_,J_,G_,numK] <;> omega))) rfl fun w13=>?_;have :=I_ (B_ (A_ (A_ (⟨[],0⟩:Out) f.channel 1) f.kind 1) f.body) (Ga_ [(B_ (A_ (A_ (⟨[],0⟩:Out) f.channel 1) f.kind 1) f.body).s]) 4;refine vC 7 rfl (out_Num _ _ _ (by first | omega | (have :=hrl (by assumption);omega) | (simp [A_,J_,G_,numK] <;> omega) | (have :=hrl (by assumption);simp [A_,J_,G_,numK] <;> omega))) rfl fun w14=>?_;have :=I_ (A_ (B_ (A_ (A_ (⟨[],0⟩:Out) f.channel 1) f.kind 1) f.body) (Ga_ [(B_ (A_ (A_ (⟨[],0⟩:Out) f.channel 1) f.kind 1) f.body).s]) 4) 206 1;refine vC 8 rfl (Aa_ _) rfl fun w15=>?_;refine gX tv10 [9,10] 0 ?_;refine vD ?_;refine gx tv10 2 ?_;refine rt2 rfl rfl ?_;refine ple ?_
  simp [T_,Jw_,Jv_, *]
theorem P1_ (s:Bs) (hs:s.length≤4611686018427387904:=by first | omega | (simp <;> omega)):Fn Tryz.prog gb 116 [.str s] (.tup [.agg (Frame.pc ((A7_ s).1)), .int .i64 ((A7_ s).2.1), .int .i64 ((A7_ s).2.2)]):=by
  refine fC Tryz.func116 tv10 Tryz.ntmps116 fun w N H hG=>?_;refine gm tv10 10 [0] fun B2=>?_;refine ef (ecallb 1 (Kg_ _) rfl rfl fun w3 b4=>?_);refine gx tv10 6 ?_;refine ef (ecallm (Fl_ (⟨s,0⟩) _) rfl rfl rfl rfl rfl fun w5 w5p=>?_);have :=Bq_ (⟨s,0⟩) 1;refine q1 (qconv tv10 rfl rfl rfl rfl (rg_u8 (by omega))) rfl fun w6=>?_;refine gx tv10 1 ?_;refine ef (ecallm (Fl_ _ _) rfl rfl rfl rfl rfl fun w7 w7p=>?_);have :=Bq_ (((K_ (⟨s,0⟩) 1)).2) 1;refine q1 (qconv tv10 rfl rfl rfl rfl (rg_u8 (by omega))) rfl fun w8=>?_;refine gm tv10 8 [2] fun B10=>?_;refine ef (ecallm (F1_ _ _) rfl rfl rfl rfl rfl fun w11 w11p=>?_);have :=Ch_ (((K_ (((K_ (⟨s,0⟩) 1)).2) 1)).2) 2048;refine gm tv10 7 [] fun _=>?_;refine ef (ecallm (Fl_ _ _) rfl rfl rfl rfl rfl fun w13 w13p=>?_);have :=Bq_ (((M_ (((K_ (((K_ (⟨s,0⟩) 1)).2) 1)).2) 2048)).2) 4;refine gx tv10 1 ?_;refine ef (ecallm (Fl_ _ _) rfl rfl rfl rfl rfl fun w14 w14p=>?_);have :=Bq_ (((K_ (((M_ (((K_ (((K_ (⟨s,0⟩) 1)).2) 1)).2) 2048)).2) 4)).2) 1;refine gx tv10 8 ?_;refine ef (ecallm (Ii_ _) rfl rfl rfl rfl rfl fun w15 w15p=>?_);refine gx tv10 9 ?_;refine cnd rfl (fun h16=>?_) (fun h16=>?_)
  · have h17:=Bo_ h16;have p18:=df h17;refine gm tv10 11 [] fun _=>?_;refine rt3 rfl rfl ?_;refine ple ?_
    first | (simp [A7_,Frame.pc,Frame.zero, *];done) | (simp [A7_,Frame.pc,Frame.zero, *];omega)
  have h20:=Cp_ h16;have p21:=dt h20;refine gy tv10 20 ?_;refine cnd rfl (fun h22=>?_) (fun h22=>?_)
  · have h23:=Bo_ h22;have p24:=df h23;refine gm tv10 11 [] fun _=>?_;refine rt3 rfl rfl ?_;refine ple ?_
    first | (simp [A7_,Frame.pc,Frame.zero, *];done) | (simp [A7_,Frame.pc,Frame.zero, *];omega)
  have h26:=Cp_ h22;have p27:=dt h26;refine gx tv10 4 ?_;refine q1 (sshi tv10 (4+((((M_ (((K_ (((K_ (⟨s,0⟩) 1)).2) 1)).2) 2048)).1).length)) rfl rfl rfl rfl (by omega) (by first | omega | (have :=Oa_ (s:=s) (by assumption);omega))) rfl fun w28=>?_;refine ef (bsl 3 strc [(s.take (4+((((M_ (((K_ (((K_ (⟨s,0⟩) 1)).2) 1)).2) 2048)).1).length)))] tv10 rfl rfl rfl rfl rfl (fun _=>rfl) rfl (by decide) (by decide) rfl fun u29=>?_);refine ef (calll 3 rfl (Ne_ _) rfl rfl rfl fun w30=>?_);have :=H8_ [(s.take (4+((((M_ (((K_ (((K_ (⟨s,0⟩) 1)).2) 1)).2) 2048)).1).length)))];refine gx tv10 6 ?_;refine cnd rfl (fun h31=>?_) (fun h31=>?_)
  · have h32:=Bo_ h31;have p33:=df h32;refine gm tv10 11 [] fun _=>?_;refine rt3 rfl rfl ?_;refine ple ?_
    first | (simp [A7_,Frame.pc,Frame.zero, *];done) | (simp [A7_,Frame.pc,Frame.zero, *];omega)
  have h35:=Cp_ h31;have p36:=dt h35;refine gmy tv10 14 [] fun _=>?_;refine rt3 rfl rfl ?_;refine ple ?_
  first | (simp [A7_,Frame.pc,Frame.zero, *];done) | (simp [A7_,Frame.pc,Frame.zero, *];omega)
end Go.SW.V
set_option linter.unusedVariables false
set_option maxRecDepth 100000
set_option maxHeartbeats 4000000
namespace Go.SW.V
open Go.SW Go.Proofs
abbrev ty51:TI:=⟨.agg [(0,1),(1,1),(2,1),(3,1),(4,1),(5,1),(6,1)],7,96,[.int .u64 0, .str [], .str [], .sl Pair.pc [], .str [], .int .u64 0, .int .u8 0]⟩
abbrev Se_:TI:=⟨.agg [(0,1),(1,1),(2,1),(3,1),(4,1),(5,1),(6,7)],13,144,[.int .u8 0, .int .u8 0, .int .u64 0, .int .u64 0, .bool false, .str [], .int .u64 0, .str [], .str [], .sl Pair.pc [], .str [], .int .u64 0, .int .u8 0]⟩
def tbv11:Tb:=[(4,ty4),(5,ty5),(9,ty9),(27,ty27),(47,ty47),(51,ty51),(137,Se_),(158,Nq_),(285,N6_)]
theorem tv11:tbB Tryz.prog tbv11=true:=by kernel_rfl
theorem Qb_ (m:Mail):Fn Tryz.prog gb 250 [.agg (Mail.pc m)] (.bool (Jd_ m)):=by
  refine fC Tryz.func250 tv11 Tryz.ntmps250 fun w N H hG=>?_;refine gmy tv11 31 [0] fun B2=>?_;refine rt1 rfl rfl ?_;refine ple ?_;refine congrArg PV.bool ?_
  first | (simp [Jd_, *];done) | (rw [Bool.eq_iff_iff];simp [Jd_, *];done) | (rw [Bool.eq_iff_iff];simp [Jd_];grind)
theorem Pf_ (r:Reply):Fn Tryz.prog gb 228 [.agg (Reply.pc r)] (.bool (C2_ r)):=by
  refine fC Tryz.func228 tv11 Tryz.ntmps228 fun w N H hG=>?_;refine gmy tv11 27 [0] fun B2=>?_;refine cnd rfl (fun h3=>?_) (fun h3=>?_)
  · refine gx tv11 7 ?_;refine rt1 rfl rfl ?_;refine ple ?_;refine congrArg PV.bool ?_
    first | (simp [C2_, *];done) | (rw [Bool.eq_iff_iff];simp [C2_, *];done) | (rw [Bool.eq_iff_iff];simp [C2_];grind)
  have h4:=orl h3;have h5:=orl h4;have h6:=Cp_ h5;have p7:=dt h6;have h8:=orr h4;have h9:=Cp_ h8;have p10:=dt h9;have h11:=orr h3;have h12:=Cp_ h11;have p13:=dt h12;refine gy tv11 30 ?_;refine callg rfl (fun hc=>(Qb_ _)) rfl ⟨(fun hc=>hc),trivial⟩ rfl rfl fun _=>?_;refine gy tv11 6 ?_;refine cnd rfl (fun h14=>?_) (fun h14=>?_)
  · refine gx tv11 7 ?_;refine rt1 rfl rfl ?_;refine ple ?_;refine congrArg PV.bool ?_
    first | (simp [C2_, *];done) | (rw [Bool.eq_iff_iff];simp [C2_, *];done) | (rw [Bool.eq_iff_iff];simp [C2_];grind)
  have h15:=orl h14;have h16:=orr h14;refine gx tv11 17 ?_;refine cnd rfl (fun h17=>?_) (fun h17=>?_)
  · have p18:=dt h17;refine gx tv11 2 ?_;refine cndT rfl h17 ?_;refine gx tv11 8 ?_;refine rt1 rfl rfl ?_;refine ple ?_;refine congrArg PV.bool ?_
    first | (simp [C2_, *];done) | (rw [Bool.eq_iff_iff];simp [C2_, *];done) | (rw [Bool.eq_iff_iff];simp [C2_];grind)
  have p19:=df h17;refine gx tv11 5 ?_;refine cnd rfl (fun h20=>?_) (fun h20=>?_)
  · have p21:=dt h20;refine gx tv11 8 ?_;refine rt1 rfl rfl ?_;refine ple ?_;refine congrArg PV.bool ?_
    first | (simp [C2_, *];done) | (rw [Bool.eq_iff_iff];simp [C2_, *];done) | (rw [Bool.eq_iff_iff];simp [C2_];grind)
  have p22:=df h20;refine gx tv11 7 ?_;refine cnd rfl (fun h23=>?_) (fun h23=>?_)
  · have p24:=dt h23;refine gx tv11 2 ?_;refine cndT rfl h23 ?_;refine gx tv11 11 ?_;refine rt1 rfl rfl ?_;refine ple ?_;refine congrArg PV.bool ?_
    first | (simp [C2_, *];done) | (rw [Bool.eq_iff_iff];simp [C2_, *];done) | (rw [Bool.eq_iff_iff];simp [C2_];grind)
  have p25:=df h23;refine gx tv11 6 ?_;refine cnd rfl (fun h26=>?_) (fun h26=>?_)
  · have p27:=dt h26;refine gx tv11 2 ?_;refine cndT rfl h26 ?_;refine gx tv11 11 ?_;refine rt1 rfl rfl ?_;refine ple ?_;refine congrArg PV.bool ?_
    first | (simp [C2_, *];done) | (rw [Bool.eq_iff_iff];simp [C2_, *];done) | (rw [Bool.eq_iff_iff];simp [C2_];grind)
  have p28:=df h26;refine gx tv11 5 ?_;refine cnd rfl (fun h29=>?_) (fun h29=>?_)
  · have p30:=dt h29;refine gx tv11 11 ?_;refine rt1 rfl rfl ?_;refine ple ?_;refine congrArg PV.bool ?_
    first | (simp [C2_, *];done) | (rw [Bool.eq_iff_iff];simp [C2_, *];done) | (rw [Bool.eq_iff_iff];simp [C2_];grind)
  have p31:=df h29;refine gy tv11 17 ?_;refine rt1 rfl rfl ?_;refine ple ?_;refine congrArg PV.bool ?_
  first | (simp [C2_, *];done) | (rw [Bool.eq_iff_iff];simp [C2_, *];done) | (rw [Bool.eq_iff_iff];simp [C2_];grind)
theorem Rx_ (m:Mail):Fn Tryz.prog gb 229 [.agg (Mail.pc m)] (.int .i64 (Li_ m)):=by
  refine fC Tryz.func229 tv11 Tryz.ntmps229 fun w N H hG=>?_;refine gm tv11 10 [0] fun B2=>?_;refine call (Bc_ _) rfl rfl fun w3=>?_;refine gx tv11 10 ?_;refine cnd rfl (fun h4=>?_) (fun h4=>?_)
  · have p5:=dt h4;refine gx tv11 3 ?_;refine call (H9_ _) rfl rfl fun w6=>?_;refine gx tv11 10 ?_;refine cnd rfl (fun h7=>?_) (fun h7=>?_)
    · have p8:=dt h7;refine gx tv11 3 ?_;refine call (Dy_ _) rfl rfl fun w9=>?_;refine gy tv11 16 ?_;refine cnd rfl (fun h10=>?_) (fun h10=>?_)
      · have h11:=bl h10;have p12:=dt h11;have h13:=br h10;have p14:=dt h13;refine gx tv11 11 ?_;refine rt1 rfl rfl ?_;refine ple ?_;refine congrArg (PV.int .i64) ?_
        simp only [Bool.or_eq_true,Bool.and_eq_true,Bool.not_eq_true',decide_eq_true_eq,Bool.or_eq_false_iff,Bool.and_eq_false_iff,Bool.not_eq_false',decide_eq_false_iff_not,beq_iff_eq,beq_eq_false_iff_ne] at *
        unfold Li_
        (repeat' split) <;> first | rfl | (exfalso;omega) | (exfalso;simp_all;done) | (exfalso;simp_all;omega) | grind
      refine gx tv11 9 ?_;refine rt1 rfl rfl ?_;refine ple ?_;refine congrArg (PV.int .i64) ?_
      simp only [Bool.or_eq_true,Bool.and_eq_true,Bool.not_eq_true',decide_eq_true_eq,Bool.or_eq_false_iff,Bool.and_eq_false_iff,Bool.not_eq_false',decide_eq_false_iff_not,beq_iff_eq,beq_eq_false_iff_ne] at *
      unfold Li_
      (repeat' split) <;> first | rfl | (exfalso;omega) | (exfalso;simp_all;done) | (exfalso;simp_all;omega) | grind
    have p15:=df h7;refine gy tv11 15 ?_;refine cnd rfl (fun h16=>?_) (fun h16=>?_)
    · have h17:=bl h16;have p18:=dt h17;have h19:=br h16;have p20:=dt h19;refine gx tv11 11 ?_;refine rt1 rfl rfl ?_;refine ple ?_;refine congrArg (PV.int .i64) ?_
      simp only [Bool.or_eq_true,Bool.and_eq_true,Bool.not_eq_true',decide_eq_true_eq,Bool.or_eq_false_iff,Bool.and_eq_false_iff,Bool.not_eq_false',decide_eq_false_iff_not,beq_iff_eq,beq_eq_false_iff_ne] at *
      unfold Li_
      (repeat' split) <;> first | rfl | (exfalso;omega) | (exfalso;simp_all;done) | (exfalso;simp_all;omega) | grind
    refine gx tv11 9 ?_;refine rt1 rfl rfl ?_;refine ple ?_;refine congrArg (PV.int .i64) ?_
    simp only [Bool.or_eq_true,Bool.and_eq_true,Bool.not_eq_true',decide_eq_true_eq,Bool.or_eq_false_iff,Bool.and_eq_false_iff,Bool.not_eq_false',decide_eq_false_iff_not,beq_iff_eq,beq_eq_false_iff_ne] at *
    unfold Li_
    (repeat' split) <;> first | rfl | (exfalso;omega) | (exfalso;simp_all;done) | (exfalso;simp_all;omega) | grind
  have p21:=df h4;refine gx tv11 9 ?_;refine cndF rfl h4 ?_;refine gy tv11 15 ?_;refine cnd rfl (fun h22=>?_) (fun h22=>?_)
  · have h23:=bl h22;have p24:=dt h23;have h25:=br h22;have p26:=dt h25;refine gx tv11 11 ?_;refine rt1 rfl rfl ?_;refine ple ?_;refine congrArg (PV.int .i64) ?_
    simp only [Bool.or_eq_true,Bool.and_eq_true,Bool.not_eq_true',decide_eq_true_eq,Bool.or_eq_false_iff,Bool.and_eq_false_iff,Bool.not_eq_false',decide_eq_false_iff_not,beq_iff_eq,beq_eq_false_iff_ne] at *
    unfold Li_
    (repeat' split) <;> first | rfl | (exfalso;omega) | (exfalso;simp_all;done) | (exfalso;simp_all;omega) | grind
  refine gx tv11 9 ?_;refine rt1 rfl rfl ?_;refine ple ?_;refine congrArg (PV.int .i64) ?_
  simp only [Bool.or_eq_true,Bool.and_eq_true,Bool.not_eq_true',decide_eq_true_eq,Bool.or_eq_false_iff,Bool.and_eq_false_iff,Bool.not_eq_false',decide_eq_false_iff_not,beq_iff_eq,beq_eq_false_iff_ne] at *
  unfold Li_
  (repeat' split) <;> first | rfl | (exfalso;omega) | (exfalso;simp_all;done) | (exfalso;simp_all;omega) | grind
theorem Pn_ (r:Reply):Fn Tryz.prog gb 189 [.agg (Reply.pc r)] (.int .i64 (Gu_ r)):=by
  refine fC Tryz.func189 tv11 Tryz.ntmps189 fun w N H hG=>?_;refine gm tv11 16 [0] fun B2=>?_;refine cnd rfl (fun h3=>?_) (fun h3=>?_)
  · have p4:=dt h3;refine gx tv11 8 ?_;refine rt1 rfl rfl ?_;refine ple ?_;refine congrArg (PV.int .i64) ?_
    simp only [Bool.or_eq_true,Bool.and_eq_true,Bool.not_eq_true',decide_eq_true_eq,Bool.or_eq_false_iff,Bool.and_eq_false_iff,Bool.not_eq_false',decide_eq_false_iff_not,beq_iff_eq,beq_eq_false_iff_ne] at *
    unfold Gu_
    (repeat' split) <;> first | rfl | (exfalso;omega) | (exfalso;simp_all;done) | (exfalso;simp_all;omega) | grind
  have p5:=df h3;refine gx tv11 3 ?_;refine call (Pf_ _) rfl rfl fun w6=>?_;refine gx tv11 3 ?_;refine cnd rfl (fun h7=>?_) (fun h7=>?_)
  · refine gx tv11 8 ?_;refine rt1 rfl rfl ?_;refine ple ?_;refine congrArg (PV.int .i64) ?_
    simp only [Bool.or_eq_true,Bool.and_eq_true,Bool.not_eq_true',decide_eq_true_eq,Bool.or_eq_false_iff,Bool.and_eq_false_iff,Bool.not_eq_false',decide_eq_false_iff_not,beq_iff_eq,beq_eq_false_iff_ne] at *
    unfold Gu_
    (repeat' split) <;> first | rfl | (exfalso;omega) | (exfalso;simp_all;done) | (exfalso;simp_all;omega) | grind
  refine gx tv11 8 ?_;refine cnd rfl (fun h8=>?_) (fun h8=>?_)
  · have p9:=dt h8;refine gx tv11 4 ?_;refine call (Bc_ _) rfl rfl fun w10=>?_;refine gx tv11 6 ?_;refine rt1 rfl rfl ?_;refine ple ?_;refine congrArg (PV.int .i64) ?_
    simp only [Bool.or_eq_true,Bool.and_eq_true,Bool.not_eq_true',decide_eq_true_eq,Bool.or_eq_false_iff,Bool.and_eq_false_iff,Bool.not_eq_false',decide_eq_false_iff_not,beq_iff_eq,beq_eq_false_iff_ne] at *
    unfold Gu_
    (repeat' split) <;> first | rfl | (exfalso;omega) | (exfalso;simp_all;done) | (exfalso;simp_all;omega) | grind
  have p11:=df h8;refine gx tv11 8 ?_;refine cnd rfl (fun h12=>?_) (fun h12=>?_)
  · have p13:=dt h12;refine gx tv11 4 ?_;refine call (Rx_ _) rfl rfl fun w14=>?_;refine gx tv11 6 ?_;refine rt1 rfl rfl ?_;refine ple ?_;refine congrArg (PV.int .i64) ?_
    simp only [Bool.or_eq_true,Bool.and_eq_true,Bool.not_eq_true',decide_eq_true_eq,Bool.or_eq_false_iff,Bool.and_eq_false_iff,Bool.not_eq_false',decide_eq_false_iff_not,beq_iff_eq,beq_eq_false_iff_ne] at *
    unfold Gu_
    (repeat' split) <;> first | rfl | (exfalso;omega) | (exfalso;simp_all;done) | (exfalso;simp_all;omega) | grind
  have p15:=df h12;refine gx tv11 9 ?_;refine rt1 rfl rfl ?_;refine ple ?_;refine congrArg (PV.int .i64) ?_
  simp only [Bool.or_eq_true,Bool.and_eq_true,Bool.not_eq_true',decide_eq_true_eq,Bool.or_eq_false_iff,Bool.and_eq_false_iff,Bool.not_eq_false',decide_eq_false_iff_not,beq_iff_eq,beq_eq_false_iff_ne] at *
  unfold Gu_
  (repeat' split) <;> first | rfl | (exfalso;omega) | (exfalso;simp_all;done) | (exfalso;simp_all;omega) | grind
theorem Px_ (r:Reply):Fn Tryz.prog gb 149 [.agg (Reply.pc r)] (.tup [.agg (Frame.pc (Cs_ r)), .int .i64 (Gu_ r)]):=by
  refine fC Tryz.func149 tv11 Tryz.ntmps149 fun w N H hG=>?_;have r_w:=Reply.pwf w.1;have r_w':=r_w
  simp only [Reply.wf,Mail.wf] at r_w'
  have r_mail_head_k:=Reply.kd9 w.1;have r_mail_head_k2:r.mail.head.length≤140737488355328:=w.1.2.2.2.2.2.2.2.2.2.1.1;refine gm tv11 11 [0,1] fun B2=>?_;refine call (Pn_ _) rfl rfl fun w4=>?_;have hrl:=Sd_ r;refine gx tv11 9 ?_;refine cnd rfl (fun h5=>?_) (fun h5=>?_)
  · have h6:=Bo_ h5;have p7:=df h6;refine gm tv11 10 [] fun _=>?_;refine rt2 rfl rfl ?_;refine ple ?_
    simp [Cs_,Eg_,Dp_,Frame.pc,Frame.zero, *]
  have h9:=Cp_ h5;have p10:=dt h9;refine gm tv11 21 [2] fun B12=>?_;refine cnd rfl (fun h13=>?_) (fun h13=>?_)
  · have p14:=dt h13;refine gx tv11 4 ?_;refine call (Ak_ (⟨[],0⟩:Out) _) rfl rfl fun w15=>?_;have nl0:(⟨[],0⟩:Out).s.length=0:=rfl;have :=L_ (⟨[],0⟩:Out) r.name;refine gm tv11 12 [] fun _=>?_;refine cndF rfl (fd (by omega)) ?_;refine gx tv11 3 ?_;refine aN [1,3,4,5,6,7,8] 10 mixd ?_;have :=Na_ (64+r.kind);refine gX tv11 [0,1,2,3,4,5] 4 ?_;refine vC 6 rfl (Aa_ _) rfl fun w17=>?_;refine gX tv11 [7] 2 ?_;refine vT 8 rfl (sA tv11 ?_);refine gX tv11 [9] 0 ?_;refine vD ?_;refine gx tv11 2 ?_;refine rt2 rfl rfl ?_;refine ple ?_
    simp [Cs_,Eg_,Dp_,Frame.pc,Frame.zero, *]
  have p18:=df h13;refine gx tv11 7 ?_;refine cnd rfl (fun h19=>?_) (fun h19=>?_)
  · have p20:=dt h19;refine gx tv11 2 ?_;refine cndT rfl h19 ?_;refine gx tv11 4 ?_;refine call (out_Num (⟨[],0⟩:Out) _ _ (by first | omega | (have :=hrl (by assumption);omega) | (simp [A_,J_,G_,numK] <;> omega) | (have :=hrl (by assumption);simp [A_,J_,G_,numK] <;> omega))) rfl rfl fun w21=>?_;have nl0:(⟨[],0⟩:Out).s.length=0:=rfl;have :=I_ (⟨[],0⟩:Out) r.n 8;refine gm tv11 12 [] fun _=>?_;refine cndF rfl (fd (by omega)) ?_;refine gx tv11 3 ?_;refine aN [1,3,4,5,6,7,8] 10 mixd ?_;have :=Na_ (64+r.kind);refine gX tv11 [0,1,2,3,4,5] 4 ?_;refine vC 6 rfl (Aa_ _) rfl fun w23=>?_;refine gX tv11 [7] 2 ?_;refine vT 8 rfl (sA tv11 ?_);refine gX tv11 [9] 0 ?_;refine vD ?_;refine gx tv11 2 ?_;refine rt2 rfl rfl ?_;refine ple ?_
    simp [Cs_,Eg_,Dp_,Frame.pc,Frame.zero, *]
  have p24:=df h19;refine gx tv11 6 ?_;refine cnd rfl (fun h25=>?_) (fun h25=>?_)
  · have p26:=dt h25;refine gx tv11 2 ?_;refine cndT rfl h25 ?_;refine gx tv11 4 ?_;refine call (out_Num (⟨[],0⟩:Out) _ _ (by first | omega | (have :=hrl (by assumption);omega) | (simp [A_,J_,G_,numK] <;> omega) | (have :=hrl (by assumption);simp [A_,J_,G_,numK] <;> omega))) rfl rfl fun w27=>?_;have nl0:(⟨[],0⟩:Out).s.length=0:=rfl;have :=I_ (⟨[],0⟩:Out) r.n 8;refine gm tv11 12 [] fun _=>?_;refine cndF rfl (fd (by omega)) ?_;refine gx tv11 3 ?_;refine aN [1,3,4,5,6,7,8] 10 mixd ?_;have :=Na_ (64+r.kind);refine gX tv11 [0,1,2,3,4,5] 4 ?_;refine vC 6 rfl (Aa_ _) rfl fun w29=>?_;refine gX tv11 [7] 2 ?_;refine vT 8 rfl (sA tv11 ?_);refine gX tv11 [9] 0 ?_;refine vD ?_;refine gx tv11 2 ?_;refine rt2 rfl rfl ?_;refine ple ?_
    simp [Cs_,Eg_,Dp_,Frame.pc,Frame.zero, *]
  have p30:=df h25;refine gx tv11 5 ?_;refine cnd rfl (fun h31=>?_) (fun h31=>?_)
  · have p32:=dt h31;refine gx tv11 4 ?_;refine call (out_Num (⟨[],0⟩:Out) _ _ (by first | omega | (have :=hrl (by assumption);omega) | (simp [A_,J_,G_,numK] <;> omega) | (have :=hrl (by assumption);simp [A_,J_,G_,numK] <;> omega))) rfl rfl fun w33=>?_;have nl0:(⟨[],0⟩:Out).s.length=0:=rfl;have :=I_ (⟨[],0⟩:Out) r.n 8;refine gm tv11 12 [] fun _=>?_;refine cndF rfl (fd (by omega)) ?_;refine gx tv11 3 ?_;refine aN [1,3,4,5,6,7,8] 10 mixd ?_;have :=Na_ (64+r.kind);refine gX tv11 [0,1,2,3,4,5] 4 ?_;refine vC 6 rfl (Aa_ _) rfl fun w35=>?_;refine gX tv11 [7] 2 ?_;refine vT 8 rfl (sA tv11 ?_);refine gX tv11 [9] 0 ?_;refine vD ?_;refine gx tv11 2 ?_;refine rt2 rfl rfl ?_;refine ple ?_
    simp [Cs_,Eg_,Dp_,Frame.pc,Frame.zero, *]
  have p36:=df h31;refine gx tv11 7 ?_;refine cnd rfl (fun h37=>?_) (fun h37=>?_)
  · have p38:=dt h37;refine gx tv11 2 ?_;refine cndT rfl h37 ?_;refine aN [3,4,5,6,7,8] 8 mixd ?_;refine gX tv11 [0,1,2] 5 ?_;refine vC 3 rfl (out_Num (⟨[],0⟩:Out) _ _ (by first | omega | (have :=hrl (by assumption);omega) | (simp [A_,J_,G_,numK] <;> omega) | (have :=hrl (by assumption);simp [A_,J_,G_,numK] <;> omega))) rfl fun w39=>?_;have nl0:(⟨[],0⟩:Out).s.length=0:=rfl;have :=I_ (⟨[],0⟩:Out) r.n 8;refine gX tv11 [4,5] 2 ?_;refine vC 6 rfl (out_Num _ _ _ (by first | omega | (have :=hrl (by assumption);omega) | (simp [A_,J_,G_,numK] <;> omega) | (have :=hrl (by assumption);simp [A_,J_,G_,numK] <;> omega))) rfl fun w40=>?_;have :=I_ (A_ (⟨[],0⟩:Out) r.n 8) r.m 8;refine vT 7 rfl (sA tv11 ?_);refine vD ?_;refine gx tv11 10 ?_;refine cndT rfl h37 ?_;refine gx tv11 12 ?_;refine cnd rfl (fun h41=>?_) (fun h41=>?_)
    · refine gx tv11 9 ?_;refine call (Eb_ _) rfl rfl fun w42=>?_;have :=Cf_ r.mail.head;refine gx tv11 7 ?_;refine aN [3,4,5,6,7,8] 18 mixd ?_;refine gX tv11 [0,1] 16 ?_;refine vC 2 rfl (out_Num _ _ _ (by first | omega | (have :=hrl (by assumption);omega) | (simp [A_,J_,G_,numK] <;> omega) | (have :=hrl (by assumption);simp [A_,J_,G_,numK] <;> omega))) rfl fun w43=>?_;have :=I_ (A_ (A_ (⟨[],0⟩:Out) r.n 8) r.m 8) 1 1;refine gX tv11 [3,4,5] 12 ?_;refine vC 6 rfl (Ak_ _ _) rfl fun w44=>?_;have :=L_ (A_ (A_ (A_ (⟨[],0⟩:Out) r.n 8) r.m 8) 1 1) r.mail.shop;refine gX tv11 [7,8,9] 8 ?_;refine vC 10 rfl (Ak_ _ _) rfl fun w45=>?_;have :=L_ (B_ (A_ (A_ (A_ (⟨[],0⟩:Out) r.n 8) r.m 8) 1 1) r.mail.shop) r.mail.key;refine gX tv11 [11] 6 ?_;refine vC 12 rfl (Ft_ _ _) rfl fun w46=>?_;have :=C6_ (B_ (B_ (A_ (A_ (A_ (⟨[],0⟩:Out) r.n 8) r.m 8) 1 1) r.mail.shop) r.mail.key) (Y_ r.mail.head);refine gX tv11 [13,14,15] 2 ?_;refine vC 16 rfl (Ak_ _ _) rfl fun w47=>?_;have :=L_ (J_ (B_ (B_ (A_ (A_ (A_ (⟨[],0⟩:Out) r.n 8) r.m 8) 1 1) r.mail.shop) r.mail.key) (Y_ r.mail.head)) r.mail.body;refine vT 17 rfl (sA tv11 ?_);refine vD ?_;refine gx tv11 2 ?_;refine aN [1,3,4,5,6,7,8] 10 mixd ?_;have :=Na_ (64+r.kind);refine gX tv11 [0,1,2,3,4,5] 4 ?_;refine vC 6 rfl (Aa_ _) rfl fun w48=>?_;refine gX tv11 [7] 2 ?_;refine vT 8 rfl (sA tv11 ?_);refine gX tv11 [9] 0 ?_;refine vD ?_;refine gx tv11 2 ?_;refine rt2 rfl rfl ?_;refine ple ?_
      simp [Cs_,Eg_,Dp_,Frame.pc,Frame.zero, *]
    refine gx tv11 7 ?_;refine call (Eb_ _) rfl rfl fun w49=>?_;have :=Cf_ r.mail.head;refine gx tv11 7 ?_;refine aN [3,4,5,6,7,8] 18 mixd ?_;refine gX tv11 [0,1] 16 ?_;refine vC 2 rfl (out_Num _ _ _ (by first | omega | (have :=hrl (by assumption);omega) | (simp [A_,J_,G_,numK] <;> omega) | (have :=hrl (by assumption);simp [A_,J_,G_,numK] <;> omega))) rfl fun w50=>?_;have :=I_ (A_ (A_ (⟨[],0⟩:Out) r.n 8) r.m 8) 0 1;refine gX tv11 [3,4,5] 12 ?_;refine vC 6 rfl (Ak_ _ _) rfl fun w51=>?_;have :=L_ (A_ (A_ (A_ (⟨[],0⟩:Out) r.n 8) r.m 8) 0 1) r.mail.shop;refine gX tv11 [7,8,9] 8 ?_;refine vC 10 rfl (Ak_ _ _) rfl fun w52=>?_;have :=L_ (B_ (A_ (A_ (A_ (⟨[],0⟩:Out) r.n 8) r.m 8) 0 1) r.mail.shop) r.mail.key;refine gX tv11 [11] 6 ?_;refine vC 12 rfl (Ft_ _ _) rfl fun w53=>?_;have :=C6_ (B_ (B_ (A_ (A_ (A_ (⟨[],0⟩:Out) r.n 8) r.m 8) 0 1) r.mail.shop) r.mail.key) (Y_ r.mail.head);refine gX tv11 [13,14,15] 2 ?_;refine vC 16 rfl (Ak_ _ _) rfl fun w54=>?_;have :=L_ (J_ (B_ (B_ (A_ (A_ (A_ (⟨[],0⟩:Out) r.n 8) r.m 8) 0 1) r.mail.shop) r.mail.key) (Y_ r.mail.head)) r.mail.body;refine vT 17 rfl (sA tv11 ?_);refine vD ?_;refine gx tv11 2 ?_;refine aN [1,3,4,5,6,7,8] 10 mixd ?_;have :=Na_ (64+r.kind);refine gX tv11 [0,1,2,3,4,5] 4 ?_;refine vC 6 rfl (Aa_ _) rfl fun w55=>?_;refine gX tv11 [7] 2 ?_;refine vT 8 rfl (sA tv11 ?_);refine gX tv11 [9] 0 ?_;refine vD ?_;refine gx tv11 2 ?_;refine rt2 rfl rfl ?_;refine ple ?_
    simp [Cs_,Eg_,Dp_,Frame.pc,Frame.zero, *]
  have p56:=df h37;refine gx tv11 5 ?_;refine cnd rfl (fun h57=>?_) (fun h57=>?_)
  · have p58:=dt h57;refine aN [3,4,5,6,7,8] 8 mixd ?_;refine gX tv11 [0,1,2] 5 ?_;refine vC 3 rfl (out_Num (⟨[],0⟩:Out) _ _ (by first | omega | (have :=hrl (by assumption);omega) | (simp [A_,J_,G_,numK] <;> omega) | (have :=hrl (by assumption);simp [A_,J_,G_,numK] <;> omega))) rfl fun w59=>?_;have nl0:(⟨[],0⟩:Out).s.length=0:=rfl;have :=I_ (⟨[],0⟩:Out) r.n 8;refine gX tv11 [4,5] 2 ?_;refine vC 6 rfl (out_Num _ _ _ (by first | omega | (have :=hrl (by assumption);omega) | (simp [A_,J_,G_,numK] <;> omega) | (have :=hrl (by assumption);simp [A_,J_,G_,numK] <;> omega))) rfl fun w60=>?_;have :=I_ (A_ (⟨[],0⟩:Out) r.n 8) r.m 8;refine vT 7 rfl (sA tv11 ?_);refine vD ?_;refine gx tv11 10 ?_;refine cndF rfl h37 ?_;refine gx tv11 3 ?_;refine aN [1,3,4,5,6,7,8] 10 mixd ?_;have :=Na_ (64+r.kind);refine gX tv11 [0,1,2,3,4,5] 4 ?_;refine vC 6 rfl (Aa_ _) rfl fun w61=>?_;refine gX tv11 [7] 2 ?_;refine vT 8 rfl (sA tv11 ?_);refine gX tv11 [9] 0 ?_;refine vD ?_;refine gx tv11 2 ?_;refine rt2 rfl rfl ?_;refine ple ?_
    simp [Cs_,Eg_,Dp_,Frame.pc,Frame.zero, *]
  have p62:=df h57;refine gx tv11 11 ?_;refine cndF rfl h37 ?_;refine gx tv11 3 ?_;refine aN [1,3,4,5,6,7,8] 10 mixd ?_;have :=Na_ (64+r.kind);refine gX tv11 [0,1,2,3,4,5] 4 ?_;refine vC 6 rfl (Aa_ (⟨[],0⟩:Out)) rfl fun w63=>?_;refine gX tv11 [7] 2 ?_;refine vT 8 rfl (sA tv11 ?_);refine gX tv11 [9] 0 ?_;refine vD ?_;refine gx tv11 2 ?_;refine rt2 rfl rfl ?_;refine ple ?_
  simp [Cs_,Eg_,Dp_,Frame.pc,Frame.zero, *]
end Go.SW.V
set_option linter.unusedVariables false
set_option maxRecDepth 100000
set_option maxHeartbeats 4000000
namespace Go.SW.V
open Go.SW Go.Proofs
theorem cb74:U_ Tryz.prog 74:=S_ Tryz.func74 (by kernel_rfl) (by kernel_rfl)
abbrev ty70:TI:=⟨.agg [(0,1),(1,1)],2,24,[.str [], .int .i64 0]⟩
abbrev ty154:TI:=⟨.slc 158,1,24,[.sl Frame.pc []]⟩
def tbv12:Tb:=[(9,ty9),(40,ty40),(70,ty70),(154,ty154),(158,Nq_)]
theorem tv12:tbB Tryz.prog tbv12=true:=by kernel_rfl
theorem Kx_ (f:Feed) (chunk:Bs) (hfl:f.rest.length+chunk.length≤4000000000:=by first | omega | (simp;done) | (simp;omega) | (simp only [List.length_nil,List.length_take,List.length_drop];omega) | decide +kernel):Fo Tryz.prog gb 74 [.agg (Feed.pc f), .str chunk] (fun u=> .tup [.agg (Feed.pc ((P_ f chunk).1)), .val u]) 3 158 Frame.pc ((P_ f chunk).2):=by
  refine Lj_ tv12 Tryz.func74 rfl Tryz.ntmps74 rfl cb74 (fun _=>rfl) rfl fun w N H hG=>?_;refine gm tv12 16 [0,1] fun B2=>?_;refine cnd rfl (fun h4=>?_) (fun h4=>?_)
  · have h5:=Bo_ h4;have p6:=df h5;refine gm tv12 7 [] fun _=>?_;refine sw_own (t:=5) (k:=3) (e:=158) 2 Frame.pc rfl rfl ?_;refine sw_val (t:=5) (i:=2) rfl rfl ?_;refine gx tv12 3 ?_;refine ro2 (j:=2) rfl rfl rfl ?_ ?_
    · simp [P_, *]
    exact ple (by simp [P_,Feed.pc, *])
  have h8:=Cp_ h4;have p9:=dt h8;refine gmp tv12 22 [] (fun _=>rfl) (fun _=>rfl) (fun _=>⟨(by first | omega | (simp <;> omega)),trivial⟩) fun _=>?_;refine sw_own (t:=6) (k:=3) (e:=158) 2 Frame.pc rfl rfl ?_;refine loop (ι:=Nat×(List Frame)×Value×Feed) [0,1,2,4,5,10,11,12,14,15,16,17,18] [1] (fun ⟨k,out,u_out,g⟩=>[(6, .osl 2)]) (fun ⟨k,out,u_out,g⟩=>[(2, .arr u_out 3 158 Frame.pc out),(0, .box (B2 0) 70 [.str g.rest, .int .i64 g.err])]) (fun ⟨k,out,u_out,g⟩=>P_ f chunk=Bn_ k g.rest out∧g.err=f.err∧g.rest.length<k∧(g.rest.length:Int)+out.length≤f.rest.length+chunk.length) (fun ⟨k,out,u_out,g⟩=>k) ⟨((f.rest++chunk).length+1),[],(.slice none 0 0),(⟨(f.rest++chunk),f.err⟩:Feed)⟩ ⟨rfl,trivial⟩ ⟨rfl,rfl,trivial⟩ ?_ ?_
  · exact ⟨by simp [P_, *],rfl,by simp,by simp⟩
  rintro ⟨k,out,u_out,g⟩ hp11;obtain ⟨hk1,hk4,hk2,hk3⟩:=hp11;refine gx tv12 5 ?_;refine call (P1_ _) rfl rfl fun w12=>?_;have hpo:=Io_ g.rest;refine gm tv12 22 [3] fun B14=>?_;refine cnd rfl (fun h15=>?_) (fun h15=>?_)
  · have p16:=dt h15;refine gx tv12 4 ?_;refine ef (bsl 4 Frame.pc [((A7_ g.rest).1)] tv12 rfl rfl rfl rfl rfl (fun _=>rfl) rfl (by decide) (by decide) rfl fun u17=>?_);refine ef (app tv12 [((A7_ g.rest).1)] rfl rfl rfl rfl rfl rfl rfl rfl rfl (src_o rfl rfl) (by first | omega | (simp;omega)) rfl fun u18=>?_);refine gx tv12 7 ?_;refine q1 (sslo tv12 ((A7_ g.rest).2.1).toNat rfl rfl rfl rfl (by omega) (by first | omega | (have :=hpo (by assumption);omega))) rfl fun w19=>?_;refine gm tv12 5 [] fun _=>?_;refine next ⟨(k-1),(out++[((A7_ g.rest).1)]),(u18),(⟨(g.rest.drop ((A7_ g.rest).2.1).toNat),g.err⟩:Feed)⟩ rfl rfl ⟨rfl,trivial⟩ ⟨rfl,rfl,trivial⟩ ?_ ?_
    · (try simp only []);omega
    try simp only []
    have hp0:(A7_ g.rest).2.2=0:=by assumption
    have hpo:=hpo hp0;refine ⟨?_,hk4,by simp;omega,by simp;omega⟩;obtain ⟨j,rfl⟩:∃ j,k=j+1:=⟨k-1,by omega⟩
    rw [hk1]
    simp only [Bn_,Nat.add_sub_cancel]
    rw [if_pos hp0]
  have p21:=df h15;refine gx tv12 6 ?_;refine cnd rfl (fun h22=>?_) (fun h22=>?_)
  · have p23:=dt h22;refine gm tv12 14 [] fun _=>?_;refine sw_val (t:=5) (i:=2) rfl rfl ?_;refine gx tv12 2 ?_;refine ro2 (j:=2) rfl rfl rfl ?_ ?_
    · have e:P_ f chunk=(⟨g.rest,g.err⟩,out):=by
        obtain ⟨j,rfl⟩:∃ j,k=j+1:=⟨k-1,by omega⟩
        rw [hk1]
        simp [Bn_, *]
      rw [e]
    have e:P_ f chunk=(⟨g.rest,g.err⟩,out):=by
      obtain ⟨j,rfl⟩:∃ j,k=j+1:=⟨k-1,by omega⟩
      rw [hk1]
      simp [Bn_, *]
    exact ple (by rw [e];rfl)
  have p25:=df h22;refine gm tv12 21 [] fun _=>?_;refine sw_val (t:=5) (i:=2) rfl rfl ?_;refine gx tv12 2 ?_;refine ro2 (j:=2) rfl rfl rfl ?_ ?_
  · have e:P_ f chunk=(⟨[],(A7_ g.rest).2.2⟩,out):=by
      obtain ⟨j,rfl⟩:∃ j,k=j+1:=⟨k-1,by omega⟩
      rw [hk1]
      simp [Bn_, *]
    rw [e]
  have e:P_ f chunk=(⟨[],(A7_ g.rest).2.2⟩,out):=by
    obtain ⟨j,rfl⟩:∃ j,k=j+1:=⟨k-1,by omega⟩
    rw [hk1]
    simp [Bn_, *]
  exact ple (by rw [e];rfl)
theorem Wf_ (f:Feed):Fn Tryz.prog gb 146 [.agg (Feed.pc f)] (.str f.rest):=by
  refine fC Tryz.func146 tv12 Tryz.ntmps146 fun w N H hG=>?_;refine gm tv12 14 [0] fun B2=>?_;refine rt1 rfl rfl ?_;refine ple ?_
  rfl
theorem Qh_ (f:Feed):Fn Tryz.prog gb 76 [.agg (Feed.pc f)] (.int .i64 f.err):=by
  refine fC Tryz.func76 tv12 Tryz.ntmps76 fun w N H hG=>?_;refine gm tv12 14 [0] fun B2=>?_;refine rt1 rfl rfl ?_;refine ple ?_
  rfl
end Go.SW.V
set_option linter.unusedVariables false
set_option maxRecDepth 100000
set_option maxHeartbeats 4000000
namespace Go.SW.V
open Go.SW Go.Proofs
theorem ag27:Ag Tryz.prog 27 false:=fun w=>by kernel_rfl
theorem eqg44:Tryz.prog.eqGuardType Tryz.prog.depth 44=false:=by kernel_rfl
theorem eqg46:Tryz.prog.eqGuardType Tryz.prog.depth 46=false:=by kernel_rfl
theorem veq44 (p q:ShopR):∀ (H:Hp) (vs us:List Value),Sims H (ShopR.pc p) vs→Sims H (ShopR.pc q) us→EqV Tryz.prog 10000 44 (.agg vs.toArray) (.agg us.toArray) (decide (p=q)):=by
  intro H vs us hv hu;obtain ⟨_,_,rfl,v0,v_0⟩:=hv.inv_cons;obtain ⟨_,_,rfl,v1,v_1⟩:=v_0.inv_cons;obtain ⟨_,_,rfl,v2,v_2⟩:=v_1.inv_cons
  cases v_2.inv_nil
  cases v0.inv_str.1;cases v1.inv_int.1;cases v2.inv_str.1
  obtain ⟨_,_,rfl,u0,u_0⟩:=hu.inv_cons;obtain ⟨_,_,rfl,u1,u_1⟩:=u_0.inv_cons;obtain ⟨_,_,rfl,u2,u_2⟩:=u_1.inv_cons
  cases u_2.inv_nil
  cases u0.inv_str.1;cases u1.inv_int.1;cases u2.inv_str.1
  exact EqV.to (Nj_ Tryz.underlying44 (by kernel_rfl) (I0_ (by decide) ag9 rfl rfl (Hp_ Tryz.underlying9) (I0_ (by decide) ag5 rfl rfl (I5_ Tryz.underlying5) (I0_ (by decide) ag9 rfl rfl (Hp_ Tryz.underlying9) Nd_)))) (by obtain ⟨a0,a1,a2⟩:=p;obtain ⟨b0,b1,b2⟩:=q;rw [Bool.eq_iff_iff];simp)
theorem veq46 (p q:Al_):∀ (H:Hp) (vs us:List Value),Sims H (Al_.pc p) vs→Sims H (Al_.pc q) us→EqV Tryz.prog 10000 46 (.agg vs.toArray) (.agg us.toArray) (decide (p=q)):=by
  intro H vs us hv hu;obtain ⟨_,_,rfl,v0,v_0⟩:=hv.inv_cons;obtain ⟨_,_,rfl,v1,v_1⟩:=v_0.inv_cons;obtain ⟨_,_,rfl,v2,v_2⟩:=v_1.inv_cons;obtain ⟨_,_,rfl,v3,v_3⟩:=v_2.inv_cons
  cases v_3.inv_nil
  cases v0.inv_str.1;cases v1.inv_int.1;cases v2.inv_int.1;cases v3.inv_str.1
  obtain ⟨_,_,rfl,u0,u_0⟩:=hu.inv_cons;obtain ⟨_,_,rfl,u1,u_1⟩:=u_0.inv_cons;obtain ⟨_,_,rfl,u2,u_2⟩:=u_1.inv_cons;obtain ⟨_,_,rfl,u3,u_3⟩:=u_2.inv_cons
  cases u_3.inv_nil
  cases u0.inv_str.1;cases u1.inv_int.1;cases u2.inv_int.1;cases u3.inv_str.1
  exact EqV.to (Nj_ Tryz.underlying46 (by kernel_rfl) (I0_ (by decide) ag9 rfl rfl (Hp_ Tryz.underlying9) (I0_ (by decide) ag27 rfl rfl (I5_ Tryz.underlying27) (I0_ (by decide) ag27 rfl rfl (I5_ Tryz.underlying27) (I0_ (by decide) ag9 rfl rfl (Hp_ Tryz.underlying9) Nd_))))) (by obtain ⟨a0,a1,a2,a3⟩:=p;obtain ⟨b0,b1,b2,b3⟩:=q;rw [Bool.eq_iff_iff];simp)
abbrev ty44:TI:=⟨.agg [(0,1),(1,1),(2,1)],3,40,[.str [], .int .u8 0, .str []]⟩
abbrev ty46:TI:=⟨.agg [(0,1),(1,1),(2,1),(3,1)],4,48,[.str [], .int .u64 0, .int .u64 0, .str []]⟩
abbrev ty53:TI:=⟨.agg [(0,1),(1,1),(2,3),(5,4),(9,6),(15,1),(16,1),(17,1),(18,1),(19,1),(20,1),(21,7),(28,1)],29,344,[.int .u8 0, .int .u64 0, .str [], .int .u8 0, .str [], .str [], .int .u64 0, .int .u64 0, .str [], .str [], .str [], .bool false, .str [], .sl Pair.pc [], .bool false, .str [], .int .u64 0, .int .u8 0, .int .u8 0, .int .u8 0, .int .u64 0, .int .u64 0, .str [], .str [], .sl Pair.pc [], .str [], .int .u64 0, .int .u8 0, .str []]⟩
def tbv14:Tb:=[(5,ty5),(9,ty9),(27,ty27),(44,ty44),(46,ty46),(47,ty47),(49,ty49),(51,ty51),(53,ty53),(285,N6_)]
theorem tv14:tbB Tryz.prog tbv14=true:=by kernel_rfl
theorem I9_ (m:Mail):Fn Tryz.prog gb 220 [.agg (Mail.pc m)] (.int .i64 (Gw_ m)):=by
  refine fC Tryz.func220 tv14 Tryz.ntmps220 fun w N H hG=>?_;refine gm tv14 11 [0] fun B2=>?_;refine call (Bc_ _) rfl rfl fun w3=>?_;refine gx tv14 9 ?_;refine cnd rfl (fun h4=>?_) (fun h4=>?_)
  · have h5:=Bo_ h4;have p6:=df h5;refine gx tv14 8 ?_;refine rt1 rfl rfl ?_;refine ple ?_;refine congrArg (PV.int .i64) ?_
    simp only [Bool.or_eq_true,Bool.and_eq_true,Bool.not_eq_true',decide_eq_true_eq,Bool.or_eq_false_iff,Bool.and_eq_false_iff,Bool.not_eq_false',decide_eq_false_iff_not,beq_iff_eq,beq_eq_false_iff_ne] at *
    unfold Gw_
    (repeat' split) <;> first | rfl | (exfalso;omega) | (exfalso;simp_all;done) | (exfalso;simp_all;omega) | grind
  have h7:=Cp_ h4;have p8:=dt h7;refine gx tv14 7 ?_;refine call (H9_ _) rfl rfl fun w9=>?_;refine gx tv14 9 ?_;refine cnd rfl (fun h10=>?_) (fun h10=>?_)
  · have h11:=Bo_ h10;have p12:=df h11;refine gx tv14 8 ?_;refine rt1 rfl rfl ?_;refine ple ?_;refine congrArg (PV.int .i64) ?_
    simp only [Bool.or_eq_true,Bool.and_eq_true,Bool.not_eq_true',decide_eq_true_eq,Bool.or_eq_false_iff,Bool.and_eq_false_iff,Bool.not_eq_false',decide_eq_false_iff_not,beq_iff_eq,beq_eq_false_iff_ne] at *
    unfold Gw_
    (repeat' split) <;> first | rfl | (exfalso;omega) | (exfalso;simp_all;done) | (exfalso;simp_all;omega) | grind
  have h13:=Cp_ h10;have p14:=dt h13;refine gx tv14 7 ?_;refine call (Dy_ _) rfl rfl fun w15=>?_;refine gx tv14 11 ?_;refine cnd rfl (fun h16=>?_) (fun h16=>?_)
  · have h17:=Bo_ h16;have p18:=df h17;refine gx tv14 9 ?_;refine rt1 rfl rfl ?_;refine ple ?_;refine congrArg (PV.int .i64) ?_
    simp only [Bool.or_eq_true,Bool.and_eq_true,Bool.not_eq_true',decide_eq_true_eq,Bool.or_eq_false_iff,Bool.and_eq_false_iff,Bool.not_eq_false',decide_eq_false_iff_not,beq_iff_eq,beq_eq_false_iff_ne] at *
    unfold Gw_
    (repeat' split) <;> first | rfl | (exfalso;omega) | (exfalso;simp_all;done) | (exfalso;simp_all;omega) | grind
  have h19:=Cp_ h16;have p20:=dt h19;refine gx tv14 9 ?_;refine cnd rfl (fun h21=>?_) (fun h21=>?_)
  · have p22:=dt h21;refine gx tv14 8 ?_;refine rt1 rfl rfl ?_;refine ple ?_;refine congrArg (PV.int .i64) ?_
    simp only [Bool.or_eq_true,Bool.and_eq_true,Bool.not_eq_true',decide_eq_true_eq,Bool.or_eq_false_iff,Bool.and_eq_false_iff,Bool.not_eq_false',decide_eq_false_iff_not,beq_iff_eq,beq_eq_false_iff_ne] at *
    unfold Gw_
    (repeat' split) <;> first | rfl | (exfalso;omega) | (exfalso;simp_all;done) | (exfalso;simp_all;omega) | grind
  have p23:=df h21;refine gx tv14 8 ?_;refine cnd rfl (fun h24=>?_) (fun h24=>?_)
  · have p25:=dt h24;refine gx tv14 8 ?_;refine rt1 rfl rfl ?_;refine ple ?_;refine congrArg (PV.int .i64) ?_
    simp only [Bool.or_eq_true,Bool.and_eq_true,Bool.not_eq_true',decide_eq_true_eq,Bool.or_eq_false_iff,Bool.and_eq_false_iff,Bool.not_eq_false',decide_eq_false_iff_not,beq_iff_eq,beq_eq_false_iff_ne] at *
    unfold Gw_
    (repeat' split) <;> first | rfl | (exfalso;omega) | (exfalso;simp_all;done) | (exfalso;simp_all;omega) | grind
  have p26:=df h24;refine gx tv14 9 ?_;refine rt1 rfl rfl ?_;refine ple ?_;refine congrArg (PV.int .i64) ?_
  simp only [Bool.or_eq_true,Bool.and_eq_true,Bool.not_eq_true',decide_eq_true_eq,Bool.or_eq_false_iff,Bool.and_eq_false_iff,Bool.not_eq_false',decide_eq_false_iff_not,beq_iff_eq,beq_eq_false_iff_ne] at *
  unfold Gw_
  (repeat' split) <;> first | rfl | (exfalso;omega) | (exfalso;simp_all;done) | (exfalso;simp_all;omega) | grind
theorem Lv_ (m:Mail):Fn Tryz.prog gb 238 [.agg (Mail.pc m)] (.tup [.str (Co_ m), .int .i64 (Gw_ m)]):=by
  refine fC Tryz.func238 tv14 Tryz.ntmps238 fun w N H hG=>?_;have m_w:=Mail.pwf w.1;have m_w':=m_w
  simp only [Mail.wf] at m_w'
  have m_head_k:=Mail.kd3 w.1;have m_head_k2:m.head.length≤140737488355328:=w.1.2.2.2.1.1;refine gm tv14 11 [0] fun B2=>?_;refine call (I9_ _) rfl rfl fun w3=>?_;have :=Nv_ m;have hmo3:=fun h=>F2_ (m:=m) h;refine gx tv14 9 ?_;refine cnd rfl (fun h4=>?_) (fun h4=>?_)
  · have h5:=Bo_ h4;have p6:=df h5;refine gx tv14 9 ?_;refine rt2 rfl rfl ?_;refine ple ?_
    simp [Co_,Ky_, *]
  have h7:=Cp_ h4;have p8:=dt h7;refine gx tv14 6 ?_;refine call (Eb_ _) rfl rfl fun w9=>?_;have :=Cf_ m.head;refine gx tv14 8 ?_;refine aN [1,2,3,4,5,6] 17 mixd ?_;refine gX tv14 [0,1,2] 14 ?_;refine vC 3 rfl (out_Num (⟨[],0⟩:Out) _ _ (by first | omega | (have :=hrl (by assumption);omega) | (simp [A_,J_,G_,numK] <;> omega) | (have :=hrl (by assumption);simp [A_,J_,G_,numK] <;> omega))) rfl fun w10=>?_;have nl0:(⟨[],0⟩:Out).s.length=0:=rfl;have :=I_ (⟨[],0⟩:Out) m.id 8;refine gX tv14 [4,5] 11 ?_;refine vC 6 rfl (Ak_ _ _) rfl fun w11=>?_;have :=L_ (A_ (⟨[],0⟩:Out) m.id 8) m.shop;refine gX tv14 [7,8] 8 ?_;refine vC 9 rfl (Ak_ _ _) rfl fun w12=>?_;have :=L_ (B_ (A_ (⟨[],0⟩:Out) m.id 8) m.shop) m.key;refine gX tv14 [10] 6 ?_;refine vC 11 rfl (Ft_ _ _) rfl fun w13=>?_;have :=C6_ (B_ (B_ (A_ (⟨[],0⟩:Out) m.id 8) m.shop) m.key) (Y_ m.head);refine gX tv14 [12,13] 3 ?_;refine vC 14 rfl (Ak_ _ _) rfl fun w14=>?_;have :=L_ (J_ (B_ (B_ (A_ (⟨[],0⟩:Out) m.id 8) m.shop) m.key) (Y_ m.head)) m.body;refine vE 15 rfl (aL tv14 1 fun b15=>?_);refine vT 16 rfl (sA tv14 ?_);refine vD ?_;refine gx tv14 2 ?_;refine aN [2,3,4,5,6,7] 11 mixd ?_;refine gX tv14 [0,1,2] 8 ?_;refine vC 3 rfl (out_Num _ _ _ (by first | omega | (have :=hrl (by assumption);omega) | (simp [A_,J_,G_,numK] <;> omega) | (have :=hrl (by assumption);simp [A_,J_,G_,numK] <;> omega))) rfl fun w16=>?_;have :=I_ (B_ (J_ (B_ (B_ (A_ (⟨[],0⟩:Out) m.id 8) m.shop) m.key) (Y_ m.head)) m.body) m.due 8;refine gX tv14 [4,5,6] 4 ?_;refine vC 7 rfl (out_Num _ _ _ (by first | omega | (have :=hrl (by assumption);omega) | (simp [A_,J_,G_,numK] <;> omega) | (have :=hrl (by assumption);simp [A_,J_,G_,numK] <;> omega))) rfl fun w17=>?_;have :=I_ (A_ (B_ (J_ (B_ (B_ (A_ (⟨[],0⟩:Out) m.id 8) m.shop) m.key) (Y_ m.head)) m.body) m.due 8) m.hops 1;refine vC 8 rfl (Aa_ _) rfl fun w18=>?_;refine gX tv14 [9,10] 0 ?_;refine vD ?_;refine gx tv14 2 ?_;refine rt2 rfl rfl ?_;refine ple ?_
  simp [Co_,Ky_, *]
theorem Hb_ (tick:Int) (life:Int):Fn Tryz.prog gb 111 [.int .u64 tick, .int .u64 life] (.int .u64 (Hf_ tick life)):=by
  refine fC Tryz.func111 tv14 Tryz.ntmps111 fun w N H hG=>?_;have tick_r:0≤tick∧tick≤18446744073709551615:=w.1;have life_r:0≤life∧life≤18446744073709551615:=w.2.1;refine gx tv14 13 ?_;refine q1g [9] rfl (fun hc=>qsub rfl rfl (Rg_ (by omega))) ⟨(fun hc=>hc),trivial⟩ rfl rfl rfl fun _=>?_;refine gy tv14 4 ?_;refine cnd rfl (fun h1=>?_) (fun h1=>?_)
  · refine gx tv14 7 ?_;refine rt1 rfl rfl ?_;refine ple ?_;refine congrArg (PV.int .u64) ?_
    simp only [Bool.or_eq_true,Bool.and_eq_true,Bool.not_eq_true',decide_eq_true_eq,Bool.or_eq_false_iff,Bool.and_eq_false_iff,Bool.not_eq_false',decide_eq_false_iff_not,beq_iff_eq,beq_eq_false_iff_ne] at *
    unfold Hf_
    (repeat' split) <;> first | rfl | (exfalso;omega) | (exfalso;simp_all;done) | (exfalso;simp_all;omega) | grind
  have h2:=orl h1;have p3:=df h2;have h4:=orr h1;have p5:=df h4;refine gx tv14 6 ?_;refine q1 (qadd rfl rfl (Rg_ (by omega))) rfl fun w6=>?_;refine gx tv14 4 ?_;refine rt1 rfl rfl ?_;refine ple ?_;refine congrArg (PV.int .u64) ?_
  simp only [Bool.or_eq_true,Bool.and_eq_true,Bool.not_eq_true',decide_eq_true_eq,Bool.or_eq_false_iff,Bool.and_eq_false_iff,Bool.not_eq_false',decide_eq_false_iff_not,beq_iff_eq,beq_eq_false_iff_ne] at *
  unfold Hf_
  (repeat' split) <;> first | rfl | (exfalso;omega) | (exfalso;simp_all;done) | (exfalso;simp_all;omega) | grind
theorem Lr_ (s:Bs):Fn Tryz.prog gb 219 [.str s] (.int .i64 (Gb_ s)):=by
  refine fC Tryz.func219 tv14 Tryz.ntmps219 fun w N H hG=>?_;refine gx tv14 12 ?_;refine cnd rfl (fun h1=>?_) (fun h1=>?_)
  · have p2:=dt h1;refine gx tv14 7 ?_;refine rt1 rfl rfl ?_;refine ple ?_
    simp [Gb_, *]
  have p3:=df h1;refine gx tv14 5 ?_;refine call (Bc_ _) rfl rfl fun w4=>?_;refine gx tv14 4 ?_;refine rt1 rfl rfl ?_;refine ple ?_
  simp [Gb_, *]
theorem Fq_ (b:Bool) (e:Int):Fn Tryz.prog gb 218 [.bool b, .int .i64 e] (.int .i64 (Dw_ b e)):=by
  refine fC Tryz.func218 tv14 Tryz.ntmps218 fun w N H hG=>?_;refine gx tv14 11 ?_;refine cnd rfl (fun h1=>?_) (fun h1=>?_)
  · refine gx tv14 8 ?_;refine rt1 rfl rfl ?_;refine ple ?_
    simp [Dw_, *]
  refine gx tv14 8 ?_;refine rt1 rfl rfl ?_;refine ple ?_
  simp [Dw_, *]
theorem V4_ (a:Mail) (b:Mail):Fn Tryz.prog gb 243 [.agg (Mail.pc a), .agg (Mail.pc b)] (.bool (decide (a=b))):=by
  refine fC Tryz.func243 tv14 Tryz.ntmps243 fun w N H hG=>?_;refine gmy tv14 33 [0,1] fun B2=>?_;refine callg rfl (fun hc=>(Ke_ _ _)) rfl ⟨(fun hc=>hc),(fun hc=>hc),trivial⟩ rfl rfl fun _=>?_;refine gy tv14 26 ?_;refine rt1 rfl rfl ?_;refine ple ?_;exact congrArg PV.bool (by rw [Bool.eq_iff_iff];first | (simp [Mail.eq_iff,and_assoc];done) | (simp [Mail.eq_iff];grind))
theorem V1_ (a:DeedR) (b:DeedR):Fn Tryz.prog gb 215 [.agg (DeedR.pc a), .agg (DeedR.pc b)] (.bool (decide (a=b))):=by
  refine fC Tryz.func215 tv14 Tryz.ntmps215 fun w N H hG=>?_;refine gmy tv14 26 [0,1] fun B2=>?_;refine q1g [19,21] rfl (fun hc=>saeq rfl rfl eqg44 (veq44 a.shop b.shop)) ⟨(fun hc=>hc),(fun hc=>hc),trivial⟩ rfl rfl rfl fun _=>?_;refine gy tv14 6 ?_;refine q1g [26,28] rfl (fun hc=>saeq rfl rfl eqg46 (veq46 a.queue b.queue)) ⟨(fun hc=>hc),(fun hc=>hc),trivial⟩ rfl rfl rfl fun _=>?_;refine gy tv14 6 ?_;refine callg rfl (fun hc=>(M6_ _ _)) rfl ⟨(fun hc=>hc),(fun hc=>hc),trivial⟩ rfl rfl fun _=>?_;refine gy tv14 48 ?_;refine callg rfl (fun hc=>(V4_ _ _)) rfl ⟨(fun hc=>hc),(fun hc=>hc),trivial⟩ rfl rfl fun _=>?_;refine gy tv14 12 ?_;refine rt1 rfl rfl ?_;refine ple ?_;exact congrArg PV.bool (by rw [Bool.eq_iff_iff];first | (simp [DeedR.eq_iff,and_assoc];done) | (simp [DeedR.eq_iff];grind))
end Go.SW.V
set_option linter.unusedVariables false
set_option maxRecDepth 100000
set_option maxHeartbeats 4000000
namespace Go.SW.V
open Go.SW Go.Proofs
abbrev ty334:TI:=⟨.slc 40,1,24,[.sl i64c []]⟩
def tbv15:Tb:=[(5,ty5),(9,ty9),(27,ty27),(40,ty40),(44,ty44),(46,ty46),(47,ty47),(49,ty49),(51,ty51),(53,ty53),(334,ty334)]
theorem tv15:tbB Tryz.prog tbv15=true:=by kernel_rfl
theorem S2_ (d:DeedR):Fn Tryz.prog gb 216 [.agg (DeedR.pc d)] (.agg (DeedR.pc (Dh_ d))):=by
  refine fC Tryz.func216 tv15 Tryz.ntmps216 fun w N H hG=>?_;refine gm tv15 31 [0,1,2] fun B2=>?_;refine cnd rfl (fun h5=>?_) (fun h5=>?_)
  · have p6:=dt h5;refine gm tv15 15 [] fun _=>?_;refine rt1 rfl rfl ?_;refine ple ?_;have e:Dh_ d=(⟨d.kind,d.tick,d.shop,(⟨[],0,0,[]⟩:Al_),(⟨[],[],false,[],[],false⟩:BindR),[],0,0,0,0,0,(⟨0,[],[],[],[],0,0⟩:Mail),[]⟩:DeedR):=by
      unfold Dh_
      repeat (first | rw [if_pos (by omega)] | rw [if_neg (by omega)])
      rfl
    rw [e];rfl
  have p8:=df h5;refine gx tv15 6 ?_;refine cnd rfl (fun h9=>?_) (fun h9=>?_)
  · have p10:=dt h9;refine gm tv15 15 [] fun _=>?_;refine rt1 rfl rfl ?_;refine ple ?_;have e:Dh_ d=(⟨d.kind,d.tick,(⟨[],0,[]⟩:ShopR),d.queue,(⟨[],[],false,[],[],false⟩:BindR),[],0,0,0,0,0,(⟨0,[],[],[],[],0,0⟩:Mail),[]⟩:DeedR):=by
      unfold Dh_
      repeat (first | rw [if_pos (by omega)] | rw [if_neg (by omega)])
      rfl
    rw [e];rfl
  have p12:=df h9;refine gx tv15 7 ?_;refine cnd rfl (fun h13=>?_) (fun h13=>?_)
  · have p14:=dt h13;refine gx tv15 2 ?_;refine cndT rfl h13 ?_;refine gm tv15 15 [] fun _=>?_;refine rt1 rfl rfl ?_;refine ple ?_;have e:Dh_ d=(⟨d.kind,d.tick,(⟨[],0,[]⟩:ShopR),(⟨[],0,0,[]⟩:Al_),d.bind,[],0,0,0,0,0,(⟨0,[],[],[],[],0,0⟩:Mail),[]⟩:DeedR):=by
      unfold Dh_
      repeat (first | rw [if_pos (by omega)] | rw [if_neg (by omega)])
      rfl
    rw [e];rfl
  have p16:=df h13;refine gx tv15 5 ?_;refine cnd rfl (fun h17=>?_) (fun h17=>?_)
  · have p18:=dt h17;refine gm tv15 15 [] fun _=>?_;refine rt1 rfl rfl ?_;refine ple ?_;have e:Dh_ d=(⟨d.kind,d.tick,(⟨[],0,[]⟩:ShopR),(⟨[],0,0,[]⟩:Al_),d.bind,[],0,0,0,0,0,(⟨0,[],[],[],[],0,0⟩:Mail),[]⟩:DeedR):=by
      unfold Dh_
      repeat (first | rw [if_pos (by omega)] | rw [if_neg (by omega)])
      rfl
    rw [e];rfl
  have p20:=df h17;refine gx tv15 6 ?_;refine cnd rfl (fun h21=>?_) (fun h21=>?_)
  · have p22:=dt h21;refine gm tv15 15 [] fun _=>?_;refine rt1 rfl rfl ?_;refine ple ?_;have e:Dh_ d=(⟨d.kind,d.tick,(⟨[],0,[]⟩:ShopR),(⟨[],0,0,[]⟩:Al_),(⟨[],[],false,[],[],false⟩:BindR),[],0,0,0,0,0,d.mail,[]⟩:DeedR):=by
      unfold Dh_
      repeat (first | rw [if_pos (by omega)] | rw [if_neg (by omega)])
      rfl
    rw [e];rfl
  have p24:=df h21;refine gx tv15 7 ?_;refine cnd rfl (fun h25=>?_) (fun h25=>?_)
  · have p26:=dt h25;refine gx tv15 2 ?_;refine cndT rfl h25 ?_;refine gm tv15 15 [] fun _=>?_;refine rt1 rfl rfl ?_;refine ple ?_;have e:Dh_ d=(⟨d.kind,d.tick,(⟨[],0,[]⟩:ShopR),(⟨[],0,0,[]⟩:Al_),(⟨[],[],false,[],[],false⟩:BindR),d.name,0,0,0,0,0,(⟨0,[],[],[],[],0,0⟩:Mail),[]⟩:DeedR):=by
      unfold Dh_
      repeat (first | rw [if_pos (by omega)] | rw [if_neg (by omega)])
      rfl
    rw [e];rfl
  have p28:=df h25;refine gx tv15 6 ?_;refine cnd rfl (fun h29=>?_) (fun h29=>?_)
  · have p30:=dt h29;refine gx tv15 2 ?_;refine cndT rfl h29 ?_;refine gm tv15 15 [] fun _=>?_;refine rt1 rfl rfl ?_;refine ple ?_;have e:Dh_ d=(⟨d.kind,d.tick,(⟨[],0,[]⟩:ShopR),(⟨[],0,0,[]⟩:Al_),(⟨[],[],false,[],[],false⟩:BindR),d.name,0,0,0,0,0,(⟨0,[],[],[],[],0,0⟩:Mail),[]⟩:DeedR):=by
      unfold Dh_
      repeat (first | rw [if_pos (by omega)] | rw [if_neg (by omega)])
      rfl
    rw [e];rfl
  have p32:=df h29;refine gx tv15 5 ?_;refine cnd rfl (fun h33=>?_) (fun h33=>?_)
  · have p34:=dt h33;refine gm tv15 15 [] fun _=>?_;refine rt1 rfl rfl ?_;refine ple ?_;have e:Dh_ d=(⟨d.kind,d.tick,(⟨[],0,[]⟩:ShopR),(⟨[],0,0,[]⟩:Al_),(⟨[],[],false,[],[],false⟩:BindR),d.name,0,0,0,0,0,(⟨0,[],[],[],[],0,0⟩:Mail),[]⟩:DeedR):=by
      unfold Dh_
      repeat (first | rw [if_pos (by omega)] | rw [if_neg (by omega)])
      rfl
    rw [e];rfl
  have p36:=df h33;refine gx tv15 6 ?_;refine cnd rfl (fun h37=>?_) (fun h37=>?_)
  · have p38:=dt h37;refine aN [2,3,4,5,6,7,8] 12 mixd ?_;refine gX tv15 [0,1,2,3,4,5,6] 5 ?_;refine vE 7 rfl (sO tv15 ?_);refine gX tv15 [8] 3 ?_;refine vE 9 rfl (sO tv15 ?_);refine gX tv15 [10] 1 ?_;refine vT 11 rfl (sO tv15 ?_);refine vD ?_;refine gm tv15 9 [] fun _=>?_;refine rt1 rfl rfl ?_;refine ple ?_;have e:Dh_ d=(⟨d.kind,d.tick,(⟨[],0,[]⟩:ShopR),(⟨[],0,0,[]⟩:Al_),(⟨[],[],false,[],[],false⟩:BindR),d.name,d.id,d.how,0,0,0,(⟨0,[],[],[],[],0,0⟩:Mail),[]⟩:DeedR):=by
      unfold Dh_
      repeat (first | rw [if_pos (by omega)] | rw [if_neg (by omega)])
      rfl
    rw [e];rfl
  have p40:=df h37;refine gx tv15 6 ?_;refine cnd rfl (fun h41=>?_) (fun h41=>?_)
  · have p42:=dt h41;refine aN [2,3,4,5,6,7,8] 12 mixd ?_;refine gX tv15 [0,1,2,3,4,5,6] 5 ?_;refine vE 7 rfl (sO tv15 ?_);refine gX tv15 [8] 3 ?_;refine vE 9 rfl (sO tv15 ?_);refine gX tv15 [10] 1 ?_;refine vT 11 rfl (sA tv15 ?_);refine vD ?_;refine gm tv15 9 [] fun _=>?_;refine rt1 rfl rfl ?_;refine ple ?_;have e:Dh_ d=(⟨d.kind,d.tick,(⟨[],0,[]⟩:ShopR),(⟨[],0,0,[]⟩:Al_),(⟨[],[],false,[],[],false⟩:BindR),[],0,0,d.frm,0,d.number,d.mail,[]⟩:DeedR):=by
      unfold Dh_
      repeat (first | rw [if_pos (by omega)] | rw [if_neg (by omega)])
      rfl
    rw [e];rfl
  have p44:=df h41;refine gx tv15 6 ?_;refine cnd rfl (fun h45=>?_) (fun h45=>?_)
  · have p46:=dt h45;refine aN [2,3,4,5,6,7,8] 8 mixd ?_;refine gX tv15 [0,1,2,3,4] 3 ?_;refine vE 5 rfl (sO tv15 ?_);refine gX tv15 [6] 1 ?_;refine vT 7 rfl (sO tv15 ?_);refine vD ?_;refine gm tv15 9 [] fun _=>?_;refine rt1 rfl rfl ?_;refine ple ?_;have e:Dh_ d=(⟨d.kind,d.tick,(⟨[],0,[]⟩:ShopR),(⟨[],0,0,[]⟩:Al_),(⟨[],[],false,[],[],false⟩:BindR),[],0,0,0,d.code,0,(⟨0,[],[],[],[],0,0⟩:Mail),d.text⟩:DeedR):=by
      unfold Dh_
      repeat (first | rw [if_pos (by omega)] | rw [if_neg (by omega)])
      rfl
    rw [e];rfl
  have p48:=df h45;refine gm tv15 10 [] fun _=>?_;refine rt1 rfl rfl ?_;refine ple ?_;have e:Dh_ d=(⟨d.kind,d.tick,(⟨[],0,[]⟩:ShopR),(⟨[],0,0,[]⟩:Al_),(⟨[],[],false,[],[],false⟩:BindR),[],0,0,0,0,0,(⟨0,[],[],[],[],0,0⟩:Mail),[]⟩:DeedR):=by
    unfold Dh_
    repeat (first | rw [if_pos (by omega)] | rw [if_neg (by omega)])
    rfl
  rw [e];rfl
theorem Fo_ (l:List Int):Fn Tryz.prog gb 217 [.sl i64c l] (.int .i64 (En_ l)):=by
  refine fC Tryz.func217 tv15 Tryz.ntmps217 fun w N H hG=>?_;have l_l:l.length≤140737488355328:=w.1.1;refine gx tv15 14 ?_;refine loop (ι:=Nat) [0,5,6] [] (fun k=>[(7, .int .i64 (k:Int))]) (fun k=>[]) (fun k=>k≤l.length∧En_ l=En_ (l.drop k)) (fun k=>l.length-k) 0 ⟨rfl,trivial⟩ trivial ?_ ?_
  · exact ⟨Nat.zero_le _,rfl⟩
  rintro k hp1;obtain ⟨hk1,hk2⟩:=hp1;refine gx tv15 6 ?_;refine cnd rfl (fun h2=>?_) (fun h2=>?_)
  · have p3:=dt h2;obtain ⟨c4,hc5⟩:=getE (xs:=l) (m:=k) (by omega);refine gx tv15 6 ?_;refine q1 (qidx tv15 k rfl rfl rfl hc5 rfl rfl rfl rfl) rfl fun w6=>?_;refine gx tv15 10 ?_;refine cnd rfl (fun h7=>?_) (fun h7=>?_)
    · have h8:=Bo_ h7;have p9:=df h8;refine gx tv15 12 ?_;refine rt1 rfl rfl ?_;refine ple ?_;refine congrArg (PV.int .i64) ?_
      rw [hk2,Cj_ hc5]
      unfold En_
      rw [if_pos (by assumption)]
    have h10:=Cp_ h7;have p11:=dt h10;refine gy tv15 7 ?_;refine next (k+1) rfl rfl ⟨rfl,trivial⟩ trivial ?_ ?_
    · omega
    refine ⟨by omega,?_⟩
    rw [hk2,Cj_ hc5]
    conv=>lhs;unfold En_
    rw [if_neg (by omega)]
  have p12:=df h2;refine gx tv15 11 ?_;refine rt1 rfl rfl ?_;refine ple ?_;refine congrArg (PV.int .i64) ?_
  rw [hk2,List.drop_of_length_le (by omega)]
  rfl
theorem L3_ (d:DeedR):Fn Tryz.prog gb 175 [.agg (DeedR.pc d)] (.int .i64 (Cx_ d)):=by
  refine fC Tryz.func175 tv15 Tryz.ntmps175 fun w N H hG=>?_;refine gm tv15 16 [0] fun B2=>?_;refine cnd rfl (fun h3=>?_) (fun h3=>?_)
  · have p4:=dt h3;refine gx tv15 8 ?_;refine rt1 rfl rfl ?_;refine ple ?_;refine congrArg (PV.int .i64) ?_
    unfold Cx_
    repeat (first | rw [if_pos (by omega)] | rw [if_neg (by omega)] | rw [if_pos (by assumption)] | rw [if_neg (not_not_intro (by assumption))])
    all_goals first | done | rfl
  have p5:=df h3;refine gx tv15 1 ?_;refine aN [1,2,3,4,5,6] 6 mixd ?_;refine gX tv15 [0,1] 4 ?_;refine vE 2 rfl (eC (S2_ _) rfl fun w6=>?_);refine vC 3 rfl (V1_ _ _) rfl fun w7=>?_;refine gX tv15 [4,5] 0 ?_;refine vD ?_;refine gx tv15 1 ?_;refine cnd rfl (fun h8=>?_) (fun h8=>?_)
  · have h9:=Bo_ h8;have p10:=df h9;refine gx tv15 8 ?_;refine rt1 rfl rfl ?_;refine ple ?_;refine congrArg (PV.int .i64) ?_
    unfold Cx_
    repeat (first | rw [if_pos (by omega)] | rw [if_neg (by omega)] | rw [if_pos (by assumption)] | rw [if_neg (not_not_intro (by assumption))])
    all_goals first | done | rfl
  have h11:=Cp_ h8;have p12:=dt h11;refine gx tv15 17 ?_;refine cnd rfl (fun h13=>?_) (fun h13=>?_)
  · have p14:=dt h13;refine gx tv15 1 ?_;refine aN [1,2,3,4,5,6] 16 mixd ?_;refine gX tv15 [0,1,2] 13 ?_;refine vC 3 rfl (Bc_ _) rfl fun w15=>?_;refine gX tv15 [4,5,6,7] 8 ?_;refine vC 8 rfl (Fq_ _ _) rfl fun w16=>?_;refine gX tv15 [9,10,11] 4 ?_;refine vC 12 rfl (Lr_ _) rfl fun w17=>?_;have :=Ih_ d.shop.to;refine vE 13 rfl (bsl 1 i64c [B8_ d.shop.name,Dw_ (decide (4<d.shop.sort)) 8,Gb_ d.shop.to] tv15 rfl rfl rfl rfl rfl (fun _=>rfl) rfl (by decide) (by decide) rfl fun u18=>?_);refine vE 14 rfl (calll 1 rfl (Fo_ _) rfl rfl rfl fun w19=>?_);refine gX tv15 [15] 0 ?_;refine vD ?_;refine gx tv15 4 ?_;refine rt1 rfl rfl ?_;refine ple ?_;refine congrArg (PV.int .i64) ?_
    unfold Cx_
    repeat (first | rw [if_pos (by omega)] | rw [if_neg (by omega)] | rw [if_pos (by assumption)] | rw [if_neg (not_not_intro (by assumption))])
    all_goals first | done | rfl
  have p20:=df h13;refine gx tv15 6 ?_;refine cnd rfl (fun h21=>?_) (fun h21=>?_)
  · have p22:=dt h21;refine gx tv15 1 ?_;refine aN [1,2,3,4,5,6] 11 mixd ?_;refine gX tv15 [0,1,2] 8 ?_;refine vC 3 rfl (Bc_ _) rfl fun w23=>?_;refine gX tv15 [4,5,6] 4 ?_;refine vC 7 rfl (Lr_ _) rfl fun w24=>?_;have :=Ih_ d.queue.dead;refine vE 8 rfl (bsl 1 i64c [B8_ d.queue.name,Gb_ d.queue.dead] tv15 rfl rfl rfl rfl rfl (fun _=>rfl) rfl (by decide) (by decide) rfl fun u25=>?_);refine vE 9 rfl (calll 1 rfl (Fo_ _) rfl rfl rfl fun w26=>?_);refine gX tv15 [10] 0 ?_;refine vD ?_;refine gx tv15 4 ?_;refine rt1 rfl rfl ?_;refine ple ?_;refine congrArg (PV.int .i64) ?_
    unfold Cx_
    repeat (first | rw [if_pos (by omega)] | rw [if_neg (by omega)] | rw [if_pos (by assumption)] | rw [if_neg (not_not_intro (by assumption))])
    all_goals first | done | rfl
  have p27:=df h21;refine gx tv15 7 ?_;refine cnd rfl (fun h28=>?_) (fun h28=>?_)
  · have p29:=dt h28;refine gx tv15 2 ?_;refine cndT rfl h28 ?_;refine gm tv15 9 [1] fun B31=>?_;refine aN [2,3,4,5,6,7] 17 mixd ?_;refine gX tv15 [0,1] 15 ?_;refine vC 2 rfl (Bc_ _) rfl fun w32=>?_;refine gX tv15 [3,4] 12 ?_;refine vC 5 rfl (Bc_ _) rfl fun w33=>?_;refine gX tv15 [6,7,8,9] 7 ?_;refine vC 10 rfl (Fq_ _ _) rfl fun w34=>?_;refine gX tv15 [11,12] 4 ?_;refine vC 13 rfl (Dy_ _) rfl fun w35=>?_;refine vE 14 rfl (bsl 2 i64c [B8_ d.bind.shop,B8_ d.bind.to,Dw_ (decide (64<(d.bind.key.length:Int))) 5,Ck_ d.bind.want] tv15 rfl rfl rfl rfl rfl (fun _=>rfl) rfl (by decide) (by decide) rfl fun u36=>?_);refine vE 15 rfl (calll 2 rfl (Fo_ _) rfl rfl rfl fun w37=>?_);refine gX tv15 [16] 0 ?_;refine vD ?_;refine gx tv15 4 ?_;refine rt1 rfl rfl ?_;refine ple ?_;refine congrArg (PV.int .i64) ?_
    unfold Cx_
    repeat (first | rw [if_pos (by omega)] | rw [if_neg (by omega)] | rw [if_pos (by assumption)] | rw [if_neg (not_not_intro (by assumption))])
    all_goals first | done | rfl
  have p38:=df h28;refine gx tv15 5 ?_;refine cnd rfl (fun h39=>?_) (fun h39=>?_)
  · have p40:=dt h39;refine gm tv15 9 [1] fun B42=>?_;refine aN [2,3,4,5,6,7] 17 mixd ?_;refine gX tv15 [0,1] 15 ?_;refine vC 2 rfl (Bc_ _) rfl fun w43=>?_;refine gX tv15 [3,4] 12 ?_;refine vC 5 rfl (Bc_ _) rfl fun w44=>?_;refine gX tv15 [6,7,8,9] 7 ?_;refine vC 10 rfl (Fq_ _ _) rfl fun w45=>?_;refine gX tv15 [11,12] 4 ?_;refine vC 13 rfl (Dy_ _) rfl fun w46=>?_;refine vE 14 rfl (bsl 2 i64c [B8_ d.bind.shop,B8_ d.bind.to,Dw_ (decide (64<(d.bind.key.length:Int))) 5,Ck_ d.bind.want] tv15 rfl rfl rfl rfl rfl (fun _=>rfl) rfl (by decide) (by decide) rfl fun u47=>?_);refine vE 15 rfl (calll 2 rfl (Fo_ _) rfl rfl rfl fun w48=>?_);refine gX tv15 [16] 0 ?_;refine vD ?_;refine gx tv15 4 ?_;refine rt1 rfl rfl ?_;refine ple ?_;refine congrArg (PV.int .i64) ?_
    unfold Cx_
    repeat (first | rw [if_pos (by omega)] | rw [if_neg (by omega)] | rw [if_pos (by assumption)] | rw [if_neg (not_not_intro (by assumption))])
    all_goals first | done | rfl
  have p49:=df h39;refine gx tv15 7 ?_;refine cnd rfl (fun h50=>?_) (fun h50=>?_)
  · have p51:=dt h50;refine gx tv15 2 ?_;refine cndT rfl h50 ?_;refine gx tv15 4 ?_;refine call (I9_ _) rfl rfl fun w52=>?_;have :=Nv_ d.mail;have hmo52:=fun h=>F2_ (m:=d.mail) h;refine gx tv15 6 ?_;refine rt1 rfl rfl ?_;refine ple ?_;refine congrArg (PV.int .i64) ?_
    unfold Cx_
    repeat (first | rw [if_pos (by omega)] | rw [if_neg (by omega)] | rw [if_pos (by assumption)] | rw [if_neg (not_not_intro (by assumption))])
    all_goals first | done | rfl
  have p53:=df h50;refine gx tv15 5 ?_;refine cnd rfl (fun h54=>?_) (fun h54=>?_)
  · have p55:=dt h54;refine gx tv15 4 ?_;refine call (I9_ _) rfl rfl fun w56=>?_;have :=Nv_ d.mail;have hmo56:=fun h=>F2_ (m:=d.mail) h;refine gx tv15 6 ?_;refine rt1 rfl rfl ?_;refine ple ?_;refine congrArg (PV.int .i64) ?_
    unfold Cx_
    repeat (first | rw [if_pos (by omega)] | rw [if_neg (by omega)] | rw [if_pos (by assumption)] | rw [if_neg (not_not_intro (by assumption))])
    all_goals first | done | rfl
  have p57:=df h54;refine gx tv15 7 ?_;refine cnd rfl (fun h58=>?_) (fun h58=>?_)
  · have p59:=dt h58;refine gx tv15 2 ?_;refine cndT rfl h58 ?_;refine gx tv15 8 ?_;refine rt1 rfl rfl ?_;refine ple ?_;refine congrArg (PV.int .i64) ?_
    unfold Cx_
    repeat (first | rw [if_pos (by omega)] | rw [if_neg (by omega)] | rw [if_pos (by assumption)] | rw [if_neg (not_not_intro (by assumption))])
    all_goals first | done | rfl
  have p60:=df h58;refine gx tv15 5 ?_;refine cnd rfl (fun h61=>?_) (fun h61=>?_)
  · have p62:=dt h61;refine gx tv15 8 ?_;refine rt1 rfl rfl ?_;refine ple ?_;refine congrArg (PV.int .i64) ?_
    unfold Cx_
    repeat (first | rw [if_pos (by omega)] | rw [if_neg (by omega)] | rw [if_pos (by assumption)] | rw [if_neg (not_not_intro (by assumption))])
    all_goals first | done | rfl
  have p63:=df h61;refine gx tv15 6 ?_;refine cnd rfl (fun h64=>?_) (fun h64=>?_)
  · have p65:=dt h64;refine gx tv15 6 ?_;refine call (Fq_ _ _) rfl rfl fun w66=>?_;refine gx tv15 6 ?_;refine rt1 rfl rfl ?_;refine ple ?_;refine congrArg (PV.int .i64) ?_
    unfold Cx_
    repeat (first | rw [if_pos (by omega)] | rw [if_neg (by omega)] | rw [if_pos (by assumption)] | rw [if_neg (not_not_intro (by assumption))])
    all_goals first | done | rfl
  have p67:=df h64;refine gx tv15 4 ?_;refine aN [1,2,3,4,5,6] 10 mixd ?_;refine gX tv15 [0,1] 8 ?_;refine vC 2 rfl (Bc_ _) rfl fun w68=>?_;refine gX tv15 [3,4,5] 4 ?_;refine vC 6 rfl (Fq_ _ _) rfl fun w69=>?_;refine vE 7 rfl (bsl 1 i64c [B8_ d.name,Dw_ (decide (2<d.how)) 7] tv15 rfl rfl rfl rfl rfl (fun _=>rfl) rfl (by decide) (by decide) rfl fun u70=>?_);refine vE 8 rfl (calll 1 rfl (Fo_ _) rfl rfl rfl fun w71=>?_);refine gX tv15 [9] 0 ?_;refine vD ?_;refine gx tv15 2 ?_;refine rt1 rfl rfl ?_;refine ple ?_;refine congrArg (PV.int .i64) ?_
  unfold Cx_
  repeat (first | rw [if_pos (by omega)] | rw [if_neg (by omega)] | rw [if_pos (by assumption)] | rw [if_neg (not_not_intro (by assumption))])
  all_goals first | done | rfl
end Go.SW.V
set_option linter.unusedVariables false
set_option maxRecDepth 100000
set_option maxHeartbeats 4000000
namespace Go.SW.V
open Go.SW Go.Proofs
def tbv16:Tb:=[(4,ty4),(5,ty5),(9,ty9),(27,ty27),(44,ty44),(46,ty46),(47,ty47),(49,ty49),(51,ty51),(53,ty53),(285,N6_)]
theorem tv16:tbB Tryz.prog tbv16=true:=by kernel_rfl
theorem Sy_ (d:DeedR):Fn Tryz.prog gb 212 [.agg (DeedR.pc d)] (.tup [.str (Z_ d), .int .i64 (Cx_ d)]):=by
  refine fC Tryz.func212 tv16 Tryz.ntmps212 fun w N H hG=>?_;have d_w:=DeedR.pwf w.1;have d_w':=d_w
  simp only [DeedR.wf,ShopR.wf,Al_.wf,BindR.wf,Mail.wf] at d_w'
  have d_bind_want_k:=DeedR.kd13 w.1;have d_bind_want_k2:d.bind.want.length≤140737488355328:=w.1.2.2.2.2.2.2.2.2.2.2.2.2.2.1.1;have d_mail_head_k:=DeedR.kd24 w.1;have d_mail_head_k2:d.mail.head.length≤140737488355328:=w.1.2.2.2.2.2.2.2.2.2.2.2.2.2.2.2.2.2.2.2.2.2.2.2.2.1.1;refine gm tv16 11 [0] fun B2=>?_;refine call (L3_ _) rfl rfl fun w3=>?_;have :=Pm_ d;refine gx tv16 9 ?_;refine cnd rfl (fun h4=>?_) (fun h4=>?_)
  · have h5:=Bo_ h4;have p6:=df h5;refine gx tv16 9 ?_;refine rt2 rfl rfl ?_;refine ple ?_;have e:Z_ d=[]:=by
      unfold Z_
      first
        | (rw [if_neg (by assumption)];done)
        | (rw [if_pos (by assumption)];unfold Dv_;(repeat (first | rw [if_pos (by omega)] | rw [if_neg (by omega)] | rw [if_pos (by assumption)] | rw [if_neg (by assumption)] | rw [if_neg (not_not_intro (by assumption))]));first | done | rfl)
    rw [e]
    try (rw [show Cx_ d=0 by assumption])
  have h7:=Cp_ h4;have p8:=dt h7;have hdk:=J0_ (d:=d) (by omega) p8;obtain ⟨dk1,dk2,dk3,dk4,dk5,dk6,dk7,dk8,dk9,dk10,dk11,dk12,dk13,dk14,dk15,dk16,dk17,dk18,dk19⟩:=hdk;refine gx tv16 3 ?_;refine aN [1,2,3,4,5,6] 10 mixd ?_;refine gX tv16 [0,1,2,3] 6 ?_;refine vC 4 rfl (out_Num (⟨[],0⟩:Out) _ _ (by first | omega | (have :=hrl (by assumption);omega) | (simp [A_,J_,G_,numK] <;> omega) | (have :=hrl (by assumption);simp [A_,J_,G_,numK] <;> omega))) rfl fun w9=>?_;have nl0:(⟨[],0⟩:Out).s.length=0:=rfl;have :=I_ (⟨[],0⟩:Out) d.kind 1;refine gX tv16 [5,6] 3 ?_;refine vC 7 rfl (out_Num _ _ _ (by first | omega | (have :=hrl (by assumption);omega) | (simp [A_,J_,G_,numK] <;> omega) | (have :=hrl (by assumption);simp [A_,J_,G_,numK] <;> omega))) rfl fun w10=>?_;have :=I_ (A_ (⟨[],0⟩:Out) d.kind 1) d.tick 8;refine vE 8 rfl (aL tv16 1 fun b11=>?_);refine vT 9 rfl (sA tv16 ?_);refine vD ?_;refine gx tv16 5 ?_;refine call (Lv_ _) rfl rfl fun w12=>?_;have :=Fv_ d.mail;refine gx tv16 21 ?_;refine cnd rfl (fun h13=>?_) (fun h13=>?_)
  · have p14:=dt h13;refine aN [2,3,4,5,6,7] 15 mixd ?_;refine gX tv16 [0,1,2,3] 11 ?_;refine vC 4 rfl (Ak_ _ _) rfl fun w15=>?_;have :=L_ (A_ (A_ (⟨[],0⟩:Out) d.kind 1) d.tick 8) d.shop.name;refine gX tv16 [5,6,7,8] 6 ?_;refine vC 9 rfl (out_Num _ _ _ (by first | omega | (have :=hrl (by assumption);omega) | (simp [A_,J_,G_,numK] <;> omega) | (have :=hrl (by assumption);simp [A_,J_,G_,numK] <;> omega))) rfl fun w16=>?_;have :=I_ (B_ (A_ (A_ (⟨[],0⟩:Out) d.kind 1) d.tick 8) d.shop.name) d.shop.sort 1;refine gX tv16 [10,11,12] 2 ?_;refine vC 13 rfl (Ak_ _ _) rfl fun w17=>?_;have :=L_ (A_ (B_ (A_ (A_ (⟨[],0⟩:Out) d.kind 1) d.tick 8) d.shop.name) d.shop.sort 1) d.shop.to;refine vT 14 rfl (sA tv16 ?_);refine vD ?_;refine gx tv16 5 ?_;refine call (Aa_ _) rfl rfl fun w18=>?_;refine gx tv16 5 ?_;refine rt2 rfl rfl ?_;refine ple ?_;have e:Z_ d=(B_ (A_ (B_ (A_ (A_ (⟨[],0⟩:Out) d.kind 1) d.tick 8) d.shop.name) d.shop.sort 1) d.shop.to).s:=by
      unfold Z_
      first
        | (rw [if_neg (by assumption)];done)
        | (rw [if_pos (by assumption)];unfold Dv_;(repeat (first | rw [if_pos (by omega)] | rw [if_neg (by omega)] | rw [if_pos (by assumption)] | rw [if_neg (by assumption)] | rw [if_neg (not_not_intro (by assumption))]));first | done | rfl)
    rw [e]
    try (rw [show Cx_ d=0 by assumption])
  have p19:=df h13;refine gx tv16 6 ?_;refine cnd rfl (fun h20=>?_) (fun h20=>?_)
  · have p21:=dt h20;refine aN [2,3,4,5,6,7] 18 mixd ?_;refine gX tv16 [0,1,2,3] 14 ?_;refine vC 4 rfl (Ak_ _ _) rfl fun w22=>?_;have :=L_ (A_ (A_ (⟨[],0⟩:Out) d.kind 1) d.tick 8) d.queue.name;refine gX tv16 [5,6,7] 10 ?_;refine vC 8 rfl (out_Num _ _ _ (by first | omega | (have :=hrl (by assumption);omega) | (simp [A_,J_,G_,numK] <;> omega) | (have :=hrl (by assumption);simp [A_,J_,G_,numK] <;> omega))) rfl fun w23=>?_;have :=I_ (B_ (A_ (A_ (⟨[],0⟩:Out) d.kind 1) d.tick 8) d.queue.name) d.queue.most 8;refine gX tv16 [9,10,11] 6 ?_;refine vC 12 rfl (out_Num _ _ _ (by first | omega | (have :=hrl (by assumption);omega) | (simp [A_,J_,G_,numK] <;> omega) | (have :=hrl (by assumption);simp [A_,J_,G_,numK] <;> omega))) rfl fun w24=>?_;have :=I_ (A_ (B_ (A_ (A_ (⟨[],0⟩:Out) d.kind 1) d.tick 8) d.queue.name) d.queue.most 8) d.queue.life 8;refine gX tv16 [13,14,15] 2 ?_;refine vC 16 rfl (Ak_ _ _) rfl fun w25=>?_;have :=L_ (A_ (A_ (B_ (A_ (A_ (⟨[],0⟩:Out) d.kind 1) d.tick 8) d.queue.name) d.queue.most 8) d.queue.life 8) d.queue.dead;refine vT 17 rfl (sA tv16 ?_);refine vD ?_;refine gx tv16 5 ?_;refine call (Aa_ _) rfl rfl fun w26=>?_;refine gx tv16 5 ?_;refine rt2 rfl rfl ?_;refine ple ?_;have e:Z_ d=(B_ (A_ (A_ (B_ (A_ (A_ (⟨[],0⟩:Out) d.kind 1) d.tick 8) d.queue.name) d.queue.most 8) d.queue.life 8) d.queue.dead).s:=by
      unfold Z_
      first
        | (rw [if_neg (by assumption)];done)
        | (rw [if_pos (by assumption)];unfold Dv_;(repeat (first | rw [if_pos (by omega)] | rw [if_neg (by omega)] | rw [if_pos (by assumption)] | rw [if_neg (by assumption)] | rw [if_neg (not_not_intro (by assumption))]));first | done | rfl)
    rw [e]
    try (rw [show Cx_ d=0 by assumption])
  have p27:=df h20;refine gx tv16 7 ?_;refine cnd rfl (fun h28=>?_) (fun h28=>?_)
  · have p29:=dt h28;refine gx tv16 2 ?_;refine cndT rfl h28 ?_;refine gm tv16 12 [2] fun B31=>?_;refine call (Eb_ _) rfl rfl fun w32=>?_;have :=Cf_ d.bind.want;refine gx tv16 7 ?_;refine aN [3,4,5,6,7,8] 21 mixd ?_;refine gX tv16 [0,1,2] 18 ?_;refine vC 3 rfl (Ak_ _ _) rfl fun w33=>?_;have :=L_ (A_ (A_ (⟨[],0⟩:Out) d.kind 1) d.tick 8) d.bind.shop;refine gX tv16 [4,5] 15 ?_;refine vC 6 rfl (Ak_ _ _) rfl fun w34=>?_;have :=L_ (B_ (A_ (A_ (⟨[],0⟩:Out) d.kind 1) d.tick 8) d.bind.shop) d.bind.to;refine gX tv16 [7,8] 12 ?_;refine vC 9 rfl (Jy_ _) rfl fun w35=>?_;refine vC 10 rfl (out_Num _ _ _ (by first | omega | (have :=hrl (by assumption);omega) | (simp [A_,J_,G_,numK] <;> omega) | (have :=hrl (by assumption);simp [A_,J_,G_,numK] <;> omega))) rfl fun w36=>?_;have :=I_ (B_ (B_ (A_ (A_ (⟨[],0⟩:Out) d.kind 1) d.tick 8) d.bind.shop) d.bind.to) (bitN d.bind.up) 1;refine gX tv16 [11,12] 8 ?_;refine vC 13 rfl (Ak_ _ _) rfl fun w37=>?_;have :=L_ (A_ (B_ (B_ (A_ (A_ (⟨[],0⟩:Out) d.kind 1) d.tick 8) d.bind.shop) d.bind.to) (bitN d.bind.up) 1) d.bind.key;refine gX tv16 [14] 6 ?_;refine vC 15 rfl (Ft_ _ _) rfl fun w38=>?_;have :=C6_ (B_ (A_ (B_ (B_ (A_ (A_ (⟨[],0⟩:Out) d.kind 1) d.tick 8) d.bind.shop) d.bind.to) (bitN d.bind.up) 1) d.bind.key) (Y_ d.bind.want);refine gX tv16 [16,17] 3 ?_;refine vC 18 rfl (Jy_ _) rfl fun w39=>?_;refine vC 19 rfl (out_Num _ _ _ (by first | omega | (have :=hrl (by assumption);omega) | (simp [A_,J_,G_,numK] <;> omega) | (have :=hrl (by assumption);simp [A_,J_,G_,numK] <;> omega))) rfl fun w40=>?_;have :=I_ (J_ (B_ (A_ (B_ (B_ (A_ (A_ (⟨[],0⟩:Out) d.kind 1) d.tick 8) d.bind.shop) d.bind.to) (bitN d.bind.up) 1) d.bind.key) (Y_ d.bind.want)) (bitN d.bind.all) 1;refine vT 20 rfl (sA tv16 ?_);refine vD ?_;refine gx tv16 5 ?_;refine call (Aa_ _) rfl rfl fun w41=>?_;refine gx tv16 5 ?_;refine rt2 rfl rfl ?_;refine ple ?_;have e:Z_ d=(A_ (J_ (B_ (A_ (B_ (B_ (A_ (A_ (⟨[],0⟩:Out) d.kind 1) d.tick 8) d.bind.shop) d.bind.to) (bitN d.bind.up) 1) d.bind.key) (Y_ d.bind.want)) (bitN d.bind.all) 1).s:=by
      unfold Z_
      first
        | (rw [if_neg (by assumption)];done)
        | (rw [if_pos (by assumption)];unfold Dv_;(repeat (first | rw [if_pos (by omega)] | rw [if_neg (by omega)] | rw [if_pos (by assumption)] | rw [if_neg (by assumption)] | rw [if_neg (not_not_intro (by assumption))]));first | done | rfl)
    rw [e]
    try (rw [show Cx_ d=0 by assumption])
  have p42:=df h28;refine gx tv16 5 ?_;refine cnd rfl (fun h43=>?_) (fun h43=>?_)
  · have p44:=dt h43;refine gm tv16 12 [2] fun B46=>?_;refine call (Eb_ _) rfl rfl fun w47=>?_;have :=Cf_ d.bind.want;refine gx tv16 7 ?_;refine aN [3,4,5,6,7,8] 21 mixd ?_;refine gX tv16 [0,1,2] 18 ?_;refine vC 3 rfl (Ak_ _ _) rfl fun w48=>?_;have :=L_ (A_ (A_ (⟨[],0⟩:Out) d.kind 1) d.tick 8) d.bind.shop;refine gX tv16 [4,5] 15 ?_;refine vC 6 rfl (Ak_ _ _) rfl fun w49=>?_;have :=L_ (B_ (A_ (A_ (⟨[],0⟩:Out) d.kind 1) d.tick 8) d.bind.shop) d.bind.to;refine gX tv16 [7,8] 12 ?_;refine vC 9 rfl (Jy_ _) rfl fun w50=>?_;refine vC 10 rfl (out_Num _ _ _ (by first | omega | (have :=hrl (by assumption);omega) | (simp [A_,J_,G_,numK] <;> omega) | (have :=hrl (by assumption);simp [A_,J_,G_,numK] <;> omega))) rfl fun w51=>?_;have :=I_ (B_ (B_ (A_ (A_ (⟨[],0⟩:Out) d.kind 1) d.tick 8) d.bind.shop) d.bind.to) (bitN d.bind.up) 1;refine gX tv16 [11,12] 8 ?_;refine vC 13 rfl (Ak_ _ _) rfl fun w52=>?_;have :=L_ (A_ (B_ (B_ (A_ (A_ (⟨[],0⟩:Out) d.kind 1) d.tick 8) d.bind.shop) d.bind.to) (bitN d.bind.up) 1) d.bind.key;refine gX tv16 [14] 6 ?_;refine vC 15 rfl (Ft_ _ _) rfl fun w53=>?_;have :=C6_ (B_ (A_ (B_ (B_ (A_ (A_ (⟨[],0⟩:Out) d.kind 1) d.tick 8) d.bind.shop) d.bind.to) (bitN d.bind.up) 1) d.bind.key) (Y_ d.bind.want);refine gX tv16 [16,17] 3 ?_;refine vC 18 rfl (Jy_ _) rfl fun w54=>?_;refine vC 19 rfl (out_Num _ _ _ (by first | omega | (have :=hrl (by assumption);omega) | (simp [A_,J_,G_,numK] <;> omega) | (have :=hrl (by assumption);simp [A_,J_,G_,numK] <;> omega))) rfl fun w55=>?_;have :=I_ (J_ (B_ (A_ (B_ (B_ (A_ (A_ (⟨[],0⟩:Out) d.kind 1) d.tick 8) d.bind.shop) d.bind.to) (bitN d.bind.up) 1) d.bind.key) (Y_ d.bind.want)) (bitN d.bind.all) 1;refine vT 20 rfl (sA tv16 ?_);refine vD ?_;refine gx tv16 5 ?_;refine call (Aa_ _) rfl rfl fun w56=>?_;refine gx tv16 5 ?_;refine rt2 rfl rfl ?_;refine ple ?_;have e:Z_ d=(A_ (J_ (B_ (A_ (B_ (B_ (A_ (A_ (⟨[],0⟩:Out) d.kind 1) d.tick 8) d.bind.shop) d.bind.to) (bitN d.bind.up) 1) d.bind.key) (Y_ d.bind.want)) (bitN d.bind.all) 1).s:=by
      unfold Z_
      first
        | (rw [if_neg (by assumption)];done)
        | (rw [if_pos (by assumption)];unfold Dv_;(repeat (first | rw [if_pos (by omega)] | rw [if_neg (by omega)] | rw [if_pos (by assumption)] | rw [if_neg (by assumption)] | rw [if_neg (not_not_intro (by assumption))]));first | done | rfl)
    rw [e]
    try (rw [show Cx_ d=0 by assumption])
  have p57:=df h43;refine gx tv16 6 ?_;refine cnd rfl (fun h58=>?_) (fun h58=>?_)
  · have p59:=dt h58;refine gx tv16 3 ?_;refine call (Ft_ _ _) rfl rfl fun w60=>?_;have :=C6_ (A_ (A_ (⟨[],0⟩:Out) d.kind 1) d.tick 8) (Co_ d.mail);refine gm tv16 7 [] fun _=>?_;refine call (Aa_ _) rfl rfl fun w62=>?_;refine gx tv16 5 ?_;refine rt2 rfl rfl ?_;refine ple ?_;have e:Z_ d=(J_ (A_ (A_ (⟨[],0⟩:Out) d.kind 1) d.tick 8) (Co_ d.mail)).s:=by
      unfold Z_
      first
        | (rw [if_neg (by assumption)];done)
        | (rw [if_pos (by assumption)];unfold Dv_;(repeat (first | rw [if_pos (by omega)] | rw [if_neg (by omega)] | rw [if_pos (by assumption)] | rw [if_neg (by assumption)] | rw [if_neg (not_not_intro (by assumption))]));first | done | rfl)
    rw [e]
    try (rw [show Cx_ d=0 by assumption])
  have p63:=df h58;refine gx tv16 7 ?_;refine cnd rfl (fun h64=>?_) (fun h64=>?_)
  · have p65:=dt h64;refine gx tv16 2 ?_;refine cndT rfl h64 ?_;refine gx tv16 4 ?_;refine call (Ak_ _ _) rfl rfl fun w66=>?_;have :=L_ (A_ (A_ (⟨[],0⟩:Out) d.kind 1) d.tick 8) d.name;refine gm tv16 7 [] fun _=>?_;refine call (Aa_ _) rfl rfl fun w68=>?_;refine gx tv16 5 ?_;refine rt2 rfl rfl ?_;refine ple ?_;have e:Z_ d=(B_ (A_ (A_ (⟨[],0⟩:Out) d.kind 1) d.tick 8) d.name).s:=by
      unfold Z_
      first
        | (rw [if_neg (by assumption)];done)
        | (rw [if_pos (by assumption)];unfold Dv_;(repeat (first | rw [if_pos (by omega)] | rw [if_neg (by omega)] | rw [if_pos (by assumption)] | rw [if_neg (by assumption)] | rw [if_neg (not_not_intro (by assumption))]));first | done | rfl)
    rw [e]
    try (rw [show Cx_ d=0 by assumption])
  have p69:=df h64;refine gx tv16 6 ?_;refine cnd rfl (fun h70=>?_) (fun h70=>?_)
  · have p71:=dt h70;refine gx tv16 2 ?_;refine cndT rfl h70 ?_;refine gx tv16 4 ?_;refine call (Ak_ _ _) rfl rfl fun w72=>?_;have :=L_ (A_ (A_ (⟨[],0⟩:Out) d.kind 1) d.tick 8) d.name;refine gm tv16 7 [] fun _=>?_;refine call (Aa_ _) rfl rfl fun w74=>?_;refine gx tv16 5 ?_;refine rt2 rfl rfl ?_;refine ple ?_;have e:Z_ d=(B_ (A_ (A_ (⟨[],0⟩:Out) d.kind 1) d.tick 8) d.name).s:=by
      unfold Z_
      first
        | (rw [if_neg (by assumption)];done)
        | (rw [if_pos (by assumption)];unfold Dv_;(repeat (first | rw [if_pos (by omega)] | rw [if_neg (by omega)] | rw [if_pos (by assumption)] | rw [if_neg (by assumption)] | rw [if_neg (not_not_intro (by assumption))]));first | done | rfl)
    rw [e]
    try (rw [show Cx_ d=0 by assumption])
  have p75:=df h70;refine gx tv16 5 ?_;refine cnd rfl (fun h76=>?_) (fun h76=>?_)
  · have p77:=dt h76;refine gx tv16 4 ?_;refine call (Ak_ _ _) rfl rfl fun w78=>?_;have :=L_ (A_ (A_ (⟨[],0⟩:Out) d.kind 1) d.tick 8) d.name;refine gm tv16 7 [] fun _=>?_;refine call (Aa_ _) rfl rfl fun w80=>?_;refine gx tv16 5 ?_;refine rt2 rfl rfl ?_;refine ple ?_;have e:Z_ d=(B_ (A_ (A_ (⟨[],0⟩:Out) d.kind 1) d.tick 8) d.name).s:=by
      unfold Z_
      first
        | (rw [if_neg (by assumption)];done)
        | (rw [if_pos (by assumption)];unfold Dv_;(repeat (first | rw [if_pos (by omega)] | rw [if_neg (by omega)] | rw [if_pos (by assumption)] | rw [if_neg (by assumption)] | rw [if_neg (not_not_intro (by assumption))]));first | done | rfl)
    rw [e]
    try (rw [show Cx_ d=0 by assumption])
  have p81:=df h76;refine gx tv16 6 ?_;refine cnd rfl (fun h82=>?_) (fun h82=>?_)
  · have p83:=dt h82;refine aN [2,3,4,5,6,7] 12 mixd ?_;refine gX tv16 [0,1,2] 9 ?_;refine vC 3 rfl (Ak_ _ _) rfl fun w84=>?_;have :=L_ (A_ (A_ (⟨[],0⟩:Out) d.kind 1) d.tick 8) d.name;refine gX tv16 [4,5] 6 ?_;refine vC 6 rfl (out_Num _ _ _ (by first | omega | (have :=hrl (by assumption);omega) | (simp [A_,J_,G_,numK] <;> omega) | (have :=hrl (by assumption);simp [A_,J_,G_,numK] <;> omega))) rfl fun w85=>?_;have :=I_ (B_ (A_ (A_ (⟨[],0⟩:Out) d.kind 1) d.tick 8) d.name) d.id 8;refine gX tv16 [7,8,9] 2 ?_;refine vC 10 rfl (out_Num _ _ _ (by first | omega | (have :=hrl (by assumption);omega) | (simp [A_,J_,G_,numK] <;> omega) | (have :=hrl (by assumption);simp [A_,J_,G_,numK] <;> omega))) rfl fun w86=>?_;have :=I_ (A_ (B_ (A_ (A_ (⟨[],0⟩:Out) d.kind 1) d.tick 8) d.name) d.id 8) d.how 1;refine vT 11 rfl (sA tv16 ?_);refine vD ?_;refine gx tv16 5 ?_;refine call (Aa_ _) rfl rfl fun w87=>?_;refine gx tv16 5 ?_;refine rt2 rfl rfl ?_;refine ple ?_;have e:Z_ d=(A_ (A_ (B_ (A_ (A_ (⟨[],0⟩:Out) d.kind 1) d.tick 8) d.name) d.id 8) d.how 1).s:=by
      unfold Z_
      first
        | (rw [if_neg (by assumption)];done)
        | (rw [if_pos (by assumption)];unfold Dv_;(repeat (first | rw [if_pos (by omega)] | rw [if_neg (by omega)] | rw [if_pos (by assumption)] | rw [if_neg (by assumption)] | rw [if_neg (not_not_intro (by assumption))]));first | done | rfl)
    rw [e]
    try (rw [show Cx_ d=0 by assumption])
  have p88:=df h82;refine gx tv16 6 ?_;refine cnd rfl (fun h89=>?_) (fun h89=>?_)
  · have p90:=dt h89;refine aN [2,3,4,5,6,7] 11 mixd ?_;refine gX tv16 [0,1,2,3] 7 ?_;refine vC 4 rfl (out_Num _ _ _ (by first | omega | (have :=hrl (by assumption);omega) | (simp [A_,J_,G_,numK] <;> omega) | (have :=hrl (by assumption);simp [A_,J_,G_,numK] <;> omega))) rfl fun w91=>?_;have :=I_ (A_ (A_ (⟨[],0⟩:Out) d.kind 1) d.tick 8) d.frm 1;refine gX tv16 [5,6] 4 ?_;refine vC 7 rfl (out_Num _ _ _ (by first | omega | (have :=hrl (by assumption);omega) | (simp [A_,J_,G_,numK] <;> omega) | (have :=hrl (by assumption);simp [A_,J_,G_,numK] <;> omega))) rfl fun w92=>?_;have :=I_ (A_ (A_ (A_ (⟨[],0⟩:Out) d.kind 1) d.tick 8) d.frm 1) d.number 8;refine gX tv16 [8] 2 ?_;refine vC 9 rfl (Ft_ _ _) rfl fun w93=>?_;have :=C6_ (A_ (A_ (A_ (A_ (⟨[],0⟩:Out) d.kind 1) d.tick 8) d.frm 1) d.number 8) (Co_ d.mail);refine vT 10 rfl (sA tv16 ?_);refine vD ?_;refine gx tv16 5 ?_;refine call (Aa_ _) rfl rfl fun w94=>?_;refine gx tv16 5 ?_;refine rt2 rfl rfl ?_;refine ple ?_;have e:Z_ d=(J_ (A_ (A_ (A_ (A_ (⟨[],0⟩:Out) d.kind 1) d.tick 8) d.frm 1) d.number 8) (Co_ d.mail)).s:=by
      unfold Z_
      first
        | (rw [if_neg (by assumption)];done)
        | (rw [if_pos (by assumption)];unfold Dv_;(repeat (first | rw [if_pos (by omega)] | rw [if_neg (by omega)] | rw [if_pos (by assumption)] | rw [if_neg (by assumption)] | rw [if_neg (not_not_intro (by assumption))]));first | done | rfl)
    rw [e]
    try (rw [show Cx_ d=0 by assumption])
  have p95:=df h89;refine gx tv16 6 ?_;refine cnd rfl (fun h96=>?_) (fun h96=>?_)
  · have p97:=dt h96;refine aN [2,3,4,5,6,7] 9 mixd ?_;refine gX tv16 [0,1,2,3] 5 ?_;refine vC 4 rfl (out_Num _ _ _ (by first | omega | (have :=hrl (by assumption);omega) | (simp [A_,J_,G_,numK] <;> omega) | (have :=hrl (by assumption);simp [A_,J_,G_,numK] <;> omega))) rfl fun w98=>?_;have :=I_ (A_ (A_ (⟨[],0⟩:Out) d.kind 1) d.tick 8) d.code 1;refine gX tv16 [5,6] 2 ?_;refine vC 7 rfl (Ak_ _ _) rfl fun w99=>?_;have :=L_ (A_ (A_ (A_ (⟨[],0⟩:Out) d.kind 1) d.tick 8) d.code 1) d.text;refine vT 8 rfl (sA tv16 ?_);refine vD ?_;refine gx tv16 5 ?_;refine call (Aa_ _) rfl rfl fun w100=>?_;refine gx tv16 5 ?_;refine rt2 rfl rfl ?_;refine ple ?_;have e:Z_ d=(B_ (A_ (A_ (A_ (⟨[],0⟩:Out) d.kind 1) d.tick 8) d.code 1) d.text).s:=by
      unfold Z_
      first
        | (rw [if_neg (by assumption)];done)
        | (rw [if_pos (by assumption)];unfold Dv_;(repeat (first | rw [if_pos (by omega)] | rw [if_neg (by omega)] | rw [if_pos (by assumption)] | rw [if_neg (by assumption)] | rw [if_neg (not_not_intro (by assumption))]));first | done | rfl)
    rw [e]
    try (rw [show Cx_ d=0 by assumption])
  have p101:=df h96;refine gx tv16 6 ?_;refine call (Aa_ _) rfl rfl fun w102=>?_;refine gx tv16 5 ?_;refine rt2 rfl rfl ?_;refine ple ?_;have e:Z_ d=(A_ (A_ (⟨[],0⟩:Out) d.kind 1) d.tick 8).s:=by
    unfold Z_
    first
      | (rw [if_neg (by assumption)];done)
      | (rw [if_pos (by assumption)];unfold Dv_;(repeat (first | rw [if_pos (by omega)] | rw [if_neg (by omega)] | rw [if_pos (by assumption)] | rw [if_neg (by assumption)] | rw [if_neg (not_not_intro (by assumption))]));first | done | rfl)
  rw [e]
  try (rw [show Cx_ d=0 by assumption])
end Go.SW.V
set_option linter.unusedVariables false
set_option maxRecDepth 100000
set_option maxHeartbeats 4000000
namespace Go.SW.V
open Go.SW Go.Proofs
end Go.SW.V
set_option linter.unusedVariables false
set_option maxRecDepth 100000
set_option maxHeartbeats 4000000
namespace Go.SW.V
open Go.SW Go.Proofs
end Go.SW.V
set_option linter.unusedVariables false
set_option maxRecDepth 100000
set_option maxHeartbeats 4000000
namespace Go.SW.V
open Go.SW Go.Proofs
abbrev ty167:TI:=⟨.agg [(0,1),(1,1),(2,1),(3,1),(4,1),(5,1),(6,7)],13,144,[.int .u8 0, .int .u8 0, .int .u64 0, .int .u64 0, .bool false, .str [], .int .u64 0, .str [], .str [], .sl Pair.pc [], .str [], .int .u64 0, .int .u8 0]⟩
abbrev ty182:TI:=⟨.agg [(0,1),(1,1),(2,1),(3,1),(4,1),(5,1)],6,88,[.str [], .str [], .bool false, .str [], .sl Pair.pc [], .bool false]⟩
abbrev Wp_:TI:=⟨.agg [(0,1),(1,1),(2,3),(5,4),(9,6),(15,1),(16,1),(17,1),(18,1),(19,1),(20,1),(21,7),(28,1)],29,344,[.int .u8 0, .int .u64 0, .str [], .int .u8 0, .str [], .str [], .int .u64 0, .int .u64 0, .str [], .str [], .str [], .bool false, .str [], .sl Pair.pc [], .bool false, .str [], .int .u64 0, .int .u8 0, .int .u8 0, .int .u8 0, .int .u64 0, .int .u64 0, .str [], .str [], .sl Pair.pc [], .str [], .int .u64 0, .int .u8 0, .str []]⟩
end Go.SW.V
set_option linter.unusedVariables false
set_option maxRecDepth 100000
set_option maxHeartbeats 4000000
namespace Go.SW.V
open Go.SW Go.Proofs
abbrev ty180:TI:=⟨.agg [(0,1),(1,1),(2,1)],3,40,[.str [], .int .u8 0, .str []]⟩
abbrev ty181:TI:=⟨.agg [(0,1),(1,1),(2,1),(3,1)],4,48,[.str [], .int .u64 0, .int .u64 0, .str []]⟩
end Go.SW.V
set_option linter.unusedVariables false
set_option maxRecDepth 100000
set_option maxHeartbeats 4000000
namespace Go.SW.V
open Go.SW Go.Proofs
abbrev ty322:TI:=⟨.agg [(0,1),(1,1),(2,1),(3,1)],4,56,[.int .u8 0, .str [], .sl Pair.pc [], .bool false]⟩
def tbv22:Tb:=[(4,ty4),(5,ty5),(9,ty9),(47,ty47),(199,Wm_),(322,ty322)]
theorem tv22:tbB Tryz.prog tbv22=true:=by kernel_rfl
theorem Mb_ (r:Rule):Fn Tryz.prog gb 226 [.agg (Rule.pc r)] (.int .i64 (Mk_ r)):=by
  refine fC Tryz.func226 tv22 Tryz.ntmps226 fun w N H hG=>?_;have r_w:=Rule.pwf w.1;have r_w':=r_w
  simp only [Rule.wf] at r_w'
  have r_want_k:=Rule.kd2 w.1;have r_want_k2:r.want.length≤140737488355328:=w.1.2.2.1.1;refine gm tv22 21 [0] fun B2=>?_;refine cnd rfl (fun h3=>?_) (fun h3=>?_)
  · have p4:=dt h3;refine gx tv22 8 ?_;refine rt1 rfl rfl ?_;refine ple ?_;refine congrArg (PV.int .i64) ?_
    (try simp only [Bool.or_eq_true,Bool.and_eq_true,Bool.not_eq_true',decide_eq_true_eq,Bool.or_eq_false_iff,Bool.and_eq_false_iff,Bool.not_eq_false',decide_eq_false_iff_not,beq_iff_eq,beq_eq_false_iff_ne] at *)
    unfold Mk_
    repeat (first | rw [if_pos (by omega)] | rw [if_neg (by omega)])
    all_goals first | done | rfl | omega
  have p5:=df h3;refine gx tv22 8 ?_;refine cnd rfl (fun h6=>?_) (fun h6=>?_)
  · have p7:=dt h6;refine gx tv22 3 ?_;refine call (H9_ _) rfl rfl fun w8=>?_;refine gx tv22 11 ?_;refine cnd rfl (fun h9=>?_) (fun h9=>?_)
    · have h10:=Bo_ h9;have p11:=df h10;refine gx tv22 8 ?_;refine rt1 rfl rfl ?_;refine ple ?_;refine congrArg (PV.int .i64) ?_
      (try simp only [Bool.or_eq_true,Bool.and_eq_true,Bool.not_eq_true',decide_eq_true_eq,Bool.or_eq_false_iff,Bool.and_eq_false_iff,Bool.not_eq_false',decide_eq_false_iff_not,beq_iff_eq,beq_eq_false_iff_ne] at *)
      unfold Mk_
      repeat (first | rw [if_pos (by omega)] | rw [if_neg (by omega)])
      all_goals first | done | rfl | omega
    have h12:=Cp_ h9;have p13:=dt h12;refine gx tv22 6 ?_;refine call (Dy_ _) rfl rfl fun w14=>?_;refine gx tv22 4 ?_;refine rt1 rfl rfl ?_;refine ple ?_;refine congrArg (PV.int .i64) ?_
    (try simp only [Bool.or_eq_true,Bool.and_eq_true,Bool.not_eq_true',decide_eq_true_eq,Bool.or_eq_false_iff,Bool.and_eq_false_iff,Bool.not_eq_false',decide_eq_false_iff_not,beq_iff_eq,beq_eq_false_iff_ne] at *)
    unfold Mk_
    repeat (first | rw [if_pos (by omega)] | rw [if_neg (by omega)])
    all_goals first | done | rfl | omega
  have p15:=df h6;refine gx tv22 3 ?_;refine call (H1_ _) rfl rfl fun w16=>?_;refine gx tv22 11 ?_;refine cnd rfl (fun h17=>?_) (fun h17=>?_)
  · have h18:=Bo_ h17;have p19:=df h18;refine gx tv22 8 ?_;refine rt1 rfl rfl ?_;refine ple ?_;refine congrArg (PV.int .i64) ?_
    (try simp only [Bool.or_eq_true,Bool.and_eq_true,Bool.not_eq_true',decide_eq_true_eq,Bool.or_eq_false_iff,Bool.and_eq_false_iff,Bool.not_eq_false',decide_eq_false_iff_not,beq_iff_eq,beq_eq_false_iff_ne] at *)
    unfold Mk_
    repeat (first | rw [if_pos (by omega)] | rw [if_neg (by omega)])
    all_goals first | done | rfl | omega
  have h20:=Cp_ h17;have p21:=dt h20;refine gx tv22 6 ?_;refine call (Dy_ _) rfl rfl fun w22=>?_;refine gx tv22 4 ?_;refine rt1 rfl rfl ?_;refine ple ?_;refine congrArg (PV.int .i64) ?_
  (try simp only [Bool.or_eq_true,Bool.and_eq_true,Bool.not_eq_true',decide_eq_true_eq,Bool.or_eq_false_iff,Bool.and_eq_false_iff,Bool.not_eq_false',decide_eq_false_iff_not,beq_iff_eq,beq_eq_false_iff_ne] at *)
  unfold Mk_
  repeat (first | rw [if_pos (by omega)] | rw [if_neg (by omega)])
  all_goals first | done | rfl | omega
theorem Sn_ (r:Rule) (h:List Pair):Fn Tryz.prog gb 249 [.agg (Rule.pc r), .sl Pair.pc h] (.bool (Fj_ r.all h r.want)):=by
  refine fC Tryz.func249 tv22 Tryz.ntmps249 fun w N H hG=>?_;have r_want_l:r.want.length≤140737488355328:=w.1.2.2.1.1;have h_l:h.length≤140737488355328:=w.2.1.1;refine gm tv22 20 [0] fun B2=>?_;refine loop (ι:=Nat) [0,1,2,10,11,12] [0] (fun k=>[(13, .int .i64 (k:Int))]) (fun k=>[]) (fun k=>k≤r.want.length∧Fj_ r.all h r.want=Fj_ r.all h (r.want.drop k)) (fun k=>r.want.length-k) 0 ⟨rfl,trivial⟩ trivial ?_ ?_
  · exact ⟨Nat.zero_le _,rfl⟩
  rintro k hp3;obtain ⟨hk1,hk2⟩:=hp3;refine gx tv22 6 ?_;refine cnd rfl (fun h4=>?_) (fun h4=>?_)
  · have p5:=dt h4;obtain ⟨c6,hc7⟩:=getE (xs:=r.want) (m:=k) (by omega);have c6_w:=Pair.pwf (w.1.2.2.1.2 c6 (List.mem_of_getElem? hc7));refine gx tv22 6 ?_;refine q1 (qidx tv22 k rfl rfl rfl hc7 rfl rfl rfl rfl) rfl fun w8=>?_;refine gm tv22 10 [1] fun B10=>?_;refine call (On_ _ _) rfl rfl fun w11=>?_;refine gm tv22 14 [2] fun B13=>?_;refine q1g [26,27] rfl (fun hc=>saeq rfl rfl Zc_ (Yq_ ((Lo_ h c6.key).getD Pair.zero) c6)) ⟨(fun hc=>hc),(fun hc=>hc),trivial⟩ rfl rfl rfl fun _=>?_;refine gy tv22 15 ?_;refine cnd rfl (fun h14=>?_) (fun h14=>?_)
    · have h15:=bl h14;have h16:=bl h15;have h17:=br h15;have p18:=dt h17;have h19:=br h14;refine gy tv22 8 ?_;refine next (k+1) rfl rfl ⟨rfl,trivial⟩ trivial ?_ ?_
      · omega
      refine ⟨by omega,?_⟩
      rw [hk2,Cj_ hc7]
      simp only [Fj_]
      first | (simp only [hasP];simp [*];done) | (unfold hasP;simp_all;done) | (unfold hasP;grind)
    refine gx tv22 6 ?_;refine cnd rfl (fun h20=>?_) (fun h20=>?_)
    · have h21:=bl h20;have h22:=br h20;have p23:=dt h22;refine gx tv22 13 ?_;refine rt1 rfl rfl ?_;refine ple ?_;refine congrArg PV.bool ?_
      rw [hk2,Cj_ hc7]
      simp only [Fj_]
      first | (simp only [hasP];simp [*];done) | (unfold hasP;simp_all;done) | (unfold hasP;grind)
    refine gx tv22 7 ?_;refine cnd rfl (fun h24=>?_) (fun h24=>?_)
    · refine gx tv22 13 ?_;refine rt1 rfl rfl ?_;refine ple ?_;refine congrArg PV.bool ?_
      rw [hk2,Cj_ hc7]
      simp only [Fj_]
      first | (simp only [hasP];simp [*];done) | (unfold hasP;simp_all;done) | (unfold hasP;grind)
    refine gy tv22 8 ?_;refine next (k+1) rfl rfl ⟨rfl,trivial⟩ trivial ?_ ?_
    · omega
    refine ⟨by omega,?_⟩
    rw [hk2,Cj_ hc7]
    simp only [Fj_]
    first | (simp only [hasP];simp [*];done) | (unfold hasP;simp_all;done) | (unfold hasP;grind)
  have p25:=df h4;refine gx tv22 14 ?_;refine rt1 rfl rfl ?_;refine ple ?_;refine congrArg PV.bool ?_
  rw [hk2,List.drop_of_length_le (by omega)]
  rfl
theorem K4_ (r:Rule) (key:Bs) (h:List Pair) (hrk:r.key.length<4294967281:=by first | omega | (simp;done) | decide) (hk:key.length<4294967281:=by first | omega | (simp;done) | decide):Fn Tryz.prog gb 227 [.agg (Rule.pc r), .str key, .sl Pair.pc h] (.bool (Ja_ r key h)):=by
  refine fC Tryz.func227 tv22 Tryz.ntmps227 fun w N H hG=>?_;refine gm tv22 20 [0] fun B2=>?_;refine cnd rfl (fun h3=>?_) (fun h3=>?_)
  · have p4:=dt h3;refine gx tv22 12 ?_;refine rt1 rfl rfl ?_;refine ple ?_;refine congrArg PV.bool ?_
    first | (simp [Ja_, *];done) | (simp [Ja_, *];omega)
  have p5:=df h3;refine gx tv22 6 ?_;refine cnd rfl (fun h6=>?_) (fun h6=>?_)
  · have p7:=dt h6;refine gx tv22 5 ?_;refine call (Ev_ _ _) rfl rfl fun w8=>?_;refine gx tv22 6 ?_;refine rt1 rfl rfl ?_;refine ple ?_;refine congrArg PV.bool ?_
    first | (simp [Ja_, *];done) | (simp [Ja_, *];omega)
  have p9:=df h6;refine gx tv22 6 ?_;refine cnd rfl (fun h10=>?_) (fun h10=>?_)
  · have p11:=dt h10;refine gx tv22 4 ?_;refine call (Sn_ _ _) rfl rfl fun w12=>?_;refine gx tv22 6 ?_;refine rt1 rfl rfl ?_;refine ple ?_;refine congrArg PV.bool ?_
    first | (simp [Ja_, *];done) | (simp [Ja_, *];omega)
  have p13:=df h10;refine gx tv22 9 ?_;refine rt1 rfl rfl ?_;refine ple ?_;refine congrArg PV.bool ?_
  first | (simp [Ja_, *];done) | (simp [Ja_, *];omega)
theorem St_ (a:Rule) (b:Rule):Fn Tryz.prog gb 288 [.agg (Rule.pc a), .agg (Rule.pc b)] (.bool (decide (a=b))):=by
  refine fC Tryz.func288 tv22 Tryz.ntmps288 fun w N H hG=>?_;refine gmy tv22 33 [0,1] fun B2=>?_;refine callg rfl (fun hc=>(U9_ _ _)) rfl ⟨(fun hc=>hc),(fun hc=>hc),trivial⟩ rfl rfl fun _=>?_;refine gy tv22 5 ?_;refine rt1 rfl rfl ?_;refine ple ?_;exact congrArg PV.bool (by rw [Bool.eq_iff_iff];first | (simp [Rule.eq_iff,and_assoc];done) | (simp [Rule.eq_iff];grind))
end Go.SW.V
set_option linter.unusedVariables false
set_option maxRecDepth 100000
set_option maxHeartbeats 4000000
namespace Go.SW.V
open Go.SW Go.Proofs
abbrev ty339:TI:=⟨.slc 44,1,24,[.sl ShopR.pc []]⟩
abbrev Wx_:TI:=⟨.agg [(0,1),(1,1)],2,48,[.sl ShopR.pc [], .sl BindR.pc []]⟩
def tbv23:Tb:=[(5,ty5),(9,ty9),(44,ty44),(200,O7_),(339,ty339),(342,Wx_)]
theorem tv23:tbB Tryz.prog tbv23=true:=by kernel_rfl
theorem eq_Str (a:List Bs) (b:List Bs):Fn Tryz.prog gb 259 [.sl strc a, .sl strc b] (.bool (decide (a=b))):=by
  refine fC Tryz.func259 tv23 Tryz.ntmps259 fun w N H hG=>?_;have a_l:a.length≤140737488355328:=w.1.1;have b_l:b.length≤140737488355328:=w.2.1.1;refine gx tv23 15 ?_;refine cnd rfl (fun h1=>?_) (fun h1=>?_)
  · have h2:=Bo_ h1;have p3:=df h2;refine gx tv23 7 ?_;refine rt1 rfl rfl ?_;refine ple ?_;exact congrArg PV.bool (V3_ (by assumption)).symm
  have h4:=Cp_ h1;have p5:=dt h4;refine gx tv23 11 ?_;refine loop (ι:=Nat) [0,1,6,7,8,9,10,11,12] [] (fun k=>[(13, .int .i64 (k:Int))]) (fun k=>[]) (fun k=>k≤a.length ∧ decide (a=b) = decide (a.drop k=b.drop k)) (fun k=>a.length-k) 0 ⟨rfl,trivial⟩ trivial ?_ ?_
  · exact ⟨Nat.zero_le _,rfl⟩
  rintro k hp6;obtain ⟨hk1,hk2⟩:=hp6;refine gx tv23 6 ?_;refine cnd rfl (fun h7=>?_) (fun h7=>?_)
  · have p8:=dt h7;refine gx tv23 11 ?_;refine aN [0,1,2,3,4,5] 9 mixd ?_;refine gX tv23 [0,1] 7 ?_;obtain ⟨c9,hc10⟩:=getE (xs:=a) (m:=k) (by omega);have c9_l:c9.length≤9223372036854775807:=(w.1.2 c9 (List.mem_of_getElem? hc10)).1;refine vq 2 (qidx tv23 k rfl rfl rfl hc10 rfl rfl rfl rfl) rfl (by kernel_rfl) rfl fun w11=>?_;refine gX tv23 [3,4,5] 3 ?_;obtain ⟨c12,hc13⟩:=getE (xs:=b) (m:=k) (by omega);have c12_l:c12.length≤9223372036854775807:=(w.2.1.2 c12 (List.mem_of_getElem? hc13)).1;refine vq 6 (qidx tv23 k rfl rfl rfl hc13 rfl rfl rfl rfl) rfl (by kernel_rfl) rfl fun w14=>?_;refine gX tv23 [7,8] 0 ?_;refine vD ?_;refine gx tv23 1 ?_;refine cnd rfl (fun h15=>?_) (fun h15=>?_)
    · have h16:=Bo_ h15;have p17:=df h16;refine gx tv23 11 ?_;refine rt1 rfl rfl ?_;refine ple ?_;exact congrArg PV.bool (Rt_ hk2 (Cj_ hc10) (Cj_ hc13) (by assumption)).symm
    have h18:=Cp_ h15;have p19:=dt h18;refine gy tv23 7 ?_;refine next (k+1) rfl rfl ⟨rfl,trivial⟩ trivial ?_ ?_
    · omega
    exact ⟨by omega,Q5_ hk2 (Cj_ hc10) (Cj_ hc13) (by assumption)⟩
  have p20:=df h7;refine gx tv23 11 ?_;refine rt1 rfl rfl ?_;refine ple ?_;exact congrArg PV.bool (Td_ hk2 (by omega) (by omega)).symm
theorem Tg_ (l:List Bs) (x:Bs):Fn Tryz.prog gb 289 [.sl strc l, .str x] (.int .i64 (idxP (fun y=>decide (x=y)) l)):=by
  refine fC Tryz.func289 tv23 Tryz.ntmps289 fun w N H hG=>?_;have l_l:l.length≤140737488355328:=w.1.1;have x_l:x.length≤9223372036854775807:=w.2.1;refine gx tv23 14 ?_;refine loop (ι:=Nat) [0,1,6,7] [] (fun k=>[(8, .int .i64 (k:Int))]) (fun k=>[]) (fun k=>k≤l.length∧idxP (fun y=>decide (x=y)) l=idxF (fun y=>decide (x=y)) k (l.drop k)) (fun k=>l.length-k) 0 ⟨rfl,trivial⟩ trivial ?_ ?_
  · exact ⟨Nat.zero_le _,rfl⟩
  rintro k hp1;obtain ⟨hik1,hik2⟩:=hp1;refine gx tv23 6 ?_;refine cnd rfl (fun h2=>?_) (fun h2=>?_)
  · have p3:=dt h2;obtain ⟨c4,hc5⟩:=getE (xs:=l) (m:=k) (by omega);have c4_l:c4.length≤9223372036854775807:=(w.1.2 c4 (List.mem_of_getElem? hc5)).1;refine gx tv23 15 ?_;refine q1 (qidx tv23 k rfl rfl rfl hc5 rfl rfl rfl rfl) rfl fun w6=>?_;refine gx tv23 4 ?_;refine cnd rfl (fun h7=>?_) (fun h7=>?_)
    · have p8:=dt h7;refine gx tv23 12 ?_;refine rt1 rfl rfl ?_;refine ple ?_;exact congrArg (PV.int .i64) (Iu_ hik2 (Cj_ hc5) (by first | assumption | (simp [*];done))).symm
    have p9:=df h7;refine gy tv23 7 ?_;refine next (k+1) rfl rfl ⟨rfl,trivial⟩ trivial ?_ ?_
    · omega
    exact ⟨by omega,G3_ hik2 (Cj_ hc5) (by assumption)⟩
  have p10:=df h2;refine gx tv23 11 ?_;refine rt1 rfl rfl ?_;refine ple ?_;exact congrArg (PV.int .i64) (I2_ hik2 (by omega)).symm
theorem Ot_ (l:List Bs) (x:Bs):Fn Tryz.prog gb 283 [.sl strc l, .str x] (.bool (decide (x∈l))):=by
  refine fC Tryz.func283 tv23 Tryz.ntmps283 fun w N H hG=>?_;refine gx tv23 9 ?_;refine call (Tg_ _ _) rfl rfl fun w1=>?_;have :=idxP_r (fun y=>decide (x=y)) l;refine gx tv23 5 ?_;refine rt1 rfl rfl ?_;refine ple ?_;refine congrArg PV.bool ?_
  rw [Bool.eq_iff_iff,decide_eq_true_eq,decide_eq_true_eq,W5_]
  simp
theorem Sa_ (x:ShopR):Fn Tryz.prog gb 266 [.agg (ShopR.pc x)] (.int .i64 (K6_ x)):=by
  refine fC Tryz.func266 tv23 Tryz.ntmps266 fun w N H hG=>?_;refine gm tv23 11 [0] fun B2=>?_;refine call (Bc_ _) rfl rfl fun w3=>?_;refine gx tv23 9 ?_;refine cnd rfl (fun h4=>?_) (fun h4=>?_)
  · have h5:=Bo_ h4;have p6:=df h5;refine gx tv23 8 ?_;refine rt1 rfl rfl ?_;refine ple ?_;refine congrArg (PV.int .i64) ?_
    simp only [Bool.or_eq_true,Bool.and_eq_true,Bool.not_eq_true',decide_eq_true_eq,Bool.or_eq_false_iff,Bool.and_eq_false_iff,Bool.not_eq_false',decide_eq_false_iff_not,beq_iff_eq,beq_eq_false_iff_ne] at *
    unfold K6_
    (repeat' split) <;> first | rfl | (exfalso;omega) | (exfalso;simp_all;done) | (exfalso;simp_all;omega) | grind
  have h7:=Cp_ h4;have p8:=dt h7;refine gx tv23 12 ?_;refine cnd rfl (fun h9=>?_) (fun h9=>?_)
  · have p10:=dt h9;refine gx tv23 8 ?_;refine rt1 rfl rfl ?_;refine ple ?_;refine congrArg (PV.int .i64) ?_
    simp only [Bool.or_eq_true,Bool.and_eq_true,Bool.not_eq_true',decide_eq_true_eq,Bool.or_eq_false_iff,Bool.and_eq_false_iff,Bool.not_eq_false',decide_eq_false_iff_not,beq_iff_eq,beq_eq_false_iff_ne] at *
    unfold K6_
    (repeat' split) <;> first | rfl | (exfalso;omega) | (exfalso;simp_all;done) | (exfalso;simp_all;omega) | grind
  have p11:=df h9;refine gx tv23 8 ?_;refine cnd rfl (fun h12=>?_) (fun h12=>?_)
  · have p13:=dt h12;refine gx tv23 4 ?_;refine call (Bc_ _) rfl rfl fun w14=>?_;refine gx tv23 6 ?_;refine rt1 rfl rfl ?_;refine ple ?_;refine congrArg (PV.int .i64) ?_
    simp only [Bool.or_eq_true,Bool.and_eq_true,Bool.not_eq_true',decide_eq_true_eq,Bool.or_eq_false_iff,Bool.and_eq_false_iff,Bool.not_eq_false',decide_eq_false_iff_not,beq_iff_eq,beq_eq_false_iff_ne] at *
    unfold K6_
    (repeat' split) <;> first | rfl | (exfalso;omega) | (exfalso;simp_all;done) | (exfalso;simp_all;omega) | grind
  have p15:=df h12;refine gx tv23 8 ?_;refine cnd rfl (fun h16=>?_) (fun h16=>?_)
  · have h17:=Bo_ h16;have p18:=df h17;refine gx tv23 8 ?_;refine rt1 rfl rfl ?_;refine ple ?_;refine congrArg (PV.int .i64) ?_
    simp only [Bool.or_eq_true,Bool.and_eq_true,Bool.not_eq_true',decide_eq_true_eq,Bool.or_eq_false_iff,Bool.and_eq_false_iff,Bool.not_eq_false',decide_eq_false_iff_not,beq_iff_eq,beq_eq_false_iff_ne] at *
    unfold K6_
    (repeat' split) <;> first | rfl | (exfalso;omega) | (exfalso;simp_all;done) | (exfalso;simp_all;omega) | grind
  have h19:=Cp_ h16;have p20:=dt h19;refine gx tv23 9 ?_;refine rt1 rfl rfl ?_;refine ple ?_;refine congrArg (PV.int .i64) ?_
  simp only [Bool.or_eq_true,Bool.and_eq_true,Bool.not_eq_true',decide_eq_true_eq,Bool.or_eq_false_iff,Bool.and_eq_false_iff,Bool.not_eq_false',decide_eq_false_iff_not,beq_iff_eq,beq_eq_false_iff_ne] at *
  unfold K6_
  (repeat' split) <;> first | rfl | (exfalso;omega) | (exfalso;simp_all;done) | (exfalso;simp_all;omega) | grind
theorem Kr_ (b:BookR) (name:Bs):Fn Tryz.prog gb 267 [.agg (BookR.pc b), .str name] (.tup [.agg (ShopR.pc ((C5_ b.shops name).getD ShopR.zero)), .bool ((C5_ b.shops name).isSome)]):=by
  refine fC Tryz.func267 tv23 Tryz.ntmps267 fun w N H hG=>?_;have b_shops_l:b.shops.length≤140737488355328:=w.1.1.1;have b_binds_l:b.binds.length≤140737488355328:=w.1.2.1.1;have name_l:name.length≤9223372036854775807:=w.2.1;refine gm tv23 17 [0,1] fun B2=>?_;refine loop (ι:=Nat) [0,1,2,4,8,9,10] [0,1] (fun k=>[(11, .int .i64 (k:Int))]) (fun k=>[]) (fun k=>k≤b.shops.length∧C5_ b.shops name=C5_ (b.shops.drop k) name) (fun k=>b.shops.length-k) 0 ⟨rfl,trivial⟩ trivial ?_ ?_
  · exact ⟨Nat.zero_le _,rfl⟩
  rintro k hp4;obtain ⟨hk1,hk2⟩:=hp4;refine gx tv23 6 ?_;refine cnd rfl (fun h5=>?_) (fun h5=>?_)
  · have p6:=dt h5;obtain ⟨c7,hc8⟩:=getE (xs:=b.shops) (m:=k) (by omega);have c7_w:=ShopR.pwf (w.1.1.2 c7 (List.mem_of_getElem? hc8));refine gx tv23 6 ?_;refine q1 (qidx tv23 k rfl rfl rfl hc8 rfl rfl rfl rfl) rfl fun w9=>?_;refine gm tv23 13 [2] fun B11=>?_;refine cnd rfl (fun h12=>?_) (fun h12=>?_)
    · have p13:=dt h12;refine gm tv23 13 [] fun _=>?_;refine rt2 rfl rfl ?_;refine ple ?_;have e:=Sj_ hk2 (Cj_ hc8) (by assumption)
      rw [e]
      rfl
    have p15:=df h12;refine gy tv23 7 ?_;refine next (k+1) rfl rfl ⟨rfl,trivial⟩ trivial ?_ ?_
    · (try simp only []);omega
    exact ⟨by omega,P6_ hk2 (Cj_ hc8) (by assumption)⟩
  have p16:=df h5;refine gm tv23 13 [] fun _=>?_;refine rt2 rfl rfl ?_;refine ple ?_
  rw [List.drop_of_length_le (by omega)] at hk2
  rw [hk2]
  rfl
end Go.SW.V
set_option linter.unusedVariables false
set_option maxRecDepth 100000
set_option maxHeartbeats 4000000
namespace Go.SW.V
open Go.SW Go.Proofs
abbrev Xb_:TI:=⟨.slc 49,1,24,[.sl BindR.pc []]⟩
def tbv24:Tb:=[(4,ty4),(9,ty9),(47,ty47),(49,ty49),(199,Wm_),(322,ty322),(340,Xb_)]
theorem tv24:tbB Tryz.prog tbv24=true:=by kernel_rfl
theorem In_ (x:BindR) (sort:Int):Fn Tryz.prog gb 269 [.agg (BindR.pc x), .int .u8 sort] (.agg (Rule.pc (Fb_ x sort))):=by
  refine fC Tryz.func269 tv24 Tryz.ntmps269 fun w N H hG=>?_;refine gm tv24 20 [0,1] fun B2=>?_;refine rt1 rfl rfl ?_;refine ple ?_
  rfl
theorem Wk_ (x:BindR) (y:BindR):Fn Tryz.prog gb 281 [.agg (BindR.pc x), .agg (BindR.pc y)] (.bool (decide (x=y))):=by
  refine fC Tryz.func281 tv24 Tryz.ntmps281 fun w N H hG=>?_;refine gm tv24 8 [0,1] fun B2=>?_;refine aN [2,3,4,5,6,7] 27 mixd ?_;refine gXy tv24 [0,1,2,3,4,5,6,7,8,9,10,11,12,13,14,15,16,17,18,19,20,22] 5 ?_;refine vE 21 rfl (ecallg rfl (fun hc=>(In_ _ _)) rfl ⟨(fun hc=>hc),trivial⟩ rfl rfl fun _=>?_);refine vE 23 rfl (ecallg rfl (fun hc=>(In_ _ _)) rfl ⟨(fun hc=>hc),trivial⟩ rfl rfl fun _=>?_);refine vcallg 24 rfl (by kernel_rfl) rfl (fun hc=>(St_ _ _)) rfl rfl ⟨(fun hc=>hc),(fun hc=>hc),trivial⟩ rfl fun _=>?_;refine gXy tv24 [25,26] 0 ?_;refine vD ?_;refine gx tv24 2 ?_;refine rt1 rfl rfl ?_;refine ple ?_;exact congrArg PV.bool (by rw [Bool.eq_iff_iff];first | (simp [BindR.eq_iff,Fb_,and_assoc];done) | (simp [BindR.eq_iff,Fb_];grind))
theorem Ez_ (s:List Pair) (hl:s.length≤1000000:=by first | omega | (simp;done) | (simp;omega)):Fn Tryz.prog gb 124 [.sl Pair.pc s] (.sl Pair.pc s):=by
  refine fC Tryz.func124 tv24 Tryz.ntmps124 fun w N H hG=>?_;refine gx tv24 9 ?_;refine ef (lnil tv24 rfl rfl rfl rfl rfl fun b1 hb2=>?_);refine gx tv24 2 ?_;refine cnd rfl (fun h3=>?_) (fun h3=>?_)
  · refine gx tv24 7 ?_;refine rt1 rfl rfl ?_;refine Fz_ ?_;exact hb2 (by assumption)
  refine gx tv24 4 ?_;refine ef (bsl 0 Pair.pc [] tv24 rfl rfl rfl rfl rfl (fun _=>rfl) rfl (by decide) (by decide) rfl fun u4=>?_);refine gx tv24 1 ?_;refine ef (app tv24 s rfl rfl rfl rfl rfl rfl rfl rfl rfl (src_l rfl (fun _=>rfl)) (by first | omega | (simp;omega)) rfl fun u5=>?_);refine gx tv24 3 ?_;refine givec 0 rfl ?_;refine gx tv24 1 ?_;refine rt1 rfl rfl ?_;refine ple ?_
  simp
theorem Sf_ (x:BindR) (hl:x.want.length≤1000000:=by first | omega | (simp;done) | decide):Fn Tryz.prog gb 272 [.agg (BindR.pc x)] (.agg (BindR.pc x)):=by
  refine fC Tryz.func272 tv24 Tryz.ntmps272 fun w N H hG=>?_;refine gm tv24 10 [0,1] fun B2=>?_;refine call (Ez_ _) rfl rfl fun w4=>?_;refine gm tv24 11 [] fun _=>?_;refine rt1 rfl rfl ?_;refine ple ?_
  rfl
theorem Uw_ (s:List BindR) (f:FuncId) (f_fst f_cap:List PV) (f_p:BindR→Bool) (f_h:∀ x,Fn Tryz.prog gb f (argsP.apL f_fst ((.agg (BindR.pc x))::f_cap)) (.bool (f_p x))):Fn Tryz.prog gb 280 [.sl BindR.pc s, .fn f f_fst f_cap] (.int .i64 (idxP f_p s)):=by
  refine fC Tryz.func280 tv24 Tryz.ntmps280 fun w N H hG=>?_;have s_l:s.length≤140737488355328:=w.1.1;refine gx tv24 14 ?_;refine loop (ι:=Nat) [0,1,6,7] [] (fun k=>[(8, .int .i64 (k:Int))]) (fun k=>[]) (fun k=>k≤s.length∧idxP f_p s=idxF f_p k (s.drop k)) (fun k=>s.length-k) 0 ⟨rfl,trivial⟩ trivial ?_ ?_
  · exact ⟨Nat.zero_le _,rfl⟩
  rintro k hp1;obtain ⟨hk1,hk2⟩:=hp1;refine gx tv24 6 ?_;refine cnd rfl (fun h2=>?_) (fun h2=>?_)
  · have p3:=dt h2;obtain ⟨c4,hc5⟩:=getE (xs:=s) (m:=k) (by omega);have c4_w:=BindR.pwf (w.1.2 c4 (List.mem_of_getElem? hc5));refine gx tv24 15 ?_;refine q1 (qidx tv24 k rfl rfl rfl hc5 rfl rfl rfl rfl) rfl fun w6=>?_;refine gx tv24 1 ?_;refine call (f_h c4) rfl rfl fun w7=>?_;refine gx tv24 2 ?_;refine cnd rfl (fun h8=>?_) (fun h8=>?_)
    · refine gx tv24 12 ?_;refine rt1 rfl rfl ?_;refine ple ?_;exact congrArg (PV.int .i64) (Iu_ hk2 (Cj_ hc5) (by assumption)).symm
    refine gy tv24 7 ?_;refine next (k+1) rfl rfl ⟨rfl,trivial⟩ trivial ?_ ?_
    · omega
    exact ⟨by omega,G3_ hk2 (Cj_ hc5) (by assumption)⟩
  have p9:=df h2;refine gx tv24 11 ?_;refine rt1 rfl rfl ?_;refine ple ?_;exact congrArg (PV.int .i64) (I2_ hk2 (by omega)).symm
end Go.SW.V
set_option linter.unusedVariables false
set_option maxRecDepth 100000
set_option maxHeartbeats 4000000
namespace Go.SW.V
open Go.SW Go.Proofs
def tbv25:Tb:=[(9,ty9),(51,ty51),(285,N6_),(322,ty322)]
theorem tv25:tbB Tryz.prog tbv25=true:=by kernel_rfl
theorem Ux_:Fn Tryz.prog gb 245 [] (.bool true):=by
  refine fC Tryz.func245 tv25 Tryz.ntmps245 fun w N H hG=>?_;refine gx tv25 8 ?_;refine call (out_Num (⟨[],0⟩:Out) _ _ (by first | omega | (have :=hrl (by assumption);omega) | (simp [A_,J_,G_,numK] <;> omega) | (have :=hrl (by assumption);simp [A_,J_,G_,numK] <;> omega))) rfl rfl fun w1=>?_;have nl0:(⟨[],0⟩:Out).s.length=0:=rfl;have :=I_ (⟨[],0⟩:Out) 258 2;refine call (Aa_ _) rfl rfl fun w2=>?_;refine gx tv25 1 ?_;refine so_rt (t:=4) (p':= .bool true) (ple (congrArg PV.bool (show decide (((A_ (⟨[],0⟩:Out) 258 2).s)=[1,2])=true by decide +kernel))) rfl ?_;refine gx tv25 1 ?_;refine ungd rfl rfl ?_;refine gx tv25 1 ?_;refine ungd rfl rfl ?_;refine call (Ak_ (⟨[],0⟩:Out) _) rfl rfl fun w3=>?_;have nl0:(⟨[],0⟩:Out).s.length=0:=rfl;have :=L_ (⟨[],0⟩:Out) [97,98];refine ungd rfl rfl ?_;refine call (Aa_ _) rfl rfl fun w4=>?_;refine ungd rfl rfl ?_;refine gx tv25 1 ?_;refine so_rt (t:=9) (p':= .bool true) (ple (congrArg PV.bool (show decide (((B_ (⟨[],0⟩:Out) [97,98]).s)=[0,2,97,98])=true by decide +kernel))) rfl ?_;refine gx tv25 2 ?_;refine ungd rfl rfl ?_;refine ef (ecallb 0 (Kg_ _) rfl rfl fun w5 b6=>?_);refine ungd rfl rfl ?_;refine ef (ecallm (Fl_ (⟨[1,2],0⟩) _) rfl rfl rfl rfl rfl fun w7 w7p=>?_);have :=Bq_ (⟨[1,2],0⟩) 2;refine ungd rfl rfl ?_;refine gx tv25 1 ?_;refine so_rt (t:=14) (p':= .bool true) (ple (congrArg PV.bool (show decide ((((K_ (⟨[1,2],0⟩) 2)).1)=258)=true by decide +kernel))) rfl ?_;refine gx tv25 5 ?_;refine rt1 rfl rfl ?_;refine ple ?_;exact congrArg PV.bool (by first | rfl | decide +kernel)
theorem O5_:Fn Tryz.prog gb 223 [] (.bool true):=by
  refine fC Tryz.func223 tv25 Tryz.ntmps223 fun w N H hG=>?_;refine gx tv25 7 ?_;refine call Ux_ rfl rfl fun w1=>?_;refine gx tv25 4 ?_;refine rt1 rfl rfl ?_;refine ple ?_
  rfl
theorem Us_:Fn Tryz.prog gb 247 [] (.bool true):=by
  refine fC Tryz.func247 tv25 Tryz.ntmps247 fun w N H hG=>?_;refine gx tv25 7 ?_;refine call (Ev_ _ _) rfl rfl fun w1=>?_;refine so_rt (t:=1) (p':= .bool true) (ple (congrArg PV.bool (show mt (Ay_ [97,46,42,46,35]) (Ay_ [97,46,98])=true by decide +kernel))) rfl ?_;refine gx tv25 1 ?_;refine ungd rfl rfl ?_;refine call (Ev_ _ _) rfl rfl fun w2=>?_;refine so_rt (t:=3) (p':= .bool true) (ple (congrArg PV.bool (show mt (Ay_ [97,46,42,46,35]) (Ay_ [97,46,98,46,99,46,100])=true by decide +kernel))) rfl ?_;refine gx tv25 2 ?_;refine ungd rfl rfl ?_;refine call (Ev_ _ _) rfl rfl fun w3=>?_;refine so_rt (t:=6) (p':= .bool false) (ple (congrArg PV.bool (show mt (Ay_ [97,46,42,46,35]) (Ay_ [97])=false by decide +kernel))) rfl ?_;refine ungd rfl rfl ?_;refine gx tv25 1 ?_;refine so_rt (t:=7) (p':= .bool true) (ple (congrArg PV.bool (show !false=true by decide +kernel))) rfl ?_;refine gx tv25 2 ?_;refine ungd rfl rfl ?_;refine call (Bc_ _) rfl rfl fun w4=>?_;refine ungd rfl rfl ?_;refine gx tv25 1 ?_;refine so_rt (t:=11) (p':= .bool true) (ple (congrArg PV.bool (show decide ((B8_ [97,45,49])=0)=true by decide +kernel))) rfl ?_;refine gx tv25 5 ?_;refine rt1 rfl rfl ?_;refine ple ?_;exact congrArg PV.bool (by first | rfl | decide +kernel)
theorem J1_:Fn Tryz.prog gb 225 [] (.bool true):=by
  refine fC Tryz.func225 tv25 Tryz.ntmps225 fun w N H hG=>?_;refine gx tv25 7 ?_;refine call Us_ rfl rfl fun w1=>?_;refine gx tv25 4 ?_;refine rt1 rfl rfl ?_;refine ple ?_
  rfl
theorem V5_:Fn Tryz.prog gb 190 [] (.bool true):=by
  refine fC Tryz.func190 tv25 Tryz.ntmps190 fun w N H hG=>?_;refine gx tv25 7 ?_;refine call (Fn.le (Eb_ []) (F_ Bi_ A5_) (ple rfl) rfl) rfl rfl fun w1=>?_;have :=Cf_ [];refine gx tv25 9 ?_;refine call O5_ rfl rfl fun w2=>?_;refine gx tv25 1 ?_;refine ungd rfl rfl ?_;refine call J1_ rfl rfl fun w3=>?_;refine gx tv25 2 ?_;refine ungd rfl rfl ?_;refine gx tv25 1 ?_;refine ungd rfl rfl ?_;refine gx tv25 1 ?_;refine so_rt (t:=13) (p':= .bool true) (ple (congrArg PV.bool (show decide ((Ck_ [])=0)=true by decide +kernel))) rfl ?_;refine gx tv25 2 ?_;refine ungd rfl rfl ?_;refine gx tv25 1 ?_;refine ungd rfl rfl ?_;refine gx tv25 1 ?_;refine so_rt (t:=17) (p':= .bool true) (ple (congrArg PV.bool (show decide ((Y_ [])=[0])=true by decide +kernel))) rfl ?_;refine gx tv25 5 ?_;refine rt1 rfl rfl ?_;refine ple ?_;exact congrArg PV.bool (by first | rfl | decide +kernel)
theorem Km_:Fn Tryz.prog gb 150 [] (.bool true):=by
  refine fC Tryz.func150 tv25 Tryz.ntmps150 fun w N H hG=>?_;refine gx tv25 7 ?_;refine call V5_ rfl rfl fun w1=>?_;refine gx tv25 4 ?_;refine rt1 rfl rfl ?_;refine ple ?_
  rfl
theorem Tm_:Fn Tryz.prog gb 188 [] (.bool true):=by
  refine fC Tryz.func188 tv25 Tryz.ntmps188 fun w N H hG=>?_;refine gm tv25 14 [0] fun B2=>?_;refine call J1_ rfl rfl fun w3=>?_;refine gx tv25 1 ?_;refine ungd rfl rfl ?_;refine call Km_ rfl rfl fun w4=>?_;refine gx tv25 2 ?_;refine ungd rfl rfl ?_;refine gx tv25 1 ?_;refine ungd rfl rfl ?_;refine call (Mb_ (⟨2,[97,46,35],[],false⟩:Rule)) rfl rfl fun w5=>?_;refine ungd rfl rfl ?_;refine gx tv25 1 ?_;refine so_rt (t:=10) (p':= .bool true) (ple (congrArg PV.bool (show decide ((Mk_ (⟨2,[97,46,35],[],false⟩:Rule))=0)=true by decide +kernel))) rfl ?_;refine gx tv25 2 ?_;refine ungd rfl rfl ?_;refine gx tv25 1 ?_;refine ungd rfl rfl ?_;refine call (Fn.le (K4_ (⟨2,[97,46,35],[],false⟩:Rule) _ []) (F_ (ple rfl) (F_ (ple rfl) (F_ Bi_ A5_))) (ple rfl) rfl) rfl rfl fun w6=>?_;refine so_rt (t:=14) (p':= .bool true) (ple (congrArg PV.bool (show Ja_ (⟨2,[97,46,35],[],false⟩:Rule) [97,46,98] []=true by decide +kernel))) rfl ?_;refine gx tv25 2 ?_;refine ungd rfl rfl ?_;refine gx tv25 1 ?_;refine ungd rfl rfl ?_;refine call (Fn.le (K4_ (⟨2,[97,46,35],[],false⟩:Rule) _ []) (F_ (ple rfl) (F_ (ple rfl) (F_ Bi_ A5_))) (ple rfl) rfl) rfl rfl fun w7=>?_;refine so_rt (t:=18) (p':= .bool false) (ple (congrArg PV.bool (show Ja_ (⟨2,[97,46,35],[],false⟩:Rule) [98] []=false by decide +kernel))) rfl ?_;refine ungd rfl rfl ?_;refine gx tv25 1 ?_;refine so_rt (t:=19) (p':= .bool true) (ple (congrArg PV.bool (show !false=true by decide +kernel))) rfl ?_;refine gx tv25 5 ?_;refine rt1 rfl rfl ?_;refine ple ?_;exact congrArg PV.bool (by first | rfl | decide +kernel)
theorem Or_:Fn Tryz.prog gb 148 [] (.bool true):=by
  refine fC Tryz.func148 tv25 Tryz.ntmps148 fun w N H hG=>?_;refine gx tv25 7 ?_;refine call Tm_ rfl rfl fun w1=>?_;refine gx tv25 4 ?_;refine rt1 rfl rfl ?_;refine ple ?_
  rfl
theorem Tb_:Fn Tryz.prog gb 240 [] (.bool true):=by
  refine fC Tryz.func240 tv25 Tryz.ntmps240 fun w N H hG=>?_;refine gx tv25 8 ?_;refine call (Lv_ (⟨0,[97],[],[],[],0,0⟩:Mail)) rfl rfl fun w1=>?_;have :=Fv_ (⟨0,[97],[],[],[],0,0⟩:Mail);refine gx tv25 9 ?_;refine call Km_ rfl rfl fun w2=>?_;refine gx tv25 1 ?_;refine ungd rfl rfl ?_;refine gx tv25 1 ?_;refine ungd rfl rfl ?_;refine gx tv25 1 ?_;refine so_rt (t:=11) (p':= .bool true) (ple (congrArg PV.bool (show decide ((Gw_ (⟨0,[97],[],[],[],0,0⟩:Mail))=0)=true by decide +kernel))) rfl ?_;refine gx tv25 2 ?_;refine ungd rfl rfl ?_;refine gx tv25 1 ?_;refine ungd rfl rfl ?_;refine gx tv25 1 ?_;refine ungd rfl rfl ?_;refine gx tv25 1 ?_;refine so_rt (t:=16) (p':= .bool true) (ple (congrArg PV.bool (show decide (((Co_ (⟨0,[97],[],[],[],0,0⟩:Mail)).length:Int)=25)=true by decide +kernel))) rfl ?_;refine gx tv25 5 ?_;refine rt1 rfl rfl ?_;refine ple ?_;exact congrArg PV.bool (by first | rfl | decide +kernel)
theorem V7_:Fn Tryz.prog gb 213 [] (.bool true):=by
  refine fC Tryz.func213 tv25 Tryz.ntmps213 fun w N H hG=>?_;refine gx tv25 7 ?_;refine call Tb_ rfl rfl fun w1=>?_;refine gx tv25 4 ?_;refine rt1 rfl rfl ?_;refine ple ?_
  rfl
end Go.SW.V
set_option linter.unusedVariables false
set_option maxRecDepth 100000
set_option maxHeartbeats 4000000
namespace Go.SW.V
open Go.SW Go.Proofs
def tbv26:Tb:=[(9,ty9),(158,Nq_),(200,O7_)]
theorem tv26:tbB Tryz.prog tbv26=true:=by kernel_rfl
theorem Tj_:Fn Tryz.prog gb 246 [] (.bool true):=by
  refine fC Tryz.func246 tv26 Tryz.ntmps246 fun w N H hG=>?_;refine gx tv26 7 ?_;refine ef (bsl 0 strc [[49,50,51,52],[53,54,55,56,57]] tv26 rfl rfl rfl rfl rfl (fun _=>rfl) rfl (by decide) (by decide) rfl fun u1=>?_);refine ef (calll 0 rfl (Ne_ _) rfl rfl rfl fun w2=>?_);have :=H8_ [[49,50,51,52],[53,54,55,56,57]];refine gx tv26 1 ?_;refine so_rt (t:=3) (p':= .bool true) (ple (congrArg PV.bool (show decide ((Ga_ [[49,50,51,52],[53,54,55,56,57]])=3421780262)=true by decide +kernel))) rfl ?_;refine gx tv26 1 ?_;refine ungd rfl rfl ?_;refine call (Fn.le (Ne_ []) (F_ Bi_ A5_) (ple rfl) rfl) rfl rfl fun w3=>?_;have :=H8_ [];refine ungd rfl rfl ?_;refine gx tv26 1 ?_;refine so_rt (t:=6) (p':= .bool true) (ple (congrArg PV.bool (show decide ((Ga_ [])=0)=true by decide +kernel))) rfl ?_;refine gx tv26 5 ?_;refine rt1 rfl rfl ?_;refine ple ?_;exact congrArg PV.bool (by first | rfl | decide +kernel)
theorem Uj_:Fn Tryz.prog gb 224 [] (.bool true):=by
  refine fC Tryz.func224 tv26 Tryz.ntmps224 fun w N H hG=>?_;refine gx tv26 7 ?_;refine call Tj_ rfl rfl fun w1=>?_;refine gx tv26 4 ?_;refine rt1 rfl rfl ?_;refine ple ?_
  rfl
theorem Wa_:Fn Tryz.prog gb 185 [] (.bool true):=by
  refine fC Tryz.func185 tv26 Tryz.ntmps185 fun w N H hG=>?_;refine gx tv26 8 ?_;refine call (Kz_ (⟨1,2,[]⟩:Frame)) rfl rfl fun w1=>?_;refine gx tv26 9 ?_;refine call O5_ rfl rfl fun w2=>?_;refine gx tv26 1 ?_;refine ungd rfl rfl ?_;refine call Uj_ rfl rfl fun w3=>?_;refine gx tv26 2 ?_;refine ungd rfl rfl ?_;refine gx tv26 1 ?_;refine ungd rfl rfl ?_;refine gx tv26 1 ?_;refine so_rt (t:=14) (p':= .bool true) (ple (congrArg PV.bool (show decide ((Jw_ (⟨1,2,[]⟩:Frame))=0)=true by decide +kernel))) rfl ?_;refine gx tv26 2 ?_;refine ungd rfl rfl ?_;refine gx tv26 1 ?_;refine ungd rfl rfl ?_;refine gx tv26 1 ?_;refine ungd rfl rfl ?_;refine gx tv26 1 ?_;refine so_rt (t:=19) (p':= .bool true) (ple (congrArg PV.bool (show decide (((T_ (⟨1,2,[]⟩:Frame)).length:Int)=9)=true by decide +kernel))) rfl ?_;refine gx tv26 2 ?_;refine ungd rfl rfl ?_;refine gx tv26 1 ?_;refine ungd rfl rfl ?_;have :=u8r ((T_ (⟨1,2,[]⟩:Frame)).getD 8 0);refine q1 (sidx tv26 8 rfl rfl rfl rfl rfl (by first | omega | decide +kernel)) rfl fun w4=>?_;refine ungd rfl rfl ?_;refine gx tv26 1 ?_;refine so_rt (t:=24) (p':= .bool true) (ple (congrArg PV.bool (show decide ((((T_ (⟨1,2,[]⟩:Frame)).getD 8 0).toNat:Int)=206)=true by decide +kernel))) rfl ?_;refine gx tv26 5 ?_;refine rt1 rfl rfl ?_;refine ple ?_;exact congrArg PV.bool (by first | rfl | decide +kernel)
theorem O3_:Fn Tryz.prog gb 145 [] (.bool true):=by
  refine fC Tryz.func145 tv26 Tryz.ntmps145 fun w N H hG=>?_;refine gx tv26 7 ?_;refine call Wa_ rfl rfl fun w1=>?_;refine gx tv26 4 ?_;refine rt1 rfl rfl ?_;refine ple ?_
  rfl
end Go.SW.V
set_option linter.unusedVariables false
set_option maxRecDepth 100000
set_option maxHeartbeats 4000000
namespace Go.SW.V
open Go.SW Go.Proofs
end Go.SW.V
set_option linter.unusedVariables false
set_option maxRecDepth 100000
set_option maxHeartbeats 4000000
namespace Go.SW.V
open Go.SW Go.Proofs
end Go.SW.V
