/-
  A part of the proof of LiveMerges: Contracts over what values stand for; calls; what a function hands back; loops; branches. Over any program
-/
import Derived.Test.YtfaoaphcbchciaaGreatDoorLiveMergesP1
import Derived.Lib.SplitLaws
import Derived.Lib.IndexAny
import Derived.ProofKit
import Derived.OpenShut
import Derived.Deep.Slices
import Derived.Carry
import Derived.Lib.LaidTab
import Derived.SizedLaws
import Derived.KernelRfl
import Derived.Lib.ItoaLen
import Derived.Lib.Join
import Derived.Test.YtfaoaphcbchciaaGreatDoorProg
import Derived.Below
import Derived.Laws.AppendOwn
import Derived.Lib.FieldsP
import Derived.Shelf.LaysM
import Derived.Shelf.Strings.Split
import Derived.Shelf.Strings.Repeat
import Derived.MapKept
set_option linter.unusedVariables false
set_option linter.unusedSimpArgs false
set_option maxRecDepth 100000
set_option maxHeartbeats 4000000
open Go.Proofs.Tryz
namespace Go.SW
variable {P:Program} {n:Nat} {N:Rest} {H0:Env}
def PLe (p q:PV):Prop:=∀ H v,Sim H p v->Sim H q v
theorem ple {p q:PV} (h:p=q):PLe p q:=λ_ _ x=>h ▸ x
structure Fn (P:Program) (G:Gb) (f:FuncId) (args:List PV) (res:PV):Prop where
 cb:V_ P f
 no:res.noOsl=true
 run:∀ (N:Rest) (H:Hp) (L:Ls) (w:World) (vs:List Value),G.p H->Sims H args vs->Mem N H L w->Calls P f vs.toArray w λe w'=>∃ v H',e = .returned v/\Sim H' res v/\HLe H H'/\Mem N H' L w'
theorem Fn.ph {G:Gb} {f:FuncId} {args:List PV} {res:PV} {H:Hp} {vs:List Value} (h:Fn P G f args res) (hg:G.p H) (hs:Sims H args vs):Ph P f vs.toArray H (λv H'=>Sim H' res v):=λN L w hm=>
 (h.run N H L w vs hg hs hm).mono λ_ _ ⟨v,H',h1,h2,h3,h4⟩=>⟨v,H',h1,h2,h3,h4⟩
def N1_ (tb:Tb) (s:St):ResultVar->Option PR
 | .tmp t=>some (.q (s.F t))
 | .cell a T=>Nx_ tb s.L T (s.F a)
def Fu_ (tb:Tb) (s:St):List ResultVar->Option (List PV×List Nat×List Nat)
 |[]=>some ([],[],[])
 |r::rs=>match N1_ tb s r with
   |some x=>match Fu_ tb s rs with
     |some (ps,as0,bs)=>frc x.v λv=>match x.lk with
       |none=>some (v::ps,as0,bs)
       |some (_,a,b)=>some (v::ps,a::as0,b::bs)
     |none=>none
   |none=>none
def tupP:List PV->PV
 |[p]=>p
 |ps=> .tup ps
theorem rv_1 {tb:Tb} {s:St} {F:Fr} {H:Hp} {L:Ls} {r:ResultVar} {x:PR} (ht:tbB P tb=true) (ha:Abs H0 s F H L) (h:N1_ tb s r=some x) (he:∀ y,x.lk=some y->y.2.1=y.2.2):∃ v,RV P N F H L r v/\Sim H x.v v:=by
 cases r with
 |tmp t=>simp only[N1_,Option.some.injEq] at h;subst h;exact⟨F t,rv_t Y,(ha.f t).sim⟩
 |cell a T=>
   simp only[N1_] at h
   obtain⟨v,h1,h2⟩:=Pt_ (P:=P) (N:=N) (ty:=0) (x:= .tmp a) ht ha.l (ha.f a) h he
   refine⟨v,λw tmps htm hm=>?_,h1.sim⟩
   have h3:=h2 H L (.refl H) (λ_ _=>rfl) none "" #[] none w hm
   simp only[rvS,htm a]
   simp only[execOp,ev,Instr.loadAt] at h3
   revert h3
   cases F a with
   |pointer q=>
     cases q with
     |some q=>
       simp[Instr.sureAddr,asAddr]
       intro h3
       cases hr:(loadVar T q).run P w with
       |ok x w'=>rw[hr] at h3;simp[Result.andThen] at h3;simp[h3]
       |halt x w'=>rw[hr] at h3;simp[Result.andThen] at h3
     |none=>intro h3;simp[Instr.sureAddr] at h3
   |_=>intro h3;simp[Instr.sureAddr] at h3
theorem Ho_ {tb:Tb} {s:St} {F:Fr} {H:Hp} {L:Ls} (ht:tbB P tb=true) (ha:Abs H0 s F H L):∀ (rs:List ResultVar) (ps:List PV) (as0 bs:List Nat),Fu_ tb s rs=some (ps,as0,bs)->as0=bs ->
   ∃ vs:List Value,Sims H ps vs/\∀ (w:World) (tmps:Array Value),(∀ t,tmps.getD t undef=F t)->Mem N H L w->(rs.mapM (rvS tmps)).run P w = .ok vs w
 |[],ps,as0,bs,h,_=>by simp only[Fu_,Option.some.injEq,Prod.mk.injEq] at h;obtain⟨rfl,_⟩:=h;exact⟨[],Sims.nil,λw tmps _ _=>by simp⟩
 |r::rs,ps,as0,bs,h,he=>by
   simp only[Fu_] at h
   split at h
   . rename_i x hx
     split at h
     . rename_i ps' as' bs' hps
       rw[Ew_] at h
       split at h
       . rename_i hlk
         simp only[Option.some.injEq,Prod.mk.injEq] at h
         obtain⟨rfl,rfl,rfl⟩:=h
         obtain⟨vs,h1,h2⟩:=Ho_ ht ha rs _ _ _ hps he
         obtain⟨v,h3,h4⟩:=rv_1 (N:=N) ht ha hx (λy hy=>by rw[hlk] at hy;cases hy)
         exact zH
       . rename_i i a b hlk
         simp only[Option.some.injEq,Prod.mk.injEq] at h
         obtain⟨rfl,rfl,rfl⟩:=h
         simp only[List.cons.injEq] at he
         obtain⟨vs,h1,h2⟩:=Ho_ ht ha rs _ _ _ hps he.2
         obtain⟨v,h3,h4⟩:=rv_1 (N:=N) ht ha hx (λy hy=>by rw[hlk] at hy;cases hy;exact he.1)
         exact zH
     . cases h
   . cases h
def rtK (tb:Tb) (rs:List ResultVar) (res:PV):Qs:=λe s=>(e = .normal\/e = .ret)/\∃ ps as0 bs,Fu_ tb s rs=some (ps,as0,bs)/\as0=bs/\PLe (tupP ps) res
theorem rt {tb:Tb} {rs:List ResultVar} {res:PV} {s:St} {ps:List PV} {as0 bs:List Nat} (h:Fu_ tb s rs=some (ps,as0,bs)) (he:as0=bs) (hp:PLe (tupP ps) res):Hd P n N H0 (rtK tb rs res) (.ex .ret) [] s:=⟨.inr Y,ps,as0,bs,h,he,hp⟩
theorem rtK_res {tb:Tb} {fn:Func} {res:PV} {s:St} {F:Fr} {H:Hp} {L:Ls} {e:Exit} (ht:tbB P tb=true) (ha:Abs H0 s F H L) (h:rtK tb fn.results.toList res e s):(e = .normal\/e = .ret)/\∃ v,Res P N fn F H L v/\Sim H res v:=by
 obtain⟨he,ps,as0,bs,h1,h2,h3⟩:=h;refine⟨he,?_⟩;obtain⟨vs,h4,h5⟩:=Ho_ (N:=N) ht ha _ _ _ _ h1 h2;have h6:∀ (w:World) (tmps:Array Value),(∀ t,tmps.getD t undef=F t)->Mem N H L w->(fn.results.mapM (rvS tmps)).run P w = .ok vs.toArray w:=λw tmps htm hm=>by
   rw[Array.mapM_eq_mapM_toList]
   simp[h5 w tmps htm hm]
 match ps,vs,h4,h6,h3 with
 |[p],[v],h4,h6,h3=>
   refine⟨v,λw tmps htm hm=>?_,h3 H v (h4.2 0 p v Y Y)⟩
   rw[At_,Sem.run_bind,h6 w tmps htm hm]
   simp
 |[],vs,h4,h6,h3=>
   cases h4.inv_nil
   refine⟨.tuple #[],λw tmps htm hm=>?_,h3 H _ (Sim.toTup (vs:=[]) Sims.nil)⟩
   rw[At_,Sem.run_bind,h6 w tmps htm hm]
   simp
 |p::q::r,vs,h4,h6,h3=>
   refine⟨.tuple vs.toArray,λw tmps htm hm=>?_,h3 H _ (Sim.toTup h4)⟩
   rw[At_,Sem.run_bind,h6 w tmps htm hm]
   have :vs.length≠1:=by rw[h4.1];simp
   simp[this]
 |[p],[],h4,_,_=>exact absurd h4.1 xA
 |[p],_::_::_,h4,_,_=>exact absurd h4.1 xA
def Kv_ (args:List PV):Nat->PV:=λt=>match nth args t with
 |some p=>p
 |none=> .junk
def Am_:List PV->Bool
 |[]=>true
 |p::r=>p.noOsl&&Am_ r
theorem Da_:∀ {ps:List PV} {i:Nat} {p:PV},Am_ ps=true->ps[i]? = some p->p.noOsl=true
 |[],i,p,_,h=>by simp at h
 |q::r,0,p,h,hp=>by simp only[Am_,Bool.and_eq_true] at h;simp at hp;rw[<- hp];exact h.1
 |q::r,i+1,p,h,hp=>by simp only[Am_,Bool.and_eq_true] at h;exact Da_ h.2 (by simpa using hp)
theorem Ne_ {sL:Nat->Blk} {H:Hp} {args:List PV} {vs:List Value} (hs:Sims H args vs) (hn:Am_ args=true) (t:Nat):SimT sL H (Kv_ args t) (Dk_ vs.toArray t):=by
 unfold Kv_;rw[Bv_]
 cases h:args[t]? with
 |none=>exact Sim.junk
 |some p=>
   obtain⟨v,hv,hp⟩:=hs.get h
   refine Sim.simT ?_ (Da_ hn h)
   simpa [Dk_,List.getD_eq_getElem?_getD,hv] using hp
theorem fn_cw {tb:Tb} {G:Gb} {m:Nat} {f:FuncId} {fn:Func} {c:Code} {args:List PV} {res:PV} (ht:tbB P tb=true) (hf:P.funcs[f]? = some fn) (hb:fn.body=some c) (hn:fn.ntmps=m) (hs:Nat.ble args.length m=true) (hcb:V_ P f) (hno:res.noOsl=true) (hna:Am_ args=true)
   (h:PV.wfs args->∀ N H,G.p H->Hd P m N ⟨H,G⟩ (rtK tb fn.results.toList res) (.code c) [] ⟨Kv_ args,λ_=> .no⟩):Fn P G f args res:=by
 refine⟨hcb,hno,λN H L w vs hg hsim hm=>?_⟩;subst hn;have key:Ph P f vs.toArray H (λv H'=>Sim H' res v):=by
   refine Nz_ hf hb (by have :=Nat.le_of_ble_eq_true hs;simp[hsim.1];exact this) λN=>?_
   have h1:=h hsim.wf N H hg (Dk_ vs.toArray) H l0 ⟨.refl H,hg,λt=>Ne_ hsim hna t,λi=>trivial⟩
   refine C2_ (λe F' H' L' hq=>?_) h1
   obtain⟨s',ha',hq'⟩:=hq
   obtain⟨he,v,hr,hv⟩:=rtK_res (N:=N) ht ha' hq'
   rcases he with rfl|rfl
   . exact⟨v,hr,ha'.le,hv⟩
   . exact⟨v,hr,ha'.le,hv⟩
 exact (key N L w hm).mono λ_ _ ⟨v,H',h1,h2,h3,h4⟩=>⟨v,H',h1,h2,h3,h4⟩
theorem Ot_ {F:Fr} {x:Operand} {f:FuncId} {fs cap:List Value} {xs:Array Operand} {ats:Array TypeId} (hx:ev F x = .func (.func f) fs.toArray cap.toArray) (hc:V_ P f):En P (.call ⟨.value x,xs,ats⟩) F f (fs++evs F xs.toList++cap).toArray:=λty d pos af g w=>by
 have :=hc (fs++evs F xs.toList++cap).toArray w
 have e3:xs.map (ev F)=(evs F xs.toList).toArray:=by rw[<- C5_];apply Array.ext';simp
 simp only[List.append_assoc] at this ⊢
 simp[execOp,resolve,Deferred.ofValue,hx,invoke,e3,this]
def argsP (G:Nat->PV) (x:Operand) (xs:List Operand):Option (FuncId×List PV):=
 match evP G x with
 | .fn f fs cap=>some (f,apL fs (apL (evPs G xs) cap))
 |_=>none
where apL:List PV->List PV->List PV
 |[],k=>k
 |p::r,k=>p::apL r k
theorem Jv_:∀ (a b:List PV),argsP.apL a b=a++b
 |[],b=>rfl
 |p::r,b=>by simp[argsP.apL,Jv_ r b]
theorem args_ok {sL:Nat->Blk} {H:Hp} {F:Fr} {G:Nat->PV} {x:Operand} {xs:Array Operand} {ats:Array TypeId} {f:FuncId} {args:List PV} (hG:∀ t,SimT sL H (G t) (F t)) (h:argsP G x xs.toList=some (f,args)) (hc:V_ P f):∃ vs,Sims H args vs/\En P (.call ⟨.value x,xs,ats⟩) F f vs.toArray:=by
 unfold argsP at h
 split at h
 . rename_i f' fs cap he
   simp only[Option.some.injEq,Prod.mk.injEq] at h
   obtain⟨rfl,rfl⟩:=h
   have h1:=(A6_ hG x).sim
   rw[he] at h1
   obtain⟨vs,us,e,h2,h3⟩:=h1.inv_fn
   refine⟨vs++evs F xs.toList++us,?_,Ot_ e hc⟩
   rw[Jv_,Jv_,<- List.append_assoc]
   exact (h2.append (D0_ λy _=>A6_ hG y)).append h3
 . cases h
theorem call {all rest:List Oper} {Q:Qs} {ks:List Kt} {s:St} {f:FuncId} {args:List PV} {res:PV} {x:Operand} {xs:Array Operand} {ats:Array TypeId} {ty d:Nat} {pos:String} {af:Array Edge} (h:Fn P H0.g f args res) (ha:argsP s.F x xs.toList=some (f,args)) (hd:Nat.blt d n=true)
   (k:res.wf->Hd P n N H0 Q (.ops all rest) ks ⟨updp s.F d res,s.L⟩):Hd P n N H0 Q (.ops all (⟨some d, .call ⟨.value x,xs,ats⟩,ty,pos,af,none⟩::rest)) ks s:=by
 intro F H L hab;obtain⟨vs,h1,h2⟩:=args_ok (ats:=ats) hab.f ha h.cb;refine ow1 (op1_ph (h.ph hab.g h1) h2 hd λv H' hv hl=>?_);exact k hv.wf _ _ _ ((hab.mono hl).put d (hv.simT h.no))
def gOp (s:St) (all:List Oper) (j:Nat) (want:Bool):Option Bool:=
 match nth all j with
 |some oj=>match oj.dst with
   |some dj=>gC (s.F dj) want
   |none=>none
 |none=>none
theorem gOp_ok {s:St} {all:List Oper} {j:Nat} {want g:Bool} {F:Fr} {H:Hp} {L:Ls} (ha:Abs H0 s F H L) (h:gOp s all j want=some g):∃ c b,yF all F j=some (gv c (.bool b))/\g=(c&&gOf b want):=by
 unfold gOp at h
 split at h
 . rename_i oj hj
   split at h
   . rename_i dj hdj
     obtain⟨c,b,hv,hge⟩:=gC_ok h (ha.f dj).sim
     exact⟨c,b,by rw[Oj_ hj hdj,hv],hge⟩
   . cases h
 . cases h
end Go.SW
namespace Go.SW
variable {P:Program} {n:Nat} {N:Rest} {H0:Env}
theorem cnd {Q:Qs} {ks:List Kt} {s:St} {c:Operand} {x y:Code} {b:Bool} (hc:evP s.F c = .bool b) (ht:b=true->Hd P n N H0 Q (.code x) ks s) (hf:b=false->Hd P n N H0 Q (.code y) ks s):Hd P n N H0 Q (.code (.cond c x y)) ks s:=Hu_ hc ht hf
def Junk (s s':St):Prop:=(∀ t,s'.F t=s.F t\/s'.F t = .junk)/\∀ i,s'.L i=s.L i\/s'.L i = .no
theorem Junk.le {s s':St} (h:Junk s s'):StLe s s':=λH0 F H L ha=>by
 refine⟨ha.le,ha.g,λt=>?_,λi=>?_⟩
 . rcases h.1 t with e|e
   . rw[e]
     have h1:=ha.f t
     generalize s.F t=p at *
     cases p with
     |osl i=>
       simp only[SimT] at h1 ⊢
       rcases h.2 i with e2|e2
       . rw[e2];exact h1
       . rw[e2];trivial
     |_=>exact h1
   . rw[e];exact Sim.junk
 . rcases h.2 i with e|e
   . rw[e]
     have h1:=ha.l i
     generalize s.L i=B at *
     cases B with
     |box b T cs=>
       obtain⟨vs,h2,h3,h4⟩:=h1
       refine⟨vs,h2,h3,λj p v hp hv=>?_⟩
       have h5:=h4 j p v hp hv
       cases p with
       |osl q=>
         simp only[SimT] at h5 ⊢
         rcases h.2 q with e2|e2
         . rw[e2];exact h5
         . rw[e2];trivial
       |_=>exact h5
     |no=>trivial
     |arr u k e enc xs=>exact h1
     |itr b s p=>exact h1
     |ob b o=>exact h1
   . rw[e];trivial
def lkF:List (Nat×PV)->Nat->Option PV
 |[],_=>none
 |(a,x)::r,t=>bif Nat.beq t a then some x else lkF r t
def mkF (lv:List (Nat×PV)) (keep:List Nat) (G:Nat->PV):Nat->PV:=λt=>match lkF lv t with
 |some p=>p
 |none=>bif memB keep t then G t else .junk
def lkL:List (Nat×Blk)->Nat->Option Blk
 |[],_=>none
 |(a,x)::r,t=>bif Nat.beq t a then some x else lkL r t
def mkL (lv:List (Nat×Blk)) (keep:List Nat) (G:Nat->Blk):Nat->Blk:=λt=>match lkL lv t with
 |some p=>p
 |none=>bif memB keep t then G t else .no
def AllF (F:Nat->PV):List (Nat×PV)->Prop
 |[]=>True
 |(t,p)::r=>F t=p/\AllF F r
def AllL (F:Nat->Blk):List (Nat×Blk)->Prop
 |[]=>True
 |(t,p)::r=>F t=p/\AllL F r
theorem Jq_ {F:Nat->PV}:∀ {lv:List (Nat×PV)} {t:Nat} {p:PV},AllF F lv->lkF lv t=some p->F t=p
 |[],t,p,_,h=>by cases h
 |(a,x)::r,t,p,h,hl=>by
   simp only[lkF] at hl
   cases e:Nat.beq t a with
   |true=>rw[e] at hl;simp at hl;rw[Nat.eq_of_beq_eq_true e,<- hl];exact h.1
   |false=>rw[e] at hl;exact Jq_ h.2 xO
theorem Jr_ {F:Nat->Blk}:∀ {lv:List (Nat×Blk)} {t:Nat} {p:Blk},AllL F lv->lkL lv t=some p->F t=p
 |[],t,p,_,h=>by cases h
 |(a,x)::r,t,p,h,hl=>by
   simp only[lkL] at hl
   cases e:Nat.beq t a with
   |true=>rw[e] at hl;simp at hl;rw[Nat.eq_of_beq_eq_true e,<- hl];exact h.1
   |false=>rw[e] at hl;exact Jr_ h.2 xO
theorem Hf_ {α:Type _} {F G:Nat->α}:∀ {l:List Nat},l.map F=l.map G->∀ t∈l,F t=G t
 |[],_,t,h=>by cases h
 |a::r,e,t,h=>by
   simp only[List.map_cons,List.cons.injEq] at e
   rcases List.mem_cons.1 h with rfl|q
   . exact e.1
   . exact Hf_ e.2 t q
theorem mk_le {s:St} {lv:List (Nat×PV)} {keep:List Nat} {G:Nat->PV} {lL:List (Nat×Blk)} {kL:List Nat} {GL:Nat->Blk} (h1:keep.map s.F=keep.map G) (h2:kL.map s.L=kL.map GL) (h3:AllF s.F lv) (h4:AllL s.L lL):StLe s ⟨mkF lv keep G,mkL lL kL GL⟩:=by
 refine Junk.le ⟨λt=>?_,λi=>?_⟩
 . simp only[mkF]
   cases e:lkF lv t with
   |some p=>exact .inl (Jq_ h3 e).symm
   |none=>
     cases e2:memB keep t with
     |true=>exact .inl (Hf_ h1 t (Ct_ e2)).symm
     |false=>exact .inr Y
 . simp only[mkL]
   cases e:lkL lL i with
   |some p=>exact .inl (Jr_ h4 e).symm
   |none=>
     cases e2:memB kL i with
     |true=>exact .inl (Hf_ h2 i (Ct_ e2)).symm
     |false=>exact .inr Y
def LJ {ι:Type _} (S:ι->St) (Φ:ι->Prop) (μ:ι->Nat) (m:Nat):St->Prop:=λs=>∃ x,Φ x/\μ x<m/\StLe s (S x)
theorem sw_loop {ι:Type _} {c:Code} {ks:List Kt} {Q:Qs} {s:St} (S:ι->St) (Φ:ι->Prop) (μ:ι->Nat) (x0:ι) (h0:StLe s (S x0)) (hΦ:Φ x0) (body:∀ x,Φ x->Hd P n N H0 Q (.code c) (.lp (LJ S Φ μ (μ x))::ks) (S x)):Hd P n N H0 Q (.code (.loop c)) ks s:=by
 intro F H L ha;refine G3_ (λk F H L=>∃ x,Φ x/\μ x=k/\Abs H0 (S x) F H L) (μ x0) ⟨x0,hΦ,rfl,h0 _ _ _ _ ha⟩ λk F H L hI=>?_;obtain⟨x,hx,rfl,hax⟩:=hI;refine C2_ (λe F' H' L' hq=>?_) (body x hx F H L hax);obtain⟨s',ha',hq'⟩:=hq
 cases e with
 |normal=>
   obtain⟨x',h1,h2,h3⟩:=hq'
   exact⟨μ x',h2,x',h1,rfl,h3 _ _ _ _ ha'⟩
 |_=>exact⟨s',ha',hq'⟩
theorem loop {ι:Type _} {c:Code} {ks:List Kt} {Q:Qs} {s:St} (keep kL:List Nat) (lv:ι->List (Nat×PV)) (lL:ι->List (Nat×Blk)) (Φ:ι->Prop) (μ:ι->Nat) (x0:ι) (h1:AllF s.F (lv x0)) (h2:AllL s.L (lL x0)) (hΦ:Φ x0) (body:∀ x,Φ x->Hd P n N H0 Q (.code c) (.lp (LJ (λx=>⟨mkF (lv x) keep s.F,mkL (lL x) kL s.L⟩) Φ μ (μ x))::ks) ⟨mkF (lv x) keep s.F,mkL (lL x) kL s.L⟩):Hd P n N H0 Q (.code (.loop c)) ks s:=
 sw_loop (λx=>⟨mkF (lv x) keep s.F,mkL (lL x) kL s.L⟩) Φ μ x0 (mk_le Y Y h1 h2) hΦ body
theorem next {ι:Type _} {keep kL:List Nat} {G:Nat->PV} {GL:Nat->Blk} {lv:ι->List (Nat×PV)} {lL:ι->List (Nat×Blk)} {Φ:ι->Prop} {μ:ι->Nat} {m:Nat} {s:St} {ks:List Kt} {Q:Qs} (x':ι) (h1:keep.map s.F=keep.map G) (h2:kL.map s.L=kL.map GL) (h3:AllF s.F (lv x')) (h4:AllL s.L (lL x')) (hm:μ x'<m) (hΦ:Φ x'):Hd P n N H0 Q (.ex .normal) (.lp (LJ (λx=>⟨mkF (lv x) keep G,mkL (lL x) kL GL⟩) Φ μ m)::ks) s:=
 ⟨x',hΦ,hm,mk_le h1 h2 h3 h4⟩
theorem Mh_ {L:Nat->Blk} {H:Hp} {i:Nat} {B:Blk} {p:PV} {v:Value} (h:SimT L H p v) (hi:p ≠ .osl i):SimT (lups L i B) H p v:=by
 cases p with
 |osl j=>
   have :j≠i:=λe=>hi (by rw[e])
   simp only[SimT,C9_ _ _ _ _ this] at h ⊢
   exact h
 |_=>exact h
def L7_ (i:Nat):PV->PV
 | .osl j=>bif Nat.beq j i then .junk else .osl j
 |p=>p
theorem Iw_ {L:Nat->Blk} {H:Hp} {i:Nat} {B:Blk} {p:PV} {v:Value} (h:SimT L H p v):SimT (lups L i B) H (L7_ i p) v:=by
 cases p with
 |osl j=>
   simp only[L7_]
   cases e:Nat.beq j i with
   |true=>exact Sim.junk
   |false=>exact Mh_ h (λq=>by cases q;simp at e)
 |_=>exact h
def purgeB (i:Nat):Blk->Blk
 | .box b T cs=> .box b T (cs.map (L7_ i))
 |B=>B
theorem Gp_ {L:Nat->Blk} {H:Hp} {i:Nat} {B:Blk} {ps:List PV} {vs:List Value} (h:SimTs L H ps vs):SimTs (lups L i B) H (ps.map (L7_ i)) vs:=by
 refine⟨by simp[h.1],λj p v hp hv=>?_⟩;rw[List.getElem?_map] at hp
 cases e:ps[j]? with
 |none=>rw[e] at hp;cases hp
 |some q=>rw[e] at hp;cases hp;exact Iw_ (h.2 j q v e hv)
def Ec_ (i:Nat) (F:Nat->PV):Nat->PV:=λt=>L7_ i (F t)
def B0_ (i:Nat) (L:Nat->Blk):Nat->Blk:=λt=>purgeB i (L t)
theorem Abs.turn {s:St} {F:Fr} {H:Hp} {L:Ls} (ha:Abs H0 s F H L) (i:Nat) {B:Blk} {x:Option (Nat×Obj)} (hx:SimB (lups (B0_ i s.L) i B) H B x):Abs H0 ⟨Ec_ i s.F,lups (B0_ i s.L) i B⟩ F H (lupd L i x):=by
 have hshape:∀ {q p v},SimT (lups s.L i q) H p v->SimT (lups (B0_ i s.L) i q) H p v:=λ{q p v} h=>by
   cases p with
   |osl j=>
     by_cases e:j=i
     . subst e;simp only[SimT,Av_] at h ⊢;exact h
     . simp only[SimT,C9_ _ _ _ _ e,B0_] at h ⊢
       generalize s.L j=C at *
       cases C<;>exact h
   |_=>exact h
 refine⟨ha.le,ha.g,λt=>hshape (Iw_ (ha.f t)),λj=>?_⟩;by_cases e:j=i;subst e;simp only[Av_,D_];exact hx
 . simp only[C9_ _ _ _ _ e,C_ _ _ _ _ e,B0_]
   have h1:=ha.l j
   generalize s.L j=C at *
   cases C with
   |box b T cs=>
     obtain⟨vs,h2,h3⟩:=h1
     exact⟨vs,h2,(Gp_ (B:=B) h3).1,λa p v hp hv=>hshape ((Gp_ (B:=B) h3).2 a p v hp hv)⟩
   |no=>trivial
   |arr u k e enc xs=>exact h1
   |itr b s p=>exact h1
   |ob b o=>exact h1
theorem Abs.turnB {s:St} {F:Fr} {H:Hp} {L:Ls} (ha:Abs H0 s F H L) (i:Nat) {B:Blk} {x:Option (Nat×Obj)} (hB:match B with| .arr _ _ _ _ _=>False|_=>True) (hx:SimB (lups s.L i B) H B x):Abs H0 ⟨s.F,lups s.L i B⟩ F H (lupd L i x):=by
 have hshape:∀ {p v},SimT s.L H p v->SimT (lups s.L i B) H p v:=λ{p v} h=>by
   cases p with
   |osl j=>
     by_cases e:j=i
     . subst e;simp only[SimT,Av_];cases B<;>first|trivial|exact hB.elim
     . simp only[SimT,C9_ _ _ _ _ e] at h ⊢;exact h
   |_=>exact h
 refine⟨ha.le,ha.g,λt=>hshape (ha.f t),λj=>?_⟩;by_cases e:j=i;subst e;simp only[Av_,D_];exact hx
 . simp only[C9_ _ _ _ _ e,C_ _ _ _ _ e]
   have h1:=ha.l j
   generalize s.L j=C at *
   cases C with
   |box b T cs=>obtain⟨vs,h2,h3,h4⟩:=h1;exact⟨vs,h2,h3,λa p v hp hv=>hshape (h4 a p v hp hv)⟩
   |no=>trivial
   |arr u k e enc xs=>exact h1
   |itr b s p=>exact h1
   |ob b o=>exact h1
variable {all rest:List Oper} {Q:Qs} {ks:List Kt} {s:St} {T ty d:Nat} {pos:String} {af:Array Edge} {x y z:Operand} {K:St->Prop}
def E1 (P:Program) (n:Nat) (N:Rest) (H0:Env) (all:List Oper) (o:Oper) (j:Option Nat) (s:St) (K:St->Prop):Prop:=
 ∀ F H L,Abs H0 s F H L->Op1 P n N all o (λF' H' L'=>HLe H H'/\(∀ i,j≠some i->L' i=L i)/\∃ s',Abs H0 s' F' H' L'/\K s') F H L
theorem Op1.imp {o:Oper} {K K':Fr->Hp->Ls->Prop} {F:Fr} {H:Hp} {L:Ls} (h:Op1 P n N all o K F H L) (hk:∀ F H L,K F H L->K' F H L):Op1 P n N all o K' F H L:=λa w ha hm=>by
 have :=h a w ha hm
 split
 . rename_i hw
   rw[if_pos hw] at this
   exact Ce_ (λa' w' ⟨F',H',L',x,y,z⟩=>⟨F',H',L',x,y,hk _ _ _ z⟩) (λ_ _ _ x=>x) this
 . rename_i hw
   rw[if_neg hw] at this
   obtain⟨F',H',L',x,y,z⟩:=this
   exact⟨F',H',L',x,y,hk _ _ _ z⟩
theorem ef {o:Oper} {j:Option Nat} (h:E1 P n N H0 all o j s (λs'=>Hd P n N H0 Q (.ops all rest) ks s')):Hd P n N H0 Q (.ops all (o::rest)) ks s:=λF H L ha=>
 ow1 ((h F H L ha).imp λF' H' L' ⟨_,_,s',h1,h2⟩=>h2 F' H' L' h1)
theorem only {L:Ls} {j:Nat} {x:Option (Nat×Obj)}:∀ i,some j≠some i->lupd L j x i=L i:=λi h=>C_ _ _ _ _ λe=>h (by rw[e])
theorem Cc_ {L:Nat->Blk} {H:Hp} {ps:List PV} {vs:List Value} (h:Sims H ps vs) (hn:Am_ ps=true):SimTs L H ps vs:=⟨h.1,λi p v hp hv=>(h.2 i p v hp hv).simT (Da_ hn hp)⟩
theorem boxA (i:Nat) {cs:List PV} (hx:evP s.F x = .agg cs) (hn:Am_ cs=true) (hd:Nat.blt d n=true) (k:∀ b,K ⟨updp s.F d (.own i b 0),lups s.L i (.box b T cs)⟩):E1 P n N H0 all ⟨some d, .box T x,ty,pos,af,none⟩ (some i) s K:=by
 intro F H L ha;have h1:=(A6_ ha.f x).sim;rw[hx] at h1;obtain⟨vs,e,h2⟩:=h1.inv_agg;exact Lq_ i hd e λb=>⟨.refl H,only,_,(ha.turnB (B:= .box b T cs) i Z ⟨vs,rfl,Cc_ h2 hn⟩).put (p:= .own i b 0) d Sim.own,k b⟩
theorem Ln_ {v:Value} (h:v.oneCell'=true):v.cells = #[v]:=by cases v<;>first|rfl|(simp[Value.oneCell'] at h)
def evS (p:PV):Option PV:=frc p some
theorem Ou_ {p q:PV} (h:evS p=some q):p=q:=by simp only[evS,Ew_,Option.some.injEq] at h;exact h
def evL (l:List PV):Option (List PV):=frcL l some
theorem Kh_ {l m:List PV} (h:evL l=some m):l=m:=by simp only[evL,Fj_,Option.some.injEq] at h;exact h
theorem box1 (i:Nat) {p:PV} (hx:evS (evP s.F x)=some p) (ho:p.one=true) (hd:Nat.blt d n=true) (k:∀ b,K ⟨updp s.F d (.own i b 0),lups s.L i (.box b T [p])⟩):E1 P n N H0 all ⟨some d, .box T x,ty,pos,af,none⟩ (some i) s K:=by
 intro F H L ha;have hx:=Ou_ hx;have h1:=(A6_ ha.f x).sim;rw[hx] at h1;have hno:p.noOsl=true:=by cases p<;>first|rfl|(simp[PV.one] at ho)
 exact Nr_ i hd Y (Ln_ (h1.one ho)) λb=>⟨.refl H,only,_,(ha.turnB (B:= .box b T [p]) i Z ⟨[ev F x],rfl,Cc_ (Sims.nil.cons h1) (by simp[Am_,hno])⟩).put (p:= .own i b 0) d Sim.own,k b⟩
theorem alloc {tb:Tb} {ti:TI} {zs:List PV} (ht:tbB P tb=true) (i:Nat) (hti:lkT tb T=some ti) (hz:evL ti.zero=some zs) (hn:Am_ zs=true) (hd:Nat.blt d n=true) (k:∀ b,K ⟨updp s.F d (.own i b 0),lups s.L i (.box b T zs)⟩):E1 P n N H0 all ⟨some d, .alloc T,ty,pos,af,none⟩ (some i) s K:=by
 intro F H L ha;have hz:=Kh_ hz;subst hz;obtain⟨zv,hz,hs⟩:=(Ba_ ht hti).zero;exact By_ i hd (cs:=zv.cells.toList) (λw=>⟨zv,hz w,by simp⟩) λb=>⟨.refl H,only,_,(ha.turnB (B:= .box b T ti.zero) i trivial ⟨_,rfl,Cc_ (hs H) hn⟩).put (p:= .own i b 0) d Sim.own,k b⟩
theorem SimTs.set {L:Nat->Blk} {H:Hp} {ps:List PV} {vs:List Value} (h:SimTs L H ps vs) {p:PV} {v:Value} (m:Nat) (hp:SimT L H p v):SimTs L H (ps.set m p) (vs.set m v):=by
 refine⟨by simp[h.1],λi q u hq hu=>?_⟩;rw[List.getElem?_set] at hq hu
 split at hq
 . rename_i e
   rw[if_pos e] at hu
   split at hq
   . split at hu
     . cases hq;cases hu;exact hp
     . cases hu
   . cases hq
 . rename_i e;rw[if_neg e] at hu;exact h.2 i q u hq hu
theorem SimTs.append {L:Nat->Blk} {H:Hp} {ps qs:List PV} {vs us:List Value} (h:SimTs L H ps vs) (k:SimTs L H qs us):SimTs L H (ps++qs) (vs++us):=by
 refine⟨by simp[h.1,k.1],λi p v hp hv=>?_⟩
 rcases Nat.lt_or_ge i ps.length with q|q
 rw[List.getElem?_append_left q] at hp;rw[List.getElem?_append_left (by rw[h.1];exact q)] at hv;exact h.2 i p v hp hv;rw[List.getElem?_append_right q] at hp;rw[List.getElem?_append_right (by rw[h.1];exact q),h.1] at hv;exact k.2 _ p v hp hv
theorem SimTs.take {L:Nat->Blk} {H:Hp} {ps:List PV} {vs:List Value} (h:SimTs L H ps vs) (m:Nat):SimTs L H (ps.take m) (vs.take m):=by
 refine⟨by simp[h.1],λi p v hp hv=>?_⟩;rw[List.getElem?_take] at hp hv
 split at hp
 . rename_i q;rw[if_pos q] at hv;exact h.2 i p v hp hv
 . cases hp
theorem SimTs.drop {L:Nat->Blk} {H:Hp} {ps:List PV} {vs:List Value} (h:SimTs L H ps vs) (m:Nat):SimTs L H (ps.drop m) (vs.drop m):=by
 exact zQ
theorem I1_ {L:Nat->Blk} {H:Hp} {i b b':Nat} {T T':TypeId} {cs cs':List PV} (hb:L i = .box b T cs) {p:PV} {v:Value} (h:SimT L H p v):SimT (lups L i (.box b' T' cs')) H p v:=by
 cases p with
 |osl j=>
   by_cases e:j=i
   . subst e;simp only[SimT,Av_]
   . simp only[SimT,C9_ _ _ _ _ e] at h ⊢;exact h
 |_=>exact h
theorem store1 {tb:Tb} {ti:TI} {i b b' off T0:Nat} {cs cs':List PV} {p:PV} (ht:tbB P tb=true) (hx:evP s.F x = .own i b off) (hb:s.L i = .box b' T0 cs) (hti:lkT tb T=some ti) (hsz:ti.size=1) (hy:evS (evP s.F y)=some p) (ho:p.one=true) (hl:Nat.blt off cs.length=true) (hbb:b'=b) (hc:evL (cs.set off p)=some cs')
   (k:K ⟨s.F,lups s.L i (.box b T0 cs')⟩):E1 P n N H0 all ⟨none, .store T x y,ty,pos,af,none⟩ (some i) s K:=by
 intro F H L ha;subst hbb;have hc:=Kh_ hc;subst hc;have hy:=Ou_ hy;have h1:=(A6_ ha.f x).sim;rw[hx] at h1;have h2:=A6_ ha.f y;unfold Ok1 at h2;rw[hy] at h2;have h3:=ha.l i;rw[hb] at h3;obtain⟨vs,hL,hs⟩:=h3;have hsz':=(Ba_ ht hti).sz;rw[hsz] at hsz';refine Cb_ h1.inv_own Y (h2.sim.one ho) hsz' hL (by rw[hs.1];exact hl) ?_;refine⟨.refl H,only,_,ha.turnB (B:= .box _ T0 (cs.set off p)) i Z ⟨_,rfl,?_⟩,k⟩;have h4:=hs.set off h2;exact zG
def all1:List PV->Bool
 |[]=>true
 |p::r=>p.one&&all1 r
theorem A3_ {H:Hp}:∀ {ps:List PV} {vs:List Value},Sims H ps vs->all1 ps=true->vs.all Value.oneCell'=true
 |[],vs,h,_=>by cases h.inv_nil;rfl
 |p::r,vs,h,ho=>by
   obtain⟨v,us,rfl,h1,h2⟩:=h.inv_cons
   simp only[all1,Bool.and_eq_true] at ho
   simp only[List.all_cons,Bool.and_eq_true]
   exact⟨h1.one ho.1,A3_ h2 ho.2⟩
theorem storeA {tb:Tb} {ti:TI} {i b b' off T0:Nat} {cs ps cs':List PV} (ht:tbB P tb=true) (hx:evP s.F x = .own i b off) (hb:s.L i = .box b' T0 cs) (hti:lkT tb T=some ti) (hy:evP s.F y = .agg ps) (hn:Am_ ps=true) (ho:all1 ps=true) (hsz:ps.length=ti.size) (hl:Nat.ble (off+ti.size) cs.length=true) (hbb:b'=b) (hc:evL (cs.take off++(ps++cs.drop (off+ti.size)))=some cs')
   (k:K ⟨s.F,lups s.L i (.box b T0 cs')⟩):E1 P n N H0 all ⟨none, .store T x y,ty,pos,af,none⟩ (some i) s K:=by
 intro F H L ha;subst hbb;have hc:=Kh_ hc;subst hc;have h1:=(A6_ ha.f x).sim;rw[hx] at h1;have h2:=(A6_ ha.f y).sim;rw[hy] at h2;obtain⟨us,e,h2⟩:=h2.inv_agg;have h3:=ha.l i;rw[hb] at h3;obtain⟨vs,hL,hs⟩:=h3;have hl':=Nat.le_of_ble_eq_true hl;refine Hj_ (m:=ti.size) (vs.take off++(us++vs.drop (off+ti.size))) h1.inv_own e (A3_ h2 ho) (Ba_ ht hti).sz (by rw[h2.1,hsz]) hL (by rw[hs.1];exact hl) Y ?_;refine⟨.refl H,only,_,ha.turnB (B:= .box _ T0 _) i Z ⟨_,rfl,?_⟩,k⟩;have h4:=(hs.take off).append ((Cc_ (L:=s.L) h2 hn).append (hs.drop (off+ti.size)));exact zG
end Go.SW
namespace Go.SW
variable {P:Program} {n:Nat} {N:Rest} {H0:Env} {all rest:List Oper} {Q:Qs} {ks:List Kt} {s:St} {T T2 ty d:Nat} {pos:String} {af:Array Edge} {x y z:Operand} {K:St->Prop}
def SrcP (P:Program) (N:Rest) (H0:Env) (s:St) {α:Type} (enc:α->List PV) (k:Nat) (y:Operand) (ys:List α):Prop:=
 ∀ F H L,Abs H0 s F H L->∃ news,Src P N H L k (ev F y) ys.length news/\Rl (RowE enc k) H ys news/\∀ u∈news,u.oneCell'=true
theorem src_own {F:Fr} {H:Hp} {L:Ls} {k e i:Nat} {v:Value} {len:Nat} {cs:List Value} (h:OwnV k e v (L i) len cs):Src P N H L k v len cs:=by
 obtain⟨hl,h⟩:=h;refine⟨hl,λw hm=>?_⟩
 rcases h with ⟨rfl,rfl,_⟩|⟨b,cap,c,f,rfl,hL,hc,hle,ht,hff⟩
 have :cs=[]:=List.length_eq_zero_iff.1 xO;subst this;exact⟨by simp[Builtin.lenOf],by simp[Builtin.firstCells]⟩;refine⟨by simp[Builtin.lenOf],?_⟩
 have :=run_loadCells_list (P:=P) w ⟨b,f.length,none⟩ cs (λj v hj=>by
   rw[M_]
   refine hm.cellL hL ?_
   rw[List.getElem?_append_right yY,Nat.add_sub_cancel_left]
   subst ht
   rw[List.getElem?_take] at hj
   split at hj
   . exact hj
   . cases hj)
 rw[hl] at this;exact yQ
theorem src_o {α:Type} {enc:α->List PV} {i e k:Nat} {u:Value} {ys:List α} (hy:evP s.F y = .osl i) (hb:s.L i = .arr u k e enc ys):SrcP P N H0 s enc k y ys:=λF H L ha=>by
 have h1:=A6_ ha.f y
 unfold Ok1 at h1
 rw[hy] at h1
 simp only[SimT,hb] at h1
 have h2:=ha.l i
 rw[hb] at h2
 obtain⟨cs,ho,hr,hm⟩:=h2
 rw[h1]
 exact⟨cs,src_own (F:=F) ho,hr,Ma_ Ee_ hr⟩
def Iq_ (tb:Tb) (T:TypeId):Bool:=
 match lkT tb T with
 |some ti=>match ti.k with
   | .slc _=>true
   | .str=>true
   |_=>false
 |none=>false
theorem Lh_ {tb:Tb} (ht:tbB P tb=true) {T:TypeId} (h:Iq_ tb T=true):∃ d2,P.underlying T=some d2/\D7_ d2=true:=by
 unfold Iq_ at h
 split at h
 . rename_i ti hti
   split at h
   . rename_i e hk;exact⟨_,(Ba_ ht hti).slc hk,rfl⟩
   . rename_i hk;exact⟨_,(Ba_ ht hti).str hk,rfl⟩
   . cases h
 . cases h
theorem On_ {tb:Tb} {t:Nat} {ti:TI} (ht:tbB P tb=true) (hti:lkT tb t=some ti) (h1:ti.zero.length=ti.size):∃ zs:List Value,Zr P t zs/\zs.length=ti.size:=by
 obtain⟨zv,hz,hs⟩:=(Ba_ ht hti).zero;exact⟨zv.cells.toList,λw=>⟨zv,hz w,by simp⟩,by rw[(hs (λ_=>none)).1,h1]⟩
theorem app {α:Type} {tb:Tb} {i e k:Nat} {u:Value} {enc:α->List PV} {xs:List α} {te:TI} (ht:tbB P tb=true) (ys:List α) (hx:evP s.F x = .osl i) (hb:s.L i = .arr u k e enc xs) {ti:TI} (hti:lkT tb T=some ti) (htk:ti.k = .slc e) (hT2:Iq_ tb T2=true) (hte:lkT tb e=some te) (hz:te.zero.length=te.size) (hby:Nat.blt 0 te.bytes=true) (hk:te.size=k) (hy:SrcP P N H0 s enc k y ys) (hs:(xs.length+ys.length)*te.bytes<=140737488355328) (hd:Nat.blt d n=true)
   (kk:∀ u',K ⟨updp (Ec_ i s.F) d (.osl i),lups (B0_ i s.L) i (.arr u' k e enc (xs++ys))⟩):E1 P n N H0 all ⟨some d, .call ⟨.builtin .append,#[x,y],#[T,T2]⟩,ty,pos,af,none⟩ (some i) s K:=by
 intro F H L ha;have h1:=A6_ ha.f x;unfold Ok1 at h1;rw[hx] at h1;simp only[SimT,hb] at h1;have h2:=ha.l i;rw[hb] at h2;obtain⟨cs,ho,hr,hm⟩:=h2;obtain⟨news,h3,h4,h5⟩:=hy F H L ha;obtain⟨d2,hd2,hn2⟩:=Lh_ ht hT2;obtain⟨zs,hzr,hzl⟩:=On_ ht hte hz;have hok:=Ba_ ht hte;subst hk;have hby':0<te.bytes:=by simpa using hby
 have hlen:xs.length+ys.length<=140737488355328:=Nat.le_trans (Nat.le_mul_of_pos_right _ hby') hs;refine Lp_ i h1 Y ((Ba_ ht hti).slc htk) hd2 hn2 hok.sz hok.by_ hby' hzr ho h3 h5 hzl hs hd λv' en' hv'=>?_;exact⟨.refl H,only,_,(ha.turn i (B:= .arr v' te.size e enc (xs++ys)) ⟨_,by simpa using hv',Pl_ hr h4,by simpa using hlen⟩).put d (by simp[SimT,Av_]),kk v'⟩
def bslP (G:Nat->PV):List (Nat×Operand)->Nat->Option (List (List PV))
 |[],_=>some []
 |(j,x)::r,i=>match Nat.beq j i with
   |true=>match (evP G x).cellsOf with
     |some c=>match all1 c with
       |true=>match bslP G r (i+1) with
         |some rows=>some (c::rows)
         |none=>none
       |false=>none
     |none=>none
   |false=>none
theorem Jz_ {sL:Nat->Blk} {H:Hp} {F:Fr} {G:Nat->PV} (hG:∀ t,SimT sL H (G t) (F t)) {k:Nat}:∀ (ps:List (Nat×Operand)) (i:Nat) (rows:List (List PV)),bslP G ps i=some rows->(∀ r∈rows,r.length=k) ->
   D4_ k i (evp F ps)/\(evp F ps).length=rows.length/\∀ {α:Type} (enc:α->List PV) (xs:List α),rows=xs.map enc->Rl (RowE enc k) H xs (Bp_ (evp F ps))
 |[],i,rows,h,_=>by
   simp only[bslP,Option.some.injEq] at h
   subst h
   exact ⟨trivial,rfl,λenc xs e=>by
     have :xs=[]:=by simpa using e.symm
     subst this;exact Pn_⟩
 |(j,x)::r,i,rows,h,hk=>by
   simp only[bslP] at h
   split at h
   . rename_i hj
     split at h
     . rename_i c hc
       split at h
       . rename_i h1
         split at h
         . rename_i rows' hr
           cases h
           obtain⟨a1,a2,a3⟩:=Jz_ hG r (i+1) rows' hr λq hq=>hk q (List.mem_cons_of_mem _ hq)
           have hv:=Es_ (A6_ hG x).sim hc
           have hck:=hk c List.mem_cons_self
           refine⟨⟨Nat.eq_of_beq_eq_true hj,by rw[<- hck,<- hv.1];simp,a1⟩,by simp[evp,a2],λenc xs e=>?_⟩
           cases xs with
           |nil=>cases e
           |cons a xs=>
             simp only[List.map_cons,List.cons.injEq] at e
             obtain⟨rfl,e2⟩:=e
             refine⟨_,_,rfl,⟨hck,hv,λu hu=>?_⟩,a3 enc xs e2⟩
             have :=A3_ hv h1
             rw[List.all_eq_true] at this
             exact this u hu
         . cases h
       . cases h
     . cases h
   . cases h
theorem bsl {α:Type} {tb:Tb} (i:Nat) {e len:Nat} {ps:Array (Nat×Operand)} (enc:α->List PV) (xs:List α) {rows:List (List PV)} {ti te:TI} (ht:tbB P tb=true) (hti:lkT tb T=some ti) (htk:ti.k = .slc e) (hte:lkT tb e=some te) (hr:bslP s.F ps.toList 0=some rows) (hx:rows=xs.map enc) (hk:∀ a,(enc a).length=te.size) (hl:xs.length=len) (hs:len*te.size<=16777216) (hs2:len<=140737488355328) (hd:Nat.blt d n=true)
   (kk:∀ u',K ⟨updp (Ec_ i s.F) d (.osl i),lups (B0_ i s.L) i (.arr u' te.size e enc xs)⟩):E1 P n N H0 all ⟨some d, .buildSlice T len ps,ty,pos,af,none⟩ (some i) s K:=by
 obtain⟨pl,rfl⟩:∃ pl:List (Nat×Operand),ps=pl.toArray:=⟨ps.toList,by simp⟩;simp only[List.toList_toArray] at hr;intro F H L ha;have hrow:∀ r∈rows,r.length=te.size:=λr hr=>by
   rw[hx] at hr
   obtain⟨a,_,rfl⟩:=List.mem_map.1 hr
   exact hk a
 obtain⟨a1,a2,a3⟩:=Jz_ ha.f pl 0 rows hr hrow;have hrl:=a3 enc xs hx;obtain⟨zv,hz,_⟩:=(Ba_ ht hte).zero;have hlen:(evp F pl).length=len:=by rw[a2,hx];simpa using hl
 refine Ca_ i hd ((Ba_ ht hti).slc htk) (Ba_ ht hte).sz ⟨zv,hz⟩ Y a1 hlen Y hs λb=>?_;refine⟨.refl H,only,_,(ha.turn i (B:= .arr (.slice (some ⟨b,0,none⟩) len len) te.size e enc xs) ⟨_,?_,hrl,by omega⟩).put d (by simp[SimT,Av_]),kk _⟩;rw[<- hl];exact ownV_bx (Pm_ Ee_ hrl)
def Nc_ {α:Type} (i:Nat) (enc:α->List PV) (xs:List α):PV->PV
 | .osl j=>bif Nat.beq j i then .sl enc xs else .osl j
 |p=>p
def Kq_ {α:Type} (i:Nat) (enc:α->List PV) (xs:List α) (F:Nat->PV):Nat->PV:=λt=>Nc_ i enc xs (F t)
def giveB {α:Type} (i:Nat) (enc:α->List PV) (xs:List α):Blk->Blk
 | .box b T cs=> .box b T (cs.map (Nc_ i enc xs))
 |B=>B
def Gd_ {α:Type} (i:Nat) (enc:α->List PV) (xs:List α) (L:Nat->Blk):Nat->Blk:=λt=>bif Nat.beq t i then .no else giveB i enc xs (L t)
theorem Abs.give {α:Type} {i e k:Nat} {u:Value} {enc:α->List PV} {xs:List α} {F:Fr} {H H':Hp} {L:Ls} (ha:Abs H0 s F H L) (hb:s.L i = .arr u k e enc xs) (hl:HLe H H') (hH:∀ b o,L i=some (b,o)->H' b=some o):Abs H0 ⟨Kq_ i enc xs s.F,Gd_ i enc xs s.L⟩ F H' (lupd L i none):=by
 have hi:=ha.l i;rw[hb] at hi;obtain⟨cs,ho,hr,hm⟩:=hi;have hsl:Sim H' (.sl enc xs) u:=Sim.of_slh (Oa_ Ee_ ho (hr.mono Cy_ hl) hH) hm;have hp:∀ {p v},SimT s.L H p v->SimT (Gd_ i enc xs s.L) H' (Nc_ i enc xs p) v:=λ{p v} h=>by
   cases p with
   |osl j=>
     simp only[Nc_]
     cases q:Nat.beq j i with
     |true=>
       have :=Nat.eq_of_beq_eq_true q
       subst this
       simp only[SimT,hb] at h
       subst h
       exact hsl
     |false=>
       simp only[SimT] at h
       show SimT _ _ (.osl j) v
       simp only[SimT,Gd_,q,cond_false]
       generalize s.L j=B at *
       cases B<;>first|exact h|trivial
   |_=>exact Sim.mono hl h
 refine⟨ha.le.trans hl,H0.g.mono _ _ hl ha.g,λt=>hp (ha.f t),λj=>?_⟩;simp only[Gd_]
 cases q:Nat.beq j i with
 |true=>trivial
 |false=>
   have hne:j≠i:=λe=>by subst e;simp at q
   rw[C_ _ _ _ _ hne]
   have h1:=ha.l j
   simp only[cond_false]
   generalize s.L j=B at *
   cases B with
   |box b T cs'=>
     obtain⟨vs,h2,h3,h4⟩:=h1
     refine⟨vs,h2,by simp[h3],λa p v hpp hv=>?_⟩
     rw[List.getElem?_map] at hpp
     cases q2:cs'[a]? with
     |none=>rw[q2] at hpp;cases hpp
     |some p0=>rw[q2] at hpp;cases hpp;exact hp (h4 a p0 v q2 hv)
   |no=>trivial
   |arr u2 k2 e2 enc2 xs2=>obtain⟨c2,h2,h3,h4⟩:=h1;exact⟨c2,h2,h3.mono Cy_ hl,h4⟩
   |itr b s2 p=>exact h1
   |ob b o=>exact h1
theorem give {α:Type} {e k:Nat} {u:Value} {enc:α->List PV} {xs:List α} (i:Nat) (hb:s.L i = .arr u k e enc xs) (kk:Hd P n N H0 Q (.ops all rest) ks ⟨Kq_ i enc xs s.F,Gd_ i enc xs s.L⟩):Hd P n N H0 Q (.ops all rest) ks s:=by
 intro F H L ha;exact Nu_ i Y λH' hl hg=>kk _ _ _ (ha.give hb hl hg)
theorem givec {α:Type} {e k:Nat} {u:Value} {enc:α->List PV} {xs:List α} {c:Code} (i:Nat) (hb:s.L i = .arr u k e enc xs) (kk:Hd P n N H0 Q (.code c) ks ⟨Kq_ i enc xs s.F,Gd_ i enc xs s.L⟩):Hd P n N H0 Q (.code c) ks s:=by
 intro F H L ha;exact M4_ i Y λH' hl hg=>kk _ _ _ (ha.give hb hl hg)
end Go.SW
namespace Go.SW
variable {P:Program} {n:Nat} {N:Rest} {H0:Env} {all rest:List Oper} {Q:Qs} {ks:List Kt} {s:St} {T T2 ty d:Nat} {pos:String} {af:Array Edge} {x y z:Operand} {K:St->Prop}
def LkR (xs:Option (List Nat)) (Lk L:Ls):Prop:=match xs with
 |some xs=>∀ i,Lk i = bif memB xs i then none else L i
 |none=>True
def Hv (P:Program) (n:Nat) (N:Rest) (H0:Env) (Q:Qs) (xs:Option (List Nat)) (all:List Oper) (fuel:Nat) (listed:Array Bool) (ks:List Kt) (s:St):Prop:=
 ∀ F H L Lk,Abs H0 s F H L->LkR xs Lk L->Vw P n N all Lk (ql H0 (Kt.den P n N H0 ks Q)) fuel listed F H L
theorem any (xs:List Nat) (m:Nat) {id:Nat} {ops:Array Oper} (hmx:P.follows .mixedOrders=true) (hm:ops.toList.length=m) (h:Hv P n N H0 Q (some xs) ops.toList m (Array.replicate m false) ks s):Hd P n N H0 Q (.code (.region id ops true)) ks s:=by
 intro F H L ha;subst hm;have :=Or_ (id:=id) hmx (λi=>bif memB xs i then none else L i) (h F H L _ ha λ_=>rfl);exact yR
theorem vdone {xs:Option (List Nat)} {fuel:Nat} {listed:Array Bool} (h:Region.ready .any all.toArray listed=[]) (k:Hd P n N H0 Q (.ex .normal) ks s):Hv P n N H0 Q xs all fuel listed ks s:=λF H L Lk ha _=>Hx_ h ⟨s,ha,k⟩
def okX (xs:Option (List Nat)) (i:Nat):Bool:=match xs with
 |some xs=>!memB xs i
 |none=>false
def okLk (xs:Option (List Nat)) (sL:Nat->Blk) (op:Op) (lk:Option (Nat×Nat×Nat)):Bool:=
 match lk with
 |none=>true
 |some (i,_,_)=>match Bk_ op with
   |true=>match okX xs i with
     |true=>match sL i with
       | .box _ _ _=>true
       |_=>false
     |false=>false
   |false=>false
theorem I9_ {xs:Option (List Nat)} {Lk L:Ls} (h:LkR xs Lk L) {op:Op} (ho:Bk_ op=false\/∃ i,okX xs i=true):LLe (lkOf op Lk) L:=by
 rcases B7_ op Lk with ⟨h1,h2⟩|h2
 . rcases ho with q|⟨i,q⟩
   . rw[h1] at q;cases q
   . rw[h2]
     cases xs with
     |none=>cases q
     |some xs=>
       intro j o hj
       rw[h j] at hj
       cases e:memB xs j with
       |true=>rw[e] at hj;cases hj
       |false=>rw[e] at hj;exact hj
 rw[h2];exact λ_ _ q=>by cases q
theorem Ll_ {xs:Option (List Nat)} {F:Fr} {H:Hp} {L Lk:Ls} {op:Op} {lk:Option (Nat×Nat×Nat)} (ha:Abs H0 s F H L) (hL:LkR xs Lk L) (h:okLk xs s.L op lk=true) {L':Ls} (hl:LLe (lkOf op Lk) L'):∀ x,lk=some x->L' x.1=L x.1:=by
 intro x hx;subst hx;obtain⟨i,a,b⟩:=x;simp only[okLk] at h
 split at h
 . rename_i h1
   split at h
   . rename_i h2
     split at h
     . rename_i b' T cs h3
       have h4:=ha.l i
       rw[h3] at h4
       obtain⟨vs,h5,_⟩:=h4
       rcases B7_ op Lk with ⟨_,e⟩|e
       . cases xs with
         |none=>cases h2
         |some xs=>
           have h6:Lk i=L i:=by
             rw[hL i]
             simp only[okX,Bool.not_eq_true'] at h2
             rw[h2];rfl
           exact (hl i _ (by rw[e,h6,h5])).trans h5.symm
       . exfalso
         have e2:lkOf op Lk=Lk\/Bk_ op=false:=by cases op<;>first|exact .inl Y|exact .inr Y
         rcases e2 with q|q
         . rw[q] at e
           cases xs with
           |none=>cases h2
           |some xs=>
             have h6:=hL i
             simp only[okX,Bool.not_eq_true'] at h2
             rw[h2,e] at h6
             simp only[cond_false] at h6
             rw[h5] at h6;cases h6
         . rw[h1] at q;cases q
     . cases h
   . cases h
 . cases h
theorem sv_v {tb:Tb} {xs:Option (List Nat)} {fuel i:Nat} {listed:Array Bool} {o:Oper} {r:PR} (ht:tbB P tb=true) (hi:nth all i=some o) (ho:o.dst=some d) (hck:(rdB all listed i&&apB n all listed i o&&Nat.blt d n&&nosB o.op)=true) (h:vOp tb s all o=some r) (hp:AllP r.ps) (he:∀ x,r.lk=some x->x.2.1=x.2.2) (hlk:okLk xs s.L o.op r.lk=true) (hx:Bk_ o.op=false\/∃ i,okX xs i=true)
   (k:Hv P n N H0 Q xs all fuel (listed.setIfInBounds i true) ks ⟨updp s.F d r.v,s.L⟩):Hv P n N H0 Q xs all (fuel+1) listed ks s:=by
 intro F H L Lk ha hL;rw[Bv_] at hi;obtain⟨d',op,ty,pos,af,g⟩:=o
 cases ho
 unfold vOp at h
 split at h
 . rename_i hg
   cases hg
   obtain⟨val,h1,h2⟩:=Iv_ (N:=N) (ty:=ty) ht ha.f ha.l h hp he
   exact vw_q i hi hck (I9_ hL hx) (λH' L' hh hl=>h2 H' L' hh (Ll_ ha hL hlk hl)) (k _ _ _ _ (ha.put d h1) hL)
 . rename_i j want hg
   cases hg
   split at h
   . rename_i oj hj
     split at h
     . rename_i dj hdj
       split at h
       . rename_i g hgc
         split at h
         . rename_i hno
           unfold pG1 at h
           split at h
           . rename_i v0 ps0 lk0 hr0
             split at h
             . rename_i hnv
               cases h
               obtain⟨c,b,hv,hge⟩:=gC_ok hgc (ha.f dj).sim
               have hy:yF all F j=some (gv c (.bool b)):=by rw[Oj_ hj hdj,hv]
               obtain⟨hp1,hp2⟩:=Co_ hp
               have hge2:g=(c&&(b==want)):=hge.trans If_.symm
               cases hgv:g with
               |false=>
                 refine vgq (c:=c) (b:=b) (v:=undef) i hi hck (I9_ hL hx) (λ_ _ q=>by cases q) hy (λe=>by rw[<- hge2,hgv] at e;cases e) (k _ _ _ _ (ha.put d ?_) hL)
                 rw[<- hge2,hgv]
                 exact Sim.gvf
               |true=>
                 obtain⟨val,h1,h2⟩:=Iv_ (N:=N) (ty:=ty) ht (Hs_ ha.f (λt ht c v e=>hp2 t ht c v e hgv) (Cu_ hno)) ha.l hr0 (D3_ hgv hp1) he
                 refine vgq (c:=c) (b:=b) (v:=val) i hi hck (I9_ hL hx) (λ_ _ q=>by cases q) hy (λ_ H' L' hh hl=>h2 H' L' hh (Ll_ ha hL hlk hl)) (k _ _ _ _ (ha.put d ?_) hL)
                 rw[<- hge2,hgv]
                 exact Sim.gvt h1.sim
             . cases h
           . cases h
         . cases h
       . cases h
     . cases h
   . cases h
structure VV where
 F:Nat->PV
 L:Nat->Blk
 ps:List Prop
 as0:List Nat
 bs:List Nat
def lksOk (xs:Option (List Nat)) (op:Op):Bool:=match Bk_ op with
 |false=>true
 |true=>match xs with
   |some xs=>!memB xs (xs.foldr max 0+1)
   |none=>false
theorem Ih_ {xs:Option (List Nat)} {op:Op} (h:lksOk xs op=true):Bk_ op=false\/∃ i,okX xs i=true:=by
 unfold lksOk at h
 split at h
 exact .inl xI
 . split at h
   exact .inr ⟨_,h⟩
   . cases h
def runV (tb:Tb) (xs:Option (List Nat)) (all:List Oper):List Nat->(Nat->PV)->(Nat->Blk)->List Prop->List Nat->List Nat->Option VV
 |[],F,L,ps,as0,bs=>frcP ps λps=>frcN as0 λas0=>frcN bs λbs=>some ⟨F,L,ps,as0,bs⟩
 |i::r,F,L,ps,as0,bs=>match nth all i with
   |some o=>match o.dst with
     |some d=>match vOp tb ⟨F,L⟩ all o with
       |some ⟨v0,ps0,lk0⟩=>match okLk xs L o.op lk0 with
         |true=>match lksOk xs o.op with
           |true=>match lk0 with
             |none=>addP ps ps0 λps=>frc v0 λv=>runV tb xs all r (updp F d v) L ps as0 bs
             |some (_,a,b)=>addP ps ps0 λps=>frc v0 λv=>runV tb xs all r (updp F d v) L ps (a::as0) (b::bs)
           |false=>none
         |false=>none
       |none=>none
     |none=>none
   |none=>none
def chkV (n:Nat) (all:List Oper):List Nat->Array Bool->Bool
 |[],_=>true
 | i::r,listed=>(match nth all i with
   |some o=>rdB all listed i&&apB n all listed i o&&dstB n o&&nosB o.op
   |none=>false)&&chkV n all r (listed.setIfInBounds i true)
def lst (listed:Array Bool):List Nat->Array Bool
 |[]=>listed
 |i::r=>lst (listed.setIfInBounds i true) r
theorem Md_ {tb:Tb} (ht:tbB P tb=true) {xs:Option (List Nat)}:∀ (order:List Nat) (fuel:Nat) (listed:Array Bool) (F:Nat->PV) (L:Nat->Blk) (ps:List Prop) (as0 bs:List Nat) (r:VV),chkV n all order listed=true->runV tb xs all order F L ps as0 bs=some r->AllP r.ps->r.as0=r.bs ->
   AllP ps/\as0=bs/\(Hv P n N H0 Q xs all fuel (lst listed order) ks ⟨r.F,r.L⟩->Hv P n N H0 Q xs all (fuel+order.length) listed ks ⟨F,L⟩)
 |[],fuel,listed,F,L,ps,as0,bs,r,_,h,hp,he=>by
   simp only[runV,D2_,Fk_,Option.some.injEq] at h
   subst h
   exact⟨hp,he,id⟩
 |i::q,fuel,listed,F,L,ps,as0,bs,r,hc,h,hp,he=>by
   simp only[chkV,Bool.and_eq_true] at hc
   obtain⟨hc1,hc2⟩:=hc
   have ih:=Md_ ht (xs:=xs) q fuel (listed.setIfInBounds i true)
   simp only[runV] at h
   split at h
   . rename_i o ho
     rw[ho] at hc1
     split at h
     . rename_i d hd
       split at h
       . rename_i v0 ps0 lk0 hv
         split at h
         . rename_i hlk
           split at h
           . rename_i hlo
             have hck:(rdB all listed i&&apB n all listed i o&&Nat.blt d n&&nosB o.op)=true:=by simpa [dstB,hd] using hc1
             split at h
             . rw[E9_,Ew_] at h
               obtain⟨h1,h2,h3⟩:=ih _ _ _ _ _ r hc2 h hp he
               obtain⟨h4,h5⟩:=B5_ h1
               exact⟨h4,h2,λx=>sv_v ht ho hd hck hv h5 (λy hy=>by cases hy) hlk (Ih_ hlo) (h3 x)⟩
             . rename_i j a b
               rw[E9_,Ew_] at h
               obtain⟨h1,h2,h3⟩:=ih _ _ _ _ _ r hc2 h hp he
               obtain⟨h4,h5⟩:=B5_ h1
               simp only[List.cons.injEq] at h2
               exact⟨h4,h2.2,λx=>sv_v ht ho hd hck hv h5 (λy hy=>by cases hy;exact h2.1) hlk (Ih_ hlo) (h3 x)⟩
           . cases h
         . cases h
       . cases h
     . cases h
   . cases h
theorem gov {tb:Tb} (ht:tbB P tb=true) (order:List Nat) (f:Nat) {xs:Option (List Nat)} {fuel:Nat} {listed:Array Bool} {F F':Nat->PV} {L L':Nat->Blk} {ps:List Prop} {as0 bs:List Nat} (hf:fuel=f+order.length) (hc:chkV n all order listed=true) (h:runV tb xs all order F L [] [] []=some ⟨F',L',ps,as0,bs⟩) (he:as0=bs) (hp:AllP ps) (next :Hv P n N H0 Q xs all f (lst listed order) ks ⟨F',L'⟩):Hv P n N H0 Q xs all fuel listed ks ⟨F,L⟩:=by
 subst hf;exact (Md_ ht order f listed F L [] [] [] _ hc h hp he).2.2 next
theorem ve {xs:List Nat} {fuel:Nat} {listed:Array Bool} {o:Oper} {j:Option Nat} (i:Nat) (hi:nth all i=some o) (hr:Region.ready .any all.toArray listed=[i]) (hj:(match j with|none=>true|some j=>memB xs j)=true) (h:E1 P n N H0 all o j s (λs'=>Hv P n N H0 Q (some xs) all fuel (listed.setIfInBounds i true) ks s')):Hv P n N H0 Q (some xs) all (fuel+1) listed ks s:=by
 intro F H L Lk ha hL;rw[Bv_] at hi;have hle:∀ L':Ls,(∀ i,j≠some i->L' i=L i)->LkR (some xs) Lk L':=λL' hL' i=>by
   rw[hL i]
   cases e:memB xs i with
   |true=>rfl
   |false=>
     refine (hL' i λq=>?_).symm
     subst q
     simp only at hj
     rw[e] at hj;cases hj
 refine vw_e i hi hr ((h F H L ha).imp λF' H' L' ⟨h1,h2,s',h3,h4⟩=>⟨⟨h1,λi x hx=>?_⟩,h4 F' H' L' Lk h3 (hle L' h2)⟩);have :=hle L' h2 i;rw[this] at hx
 cases e:memB xs i with
 |true=>rw[e] at hx;cases hx
 |false=>rw[e] at hx;exact hx
end Go.SW
namespace Go.SW
variable {P:Program} {n:Nat} {N:Rest} {H0:Env} {all rest:List Oper} {Q:Qs} {ks:List Kt} {s:St} {T T' T2 ty d:Nat} {pos:String} {af:Array Edge} {x y z:Operand} {K:St->Prop} {op:Op} {p:PV}
def Qy (P:Program) (N:Rest) (H0:Env) (s:St) (op:Op) (ty:TypeId) (p:PV):Prop:=
 ∀ F H L,Abs H0 s F H L->∃ val,SimT s.L H p val/\∀ H' L',HLe H H'->Lo P N op ty F H' L' val
theorem q1 (h:Qy P N H0 s op ty p) (hd:Nat.blt d n=true) (k:p.wf->Hd P n N H0 Q (.ops all rest) ks ⟨updp s.F d p,s.L⟩):Hd P n N H0 Q (.ops all (⟨some d,op,ty,pos,af,none⟩::rest)) ks s:=λF H L ha=>by
 obtain⟨val,h1,h2⟩:=h F H L ha
 exact ow1 (Ea_ hd (h2 H L (.refl H)) (k h1.sim.wf _ _ _ (ha.put d h1)))
theorem eqy (h:Qy P N H0 s op ty p) (hd:Nat.blt d n=true) (k:p.wf->K ⟨updp s.F d p,s.L⟩):E1 P n N H0 all ⟨some d,op,ty,pos,af,none⟩ none s K:=λF H L ha=>by
 obtain⟨val,h1,h2⟩:=h F H L ha
 exact Ea_ hd (h2 H L (.refl H)) ⟨.refl H,λ_ _=>rfl,_,ha.put d h1,k h1.sim.wf⟩
theorem vq {xs:Option (List Nat)} {fuel:Nat} {listed:Array Bool} (i:Nat) (h:Qy P N H0 s op ty p) (hi:nth all i=some ⟨some d,op,ty,pos,af,none⟩) (hck:(rdB all listed i&&apB n all listed i ⟨some d,op,ty,pos,af,none⟩&&Nat.blt d n&&nosB op)=true) (hl:Bk_ op=false) (k:p.wf->Hv P n N H0 Q xs all fuel (listed.setIfInBounds i true) ks ⟨updp s.F d p,s.L⟩):Hv P n N H0 Q xs all (fuel+1) listed ks s:=by
 intro F H L Lk ha hL;rw[Bv_] at hi;obtain⟨val,h1,h2⟩:=h F H L ha;exact vw_q i hi hck (I9_ hL (.inl hl)) (λH' L' hh _=>h2 H' L' hh) (k h1.sim.wf _ _ _ _ (ha.put d h1) hL)
def strS (ts:List Nat) (s:St):St:=⟨strG ts s.F,s.L⟩
theorem abs_str {g:Bool} {ts:List Nat} {F:Fr} {H:Hp} {L:Ls} (ha:Abs H0 s F H L) (hc:AllP (F5_ s.F g ts [])) (hno:D8_ s.F ts=true) (hg:g=true):Abs H0 (strS ts s) F H L:=
 ⟨ha.le,ha.g,Hs_ ha.f (λt ht c v e=>(Co_ hc).2 t ht c v e hg) (Cu_ hno),ha.l⟩
theorem vqg {xs:Option (List Nat)} {fuel:Nat} {listed:Array Bool} {j:Nat} {want g:Bool} (i:Nat) (ts:List Nat) (hi:nth all i=some ⟨some d,op,ty,pos,af,some (j,want)⟩) (hck:(rdB all listed i&&apB n all listed i ⟨some d,op,ty,pos,af,some (j,want)⟩&&Nat.blt d n&&nosB op)=true) (hl:Bk_ op=false) (hg:gOp s all j want=some g) (h:g=true->Qy P N H0 (strS ts s) op ty p) (hc:AllP (F5_ s.F g ts [])) (hno:D8_ s.F ts=true)
   (k:(g=true->p.wf)->Hv P n N H0 Q xs all fuel (listed.setIfInBounds i true) ks ⟨updp s.F d (.gv g p),s.L⟩):Hv P n N H0 Q xs all (fuel+1) listed ks s:=by
 intro F H L Lk ha hL;rw[Bv_] at hi;obtain⟨c,b,hy,hge⟩:=gOp_ok ha hg;have hge2:g=(c&&(b==want)):=hge.trans If_.symm
 cases hgv:g with
 |false=>
   have hcf:(c&&(b==want))=false:=by rw[<- hge2,hgv]
   refine vgq (c:=c) (b:=b) (v:=undef) i hi hck (I9_ hL (.inl hl)) (λ_ _ q=>by cases q) hy (λe=>by rw[hcf] at e;cases e) (k (λe=>by rw[hgv] at e;cases e) _ _ _ _ (ha.put d ?_) hL)
   rw[<- hge2,hgv];exact Sim.gvf
 |true=>
   obtain⟨val,h1,h2⟩:=h hgv F H L (abs_str ha hc hno hgv)
   refine vgq (c:=c) (b:=b) (v:=val) i hi hck (I9_ hL (.inl hl)) (λ_ _ q=>by cases q) hy (λ_ H' L' hh _=>h2 H' L' hh) (k (λ_=>h1.sim.wf) _ _ _ _ (ha.put d ?_) hL)
   rw[<- hge2,hgv];exact Sim.gvt h1.sim
theorem Abs.ev {F:Fr} {H:Hp} {L:Ls} (ha:Abs H0 s F H L) {x:Operand} {p:PV} (hx:evP s.F x=p):SimT s.L H p (ev F x):=by
 have h1:=A6_ ha.f x;unfold Ok1 at h1
 rwa [hx] at h1
theorem qidx {α:Type} {tb:Tb} {ti te:TI} {e:TypeId} {enc:α->List PV} {xs:List α} {kk:IntKind} {i:Int} (ht:tbB P tb=true) (m:Nat) {a:α} (hx:evP s.F x = .sl enc xs) (hy:evP s.F y = .int kk i) (hm:i=m) (ha:xs[m]? = some a) (hti:lkT tb T=some ti) (hk:ti.k = .slc e) (hte:lkT tb e=some te) (hsz:te.size=(enc a).length):Qy P N H0 s (.indexAddr T x y) ty (.el (enc a) 0):=λF H L hab=>by
 have h1:=(hab.ev hx).sim
 have h2:=(hab.ev hy).sim
 obtain⟨k0,hs,hb⟩:=h1.slh
 obtain⟨cs,hE,hat⟩:=hs.get ha
 have hsize:=(Ba_ ht hte).sz
 rw[hsz,hE.1] at hsize
 have hlt:m<xs.length:=by
   rcases Nat.lt_or_ge m xs.length with q|q
   . exact q
   . rw[List.getElem?_eq_none q] at ha;cases ha
 refine⟨_,Sim.simT (p:= .el (enc a) 0) ?_ Y,λH' L' hh=>Gh_ Y h2.inv_int.1 hs.1 (hat.mono hh) ((Ba_ ht hti).slc hk) hsize hm hlt⟩
 have :=Sim.el (row:=enc a) (o:=0) hat hE.1 hE.2.1.2
 simpa [sPtr] using this
theorem sane {ps qs:List PV} {r:Bool} (hx:evP s.F x = .agg ps) (hy:evP s.F y = .agg qs) (hm:P.eqGuardType P.depth T=false) (h:∀ H vs us,Sims H ps vs->Sims H qs us->EqV P 10000 T (.agg vs.toArray) (.agg us.toArray) r):Qy P N H0 s (.binOp .neq T x y T') ty (.bool (!r)):=λF H L ha=>by
 obtain⟨vs,e1,h1⟩:=(ha.ev hx).sim.inv_agg
 obtain⟨us,e2,h2⟩:=(ha.ev hy).sim.inv_agg
 exact⟨.bool (!r),Sim.bool,λH' L' _=>lo_aneq e1 e2 hm (h H vs us h1 h2)⟩
theorem sw_own {α:Type} {t k e:Nat} {c:Code} (i:Nat) (enc:α->List PV) (hF:s.F t = .val (.slice none 0 0)) (hno:s.L i = .no) (kk:Hd P n N H0 Q (.code c) ks ⟨updp (Ec_ i s.F) t (.osl i),lups (B0_ i s.L) i (.arr (.slice none 0 0) k e enc [])⟩):Hd P n N H0 Q (.code c) ks s:=λF H L ha=>by
 have hL0:Abs H0 s F H (lupd L i none):=⟨ha.le,ha.g,ha.f,λj=>by
   by_cases e:j=i
   . subst e;rw[hno];trivial
   . rw[C_ _ _ _ _ e];exact ha.l j⟩
 have h1:=(ha.f t).sim
 rw[hF] at h1
 have h2:=hL0.turn i (B:= .arr (.slice none 0 0) k e enc []) (x:=none) ⟨[],Fs_,Pn_,by simp⟩
 have e2:lupd (lupd L i none) i none=lupd L i none:=by funext j;simp only[lupd];cases Nat.beq j i<;>rfl
 rw[e2] at h2
 refine J4_ (λw hm=>hm.clear i) (kk F H _ ⟨h2.le,h2.g,λq=>?_,h2.l⟩)
 by_cases e:q=t
 . subst e;simp only[Gw_,SimT,Av_];exact h1.inv_val
 . simp only[Mq_ _ _ _ _ e];exact h2.f q
end Go.SW
namespace Go.SW
variable {P:Program} {n:Nat} {N:Rest} {H0:Env} {all rest:List Oper} {Q:Qs} {ks:List Kt} {s:St} {T T' T2 ty d:Nat} {pos:String} {af:Array Edge} {x y z:Operand} {K:St->Prop} {op:Op} {p:PV}
theorem qconv {tb:Tb} {ti td:TI} {k k':IntKind} {a:Int} (ht:tbB P tb=true) (hx:evP s.F x = .int k a) (hti:lkT tb T=some ti) (htd:lkT tb T'=some td) (hk:td.k = .int k') (h:k'.min<=a/\a<=k'.max):Qy P N H0 s (.convert T T' x) ty (.int k' a):=λF H L ha=>
 ⟨_,Sim.int h.1 h.2,λ_ _ _=>C8_ (ha.ev hx).sim.inv_int.1 (Ba_ ht hti).isSome ((Ba_ ht htd).int hk) h⟩
end Go.SW
namespace Go.SW
variable {P:Program} {n:Nat} {N:Rest} {H0:Env} {Q:Qs} {ks:List Kt} {s:St}
theorem cndF {c:Operand} {x y:Code} {b:Bool} (hc:evP s.F c = .bool b) (hb:b=false) (k:Hd P n N H0 Q (.code y) ks s):Hd P n N H0 Q (.code (.cond c x y)) ks s:=cnd hc (λe=>by rw[hb] at e;cases e) (λ_=>k)
variable {tb:Tb} {rs:List ResultVar} {res p q r:PV} {as0 bs:List Nat}
theorem rt1 (h:Fu_ tb s rs=some ([p],as0,bs)) (he:as0=bs) (hp:PLe p res):Hd P n N H0 (rtK tb rs res) (.ex .ret) [] s:=rt h he hp
def i64c (z:Int):List PV:=[.int .i64 z]
def slc {α:Type} (enc:α->List PV) (l:List α):List PV:=[.sl enc l]
end Go.SW
namespace Go.SW
variable {P:Program} {n:Nat} {N:Rest} {H0:Env} {all rest:List Oper} {Q:Qs} {ks:List Kt} {s:St}
end Go.SW
namespace Go.SW
variable {P:Program} {n:Nat} {N:Rest} {H0:Env} {s:St} {tb:Tb} {rs:List ResultVar} {res p q0:PV} {b b' T:Nat} {post q:List PV} {as0 bs:List Nat}
end Go.SW
namespace Go.SW
variable {P:Program} {n:Nat} {N:Rest} {H0:Env} {all rest:List Oper} {Q:Qs} {ks:List Kt} {s:St}
end Go.SW
namespace Go.SW
theorem Iy_ {z:Int} (h:-9223372036854775808<=z/\z<=9223372036854775807):IntKind.min .i64<=z/\z<=IntKind.max .i64:=h
theorem rg_u32 {z:Int} (h:0<=z/\z<=4294967295):IntKind.min .u32<=z/\z<=IntKind.max .u32:=h
theorem rg_u64 {z:Int} (h:0<=z/\z<=18446744073709551615):IntKind.min .u64<=z/\z<=IntKind.max .u64:=h
theorem wr_u8 (z:Int):0<=IntKind.wrap .u8 z/\IntKind.wrap .u8 z<=255:=by
 exact yK
theorem Mu_ (z:Int):0<=IntKind.wrap .u32 z/\IntKind.wrap .u32 z<=4294967295:=by
 exact yK
def letter (c:Int):Bool:=decide (97<=c) && decide (c<=122) || decide (48<=c) && decide (c<=57) || decide (c=45) || decide (c=95)
def plain (s:Bs):Bool:=s.all λc=>letter c.toNat
structure Out where
 s:Bs
 err:Int
def Out.cells (o:Out):List Value:=[str o.s, .int .i64 o.err]
structure In where
 s:Bs
 err:Int
def In.cells (i:In):List Value:=[str i.s, .int .i64 i.err]
def numB:Nat->Nat->Bs
 |0,_=>[]
 |k+1,n=>UInt8.ofNat (n/256 ^ k)::numB k n
def numK (bytes:Int):Nat:=(min (max bytes 0) 8).toNat
def Lz_ (o:Out) (n bytes:Int):Out:=⟨o.s++numB (numK bytes) n.toNat,o.err⟩
theorem wrap8r (z:Int):0<=IntKind.wrap .u8 z/\IntKind.wrap .u8 z<=255:=by
 simp[IntKind.wrap,IntKind.bits,IntKind.signed];omega
theorem byte_of {n:Int} {j:Nat} (hn:0<=n) (hj:1<=j) (hj8:j<=8):UInt8.ofNat (IntKind.wrap .u8 (n.fdiv (2 ^ (min (8*((j:Int)-1)).toNat IntKind.u64.bits)))).toNat=UInt8.ofNat (n.toNat/256 ^ (j-1)):=by
 obtain⟨m,rfl⟩:=Int.eq_ofNat_of_zero_le hn;obtain⟨q,rfl⟩:∃ q,j=q+1:=⟨j-1,by omega⟩;have e1:(8*(((q+1:Nat):Int)-1)).toNat=8*q:=by omega
 have eb:IntKind.u64.bits=64:=rfl;have e2:min (8*q) IntKind.u64.bits=8*q:=by rw[eb];omega
 have e3:((2:Int) ^ (8*q))=((256 ^ q:Nat):Int):=by
   rw[Int.pow_mul];simp
 rw[e1,e2,e3,Int.toNat_natCast,Nat.add_sub_cancel];have e4:((m:Int).fdiv ((256 ^ q:Nat):Int))=((m/256 ^ q:Nat):Int):=by
   rw[Int.fdiv_eq_ediv_of_nonneg _ (Int.natCast_nonneg _)];simp
 rw[e4];generalize m/256 ^ q=z
 apply UInt8.toNat_inj.1
 simp[IntKind.wrap,IntKind.bits,IntKind.signed,UInt8.toNat_ofNat']
 try omega
theorem M0_ {e n:Nat} {v:Value} {en:Option (Nat×Obj)} {bs:Bs} {z:Int} (h:OwnV 1 e v en n (bs.map u8v++[.int .u8 z])) (hn:n=bs.length+1) (hz:0<=z/\z<=255):OwnV 1 e v en (bs++[UInt8.ofNat z.toNat]).length ((bs++[UInt8.ofNat z.toNat]).map u8v):=
 L0_ h (by simp[hn]) (by simp[u8v_of hz.1 hz.2])
theorem Do_:∀ (k n:Nat),(numB k n).length=k
 |0,_=>rfl
 |k+1,n=>by simp[numB,Do_ k n]
def dots:Bs->List Bs
 |[]=>[[]]
 |c::r=>if c=46 then []::dots r else match dots r with
   |[]=>[[c]]
   |w::t=>(c::w)::t
theorem Ek_:∀ s:Bs,Lib.splitK [46] 0 (Lib.count s [46]) s=dots s
 |[]=>by rw[Lib.count_miss (by simp[Lib.index])];rfl
 |b::l=>by
   have ih:=Ek_ l
   by_cases hb:b=46
   . subst hb
     rw[Lib.count_cons_eq,Nat.add_comm]
     have hix:Lib.index (46::l) [46]=0:=by rw[Lib.index];simp[List.isPrefixOf]
     unfold Lib.splitK dots
     rw[hix]
     simp[ih]
   . rw[Lib.count_cons_ne _ _ _ hb]
     have hp:([46]:List UInt8).isPrefixOf (b::l)=false:=by simp[List.isPrefixOf,Ne.symm hb]
     have hix:Lib.index (b::l) [46] = if Lib.index l [46] == -1 then -1 else Lib.index l [46]+1:=by rw[Lib.index,hp];simp
     unfold dots
     rw[if_neg hb,<- ih]
     cases hc:Lib.count l [46] with
     |zero=>rfl
     |succ k=>
       unfold Lib.splitK
       rw[hix]
       by_cases hm:Lib.index l [46] = -1
       . rw[Lib.count_miss hm] at hc;cases hc
       . have hge:=Lib.index_ge l [46]
         obtain⟨j,hj⟩:∃ j:Nat,Lib.index l [46]=j:=⟨(Lib.index l [46]).toNat,by omega⟩
         exact yD
theorem Ei_ (s:Bs):(Lib.splitB ⟨#[46]⟩ 0 (Lib.countB ⟨s.toArray⟩ ⟨#[46]⟩) ⟨s.toArray⟩).map Value.string=(dots s).map str:=by
 have h:=Lib.splitB_data ⟨#[46]⟩ 0 (Lib.countB ⟨s.toArray⟩ ⟨#[46]⟩) ⟨s.toArray⟩;have hc:Lib.countB ⟨s.toArray⟩ ⟨#[46]⟩=Lib.count s [46]:=by simp[Lib.countB]
 rw[hc] at h ⊢;have e:=Ek_ s;exact yJ
theorem Ji_ (s:Bs):Lib.countB ⟨s.toArray⟩ ⟨#[46]⟩+1=(dots s).length:=by
 have h:=congrArg List.length (Ei_ s);rw[List.length_map,List.length_map,Lib.splitB_all ⟨#[46]⟩ xB 0 _ _ rfl] at h;exact h
theorem C3_:∀ (s w:Bs),w∈dots s->w.length<=s.length
 |[],w,h=>by simp[dots] at h;simp[h]
 |c::r,w,h=>by
   unfold dots at h
   split at h
   . rcases List.mem_cons.1 h with rfl|h
     . simp
     . have :=C3_ r w h;simp;omega
   . split at h
     . simp at h;subst h;simp
     . rename_i x t e
       have ih:=C3_ r
       rw[e] at ih
       rcases List.mem_cons.1 h with rfl|h
       . have :=ih x xA;simp;omega
       . have :=ih w (by simp[h]);simp;omega
structure Pair where
 key:Bs
 kind:Int
 num:Int
 text:Bs
deriving DecidableEq
def Pair.cells (p:Pair):List Value:=[str p.key, .int .u8 p.kind, .int .i64 p.num,str p.text]
def Pair.wf (p:Pair):Prop:=(0<=p.kind/\p.kind<=255)/\(-9223372036854775808<=p.num/\p.num<=9223372036854775807)/\p.key.length<=9223372036854775807/\p.text.length<=9223372036854775807
def Pair.zero:Pair:=⟨[],0,0,[]⟩
structure Mail where
 id:Int
 Eq_:Bs
 key:Bs
 head:List Pair
 body:Bs
 due:Int
 hops:Int
deriving DecidableEq
def Mail.cells (m:Mail) (a:Option Addr) (c:Nat):List Value:=[.int .u64 m.id,str m.Eq_,str m.key, .slice a m.head.length c,str m.body, .int .u64 m.due, .int .u8 m.hops]
def Mail.wf (m:Mail):Prop:=(0<=m.id/\m.id<=18446744073709551615)/\(0<=m.due/\m.due<=18446744073709551615)/\(0<=m.hops/\m.hops<=255)/\m.Eq_.length<=9223372036854775807/\m.key.length<=9223372036854775807/\m.body.length<=9223372036854775807/\m.head.length<=9223372036854775807
structure Reply where
 channel:Int
 kind:Int
 n:Int
 m:Int
 yes:Bool
 name:Bs
 Ch_:Mail
deriving DecidableEq
def Reply.cells (r:Reply) (a:Option Addr) (c:Nat):List Value:=[.int .u8 r.channel, .int .u8 r.kind, .int .u64 r.n, .int .u64 r.m, .bool r.yes,str r.name, .int .u64 r.Ch_.id,str r.Ch_.Eq_,str r.Ch_.key, .slice a r.Ch_.head.length c,str r.Ch_.body, .int .u64 r.Ch_.due, .int .u8 r.Ch_.hops]
def Reply.wf (r:Reply):Prop:=(0<=r.channel/\r.channel<=255)/\(0<=r.kind/\r.kind<=255)/\(0<=r.n/\r.n<=18446744073709551615)/\(0<=r.m/\r.m<=18446744073709551615)/\r.name.length<=9223372036854775807/\r.Ch_.wf
def GTab (H:Hp) (g:Nat) (zs:List Int):Prop:=∃ T fr,H g=some (.cells (zs.map (Value.int .u32)).toArray T fr)
theorem GTab.mono {H H':Hp} {g:Nat} {zs:List Int} (h:GTab H g zs) (hl:HLe H H'):GTab H' g zs:=by
 exact zN
def laidT:List Int:=[0x00000000,0x1db71064,0x3b6e20c8,0x26d930ac,0x76dc4190,0x6b6b51f4,0x4db26158,0x5005713c,0xedb88320,0xf00f9344,0xd6d6a3e8,0xcb61b38c,0x9b64c2b0,0x86d3d2d4,0xa00ae278,0xbdbdf21c]
theorem tab_get {m:Nat} (h:m<16):(laidT.map (Value.int .u32)).toArray[m*1]? = some (.int .u32 (laidT.getD m 0)):=by
 have hl:m<laidT.length:=h;simp[List.getD_eq_getElem?_getD,hl]
abbrev Mv_ (a b:Int):Int:=IntKind.wrap .u32 ((BitVec.ofInt (IntKind.bits .u32) a ^^^ BitVec.ofInt (IntKind.bits .u32) b).toNat)
abbrev Jt_ (a b:Int):Int:=IntKind.wrap .u32 ((BitVec.ofInt (IntKind.bits .u32) a &&& BitVec.ofInt (IntKind.bits .u32) b).toNat)
theorem H0_ (a:Int):(Jt_ a 15).toNat<16:=by
 have h1:(BitVec.ofInt (IntKind.bits .u32) a &&& BitVec.ofInt (IntKind.bits .u32) 15).toNat<=15:=by
   rw[BitVec.toNat_and];exact Nat.le_trans Nat.and_le_right xB
 unfold Jt_;generalize (BitVec.ofInt (IntKind.bits .u32) a &&& BitVec.ofInt (IntKind.bits .u32) 15).toNat=z at *;exact yK
def crc1 (r:Int):Int:=Mv_ (Int.fdiv r (2 ^ (min (4:Int).toNat (IntKind.bits .u32)))) (laidT.getD (Jt_ r 15).toNat 0)
def M1_:Nat->Int->Int
 |0,r=>r
 |k+1,r=>M1_ k (crc1 r)
def Fd_ (r b:Int):Int:=M1_ 2 (Mv_ r b)
structure Frame where
 channel:Int
 kind:Int
 body:Bs
deriving DecidableEq
def Frame.cells (f:Frame):List Value:=[.int .u8 f.channel, .int .u8 f.kind,str f.body]
def Frame.wf (f:Frame):Prop:=(0<=f.channel/\f.channel<=255)/\(0<=f.kind/\f.kind<=255)/\f.body.length<=9223372036854775807
def Frame.zero:Frame:=⟨0,0,[]⟩
variable {P:Program} {n:Nat} {N:Rest} {H0:Env} {s:St} {T ty:TypeId} {y:Operand}
end Go.SW
namespace Go.SW
variable {P:Program} {n:Nat} {N:Rest} {H0:Env} {all rest:List Oper} {Q:Qs} {ks:List Kt} {s:St} {T T' T2 ty d:Nat} {pos:String} {af:Array Edge} {x y z:Operand} {K:St->Prop} {op:Op} {p:PV}
end Go.SW
namespace Go.SW
variable {P:Program} {n:Nat} {N:Rest} {H0:Env} {s:St}
end Go.SW
namespace Go.SW
variable {P:Program} {n:Nat} {N:Rest} {H0:Env} {s:St} {ty:TypeId}
end Go.SW
namespace Go.SW
variable {P:Program} {n:Nat} {N:Rest} {H0:Env} {all:List Oper} {s:St} {K:St->Prop}
end Go.SW
namespace Go.SW
variable {P:Program} {n:Nat} {N:Rest} {H0:Env} {all rest:List Oper} {Q:Qs} {ks:List Kt} {s:St}
end Go.SW
namespace Go.SW
section
variable {α:Type} {P:Program} {n:Nat} {N:Rest} {F:Fr} {H:Hp} {L:Ls} {ops:List Oper} {T T' T2 ty d:TypeId} {x y z:Operand} {pos:String} {af:Array Edge} {K:Fr->Hp->Ls->Prop}
end
variable {P:Program} {n:Nat} {N:Rest} {H0:Env} {all rest:List Oper} {Q:Qs} {ks:List Kt} {s:St} {T T' T2 ty d:Nat} {pos:String} {af:Array Edge} {x y z:Operand} {K:St->Prop} {op:Op} {p:PV}
end Go.SW
namespace Go.SW
variable {P:Program} {n:Nat} {N:Rest} {H0:Env} {all rest:List Oper} {Q:Qs} {ks:List Kt} {s:St} {T T' T2 ty d:Nat} {pos:String} {af:Array Edge} {x y z:Operand} {K:St->Prop} {op:Op} {p:PV}
def Pl (P:Program) (f:FuncId) (args:Array Value) (H:Hp) (en:Option (Nat×Obj)) (R:Value->Hp->Option (Nat×Obj)->Prop):Prop:=
 ∀ N L w i,L i=en->Mem N H L w->Calls P f args w λe w'=>∃ v H' en',e = .returned v/\R v H' en'/\HLe H H'/\Mem N H' (lupd L i en') w'
end Go.SW
namespace Go.SW.V
open Go.SW
variable {P:Program} {n:Nat} {N:Rest} {H0:Env} {all rest:List Oper} {Q:Qs} {ks:List Kt} {fF:Nat->PV} {fL:Nat->Blk} {T T' T2 ty d:Nat} {pos:String} {af:Array Edge} {x y z:Operand} {K:St->Prop} {op:Op} {p:PV}
theorem call {all rest:List Oper} {Q:Qs} {ks:List Kt} {f:FuncId} {args:List PV} {res:PV} {x:Operand} {xs:Array Operand} {ats:Array TypeId} {ty d:Nat} {pos:String} {af:Array Edge} (h:Fn P H0.g f args res) (ha:argsP fF x xs.toList=some (f,args)) (hd:Nat.blt d n=true) (k:res.wf->Hd P n N H0 Q (.ops all rest) ks ⟨updp fF d res,fL⟩):Hd P n N H0 Q (.ops all (⟨some d, .call ⟨.value x,xs,ats⟩,ty,pos,af,none⟩::rest)) ks ⟨fF,fL⟩:=SW.call (s:=⟨fF,fL⟩) h ha hd k
theorem cnd {Q:Qs} {ks:List Kt} {c:Operand} {x y:Code} {b:Bool} (hc:evP fF c = .bool b) (ht:b=true->Hd P n N H0 Q (.code x) ks ⟨fF,fL⟩) (hf:b=false->Hd P n N H0 Q (.code y) ks ⟨fF,fL⟩):Hd P n N H0 Q (.code (.cond c x y)) ks ⟨fF,fL⟩:=SW.cnd (s:=⟨fF,fL⟩) hc ht hf
theorem cn {Q:Qs} {ks:List Kt} {c:Operand} {x y:Code} {p:Prop} [Decidable p] (hc:evP fF c=.bool (decide p)) (ht:p->Hd P n N H0 Q (.code x) ks ⟨fF,fL⟩) (hf:¬p->Hd P n N H0 Q (.code y) ks ⟨fF,fL⟩):Hd P n N H0 Q (.code (.cond c x y)) ks ⟨fF,fL⟩:=cnd hc (λh=>ht (of_decide_eq_true h)) λh=>hf (of_decide_eq_false h)
theorem loop {ι:Type _} {c:Code} {ks:List Kt} {Q:Qs} (keep kL:List Nat) (lv:ι->List (Nat×PV)) (lL:ι->List (Nat×Blk)) (Φ:ι->Prop) (μ:ι->Nat) (x0:ι) (h1:AllF fF (lv x0)) (h2:AllL fL (lL x0)) (hΦ:Φ x0) (body:∀ x,Φ x->Hd P n N H0 Q (.code c) (.lp (LJ (λx=>⟨mkF (lv x) keep fF,mkL (lL x) kL fL⟩) Φ μ (μ x))::ks) ⟨mkF (lv x) keep fF,mkL (lL x) kL fL⟩):Hd P n N H0 Q (.code (.loop c)) ks ⟨fF,fL⟩:=SW.loop (s:=⟨fF,fL⟩) keep kL lv lL Φ μ x0 h1 h2 hΦ body
theorem ef {o:Oper} {j:Option Nat} (h:E1 P n N H0 all o j ⟨fF,fL⟩ (λs'=>Hd P n N H0 Q (.ops all rest) ks s')):Hd P n N H0 Q (.ops all (o::rest)) ks ⟨fF,fL⟩:=SW.ef (s:=⟨fF,fL⟩) h
theorem boxA (i:Nat) {cs:List PV} (hx:evP fF x = .agg cs) (hn:Am_ cs=true) (hd:Nat.blt d n=true) (k:∀ b,K ⟨updp fF d (.own i b 0),lups fL i (.box b T cs)⟩):E1 P n N H0 all ⟨some d, .box T x,ty,pos,af,none⟩ (some i) ⟨fF,fL⟩ K:=SW.boxA (s:=⟨fF,fL⟩) i hx hn hd k
theorem box1 (i:Nat) {p:PV} (hx:evS (evP fF x)=some p) (ho:p.one=true) (hd:Nat.blt d n=true) (k:∀ b,K ⟨updp fF d (.own i b 0),lups fL i (.box b T [p])⟩):E1 P n N H0 all ⟨some d, .box T x,ty,pos,af,none⟩ (some i) ⟨fF,fL⟩ K:=SW.box1 (s:=⟨fF,fL⟩) i hx ho hd k
theorem alloc {tb:Tb} {ti:TI} {zs:List PV} (ht:tbB P tb=true) (i:Nat) (hti:lkT tb T=some ti) (hz:evL ti.zero=some zs) (hn:Am_ zs=true) (hd:Nat.blt d n=true) (k:∀ b,K ⟨updp fF d (.own i b 0),lups fL i (.box b T zs)⟩):E1 P n N H0 all ⟨some d, .alloc T,ty,pos,af,none⟩ (some i) ⟨fF,fL⟩ K:=SW.alloc (s:=⟨fF,fL⟩) ht i hti hz hn hd k
theorem store1 {tb:Tb} {ti:TI} {i b b' off T0:Nat} {cs cs':List PV} {p:PV} (ht:tbB P tb=true) (hx:evP fF x = .own i b off) (hb:fL i = .box b' T0 cs) (hti:lkT tb T=some ti) (hsz:ti.size=1) (hy:evS (evP fF y)=some p) (ho:p.one=true) (hl:Nat.blt off cs.length=true) (hbb:b'=b) (hc:evL (cs.set off p)=some cs') (k:K ⟨fF,lups fL i (.box b T0 cs')⟩):E1 P n N H0 all ⟨none, .store T x y,ty,pos,af,none⟩ (some i) ⟨fF,fL⟩ K:=SW.store1 (s:=⟨fF,fL⟩) ht hx hb hti hsz hy ho hl hbb hc k
theorem storeA {tb:Tb} {ti:TI} {i b b' off T0:Nat} {cs ps cs':List PV} (ht:tbB P tb=true) (hx:evP fF x = .own i b off) (hb:fL i = .box b' T0 cs) (hti:lkT tb T=some ti) (hy:evP fF y = .agg ps) (hn:Am_ ps=true) (ho:all1 ps=true) (hsz:ps.length=ti.size) (hl:Nat.ble (off+ti.size) cs.length=true) (hbb:b'=b) (hc:evL (cs.take off++(ps++cs.drop (off+ti.size)))=some cs') (k:K ⟨fF,lups fL i (.box b T0 cs')⟩):E1 P n N H0 all ⟨none, .store T x y,ty,pos,af,none⟩ (some i) ⟨fF,fL⟩ K:=SW.storeA (s:=⟨fF,fL⟩) ht hx hb hti hy hn ho hsz hl hbb hc k
theorem src_o {α:Type} {enc:α->List PV} {i e k:Nat} {u:Value} {ys:List α} (hy:evP fF y = .osl i) (hb:fL i = .arr u k e enc ys):SrcP P N H0 ⟨fF,fL⟩ enc k y ys:=SW.src_o (s:=⟨fF,fL⟩) hy hb
theorem app {α:Type} {tb:Tb} {i e k:Nat} {u:Value} {enc:α->List PV} {xs:List α} {te:TI} (ht:tbB P tb=true) (ys:List α) (hx:evP fF x = .osl i) (hb:fL i = .arr u k e enc xs) {ti:TI} (hti:lkT tb T=some ti) (htk:ti.k = .slc e) (hT2:Iq_ tb T2=true) (hte:lkT tb e=some te) (hz:te.zero.length=te.size) (hby:Nat.blt 0 te.bytes=true) (hk:te.size=k) (hy:SrcP P N H0 ⟨fF,fL⟩ enc k y ys) (hs:(xs.length+ys.length)*te.bytes<=140737488355328) (hd:Nat.blt d n=true) (kk:∀ u',K ⟨updp (Ec_ i fF) d (.osl i),lups (B0_ i fL) i (.arr u' k e enc (xs++ys))⟩):E1 P n N H0 all ⟨some d, .call ⟨.builtin .append,#[x,y],#[T,T2]⟩,ty,pos,af,none⟩ (some i) ⟨fF,fL⟩ K:=SW.app (s:=⟨fF,fL⟩) ht ys hx hb hti htk hT2 hte hz hby hk hy hs hd kk
theorem bsl {α:Type} {tb:Tb} (i:Nat) {e len:Nat} {ps:Array (Nat×Operand)} (enc:α->List PV) (xs:List α) {rows:List (List PV)} {ti te:TI} (ht:tbB P tb=true) (hti:lkT tb T=some ti) (htk:ti.k = .slc e) (hte:lkT tb e=some te) (hr:bslP fF ps.toList 0=some rows) (hx:rows=xs.map enc) (hk:∀ a,(enc a).length=te.size) (hl:xs.length=len) (hs:len*te.size<=16777216) (hs2:len<=140737488355328) (hd:Nat.blt d n=true) (kk:∀ u',K ⟨updp (Ec_ i fF) d (.osl i),lups (B0_ i fL) i (.arr u' te.size e enc xs)⟩):E1 P n N H0 all ⟨some d, .buildSlice T len ps,ty,pos,af,none⟩ (some i) ⟨fF,fL⟩ K:=SW.bsl (s:=⟨fF,fL⟩) i enc xs ht hti htk hte hr hx hk hl hs hs2 hd kk
theorem give {α:Type} {e k:Nat} {u:Value} {enc:α->List PV} {xs:List α} (i:Nat) (hb:fL i = .arr u k e enc xs) (kk:Hd P n N H0 Q (.ops all rest) ks ⟨Kq_ i enc xs fF,Gd_ i enc xs fL⟩):Hd P n N H0 Q (.ops all rest) ks ⟨fF,fL⟩:=SW.give (s:=⟨fF,fL⟩) i hb kk
theorem givec {α:Type} {e k:Nat} {u:Value} {enc:α->List PV} {xs:List α} {c:Code} (i:Nat) (hb:fL i = .arr u k e enc xs) (kk:Hd P n N H0 Q (.code c) ks ⟨Kq_ i enc xs fF,Gd_ i enc xs fL⟩):Hd P n N H0 Q (.code c) ks ⟨fF,fL⟩:=SW.givec (s:=⟨fF,fL⟩) i hb kk
theorem any (xs:List Nat) (m:Nat) {id:Nat} {ops:Array Oper} (hmx:P.follows .mixedOrders=true) (hm:ops.toList.length=m) (h:Hv P n N H0 Q (some xs) ops.toList m (Array.replicate m false) ks ⟨fF,fL⟩):Hd P n N H0 Q (.code (.region id ops true)) ks ⟨fF,fL⟩:=SW.any (s:=⟨fF,fL⟩) xs m hmx hm h
theorem vdone {xs:Option (List Nat)} {fuel:Nat} {listed:Array Bool} (h:Region.ready .any all.toArray listed=[]) (k:Hd P n N H0 Q (.ex .normal) ks ⟨fF,fL⟩):Hv P n N H0 Q xs all fuel listed ks ⟨fF,fL⟩:=SW.vdone (s:=⟨fF,fL⟩) h k
theorem ve {xs:List Nat} {fuel:Nat} {listed:Array Bool} {o:Oper} {j:Option Nat} (i:Nat) (hi:nth all i=some o) (hr:Region.ready .any all.toArray listed=[i]) (hj:(match j with|none=>true|some j=>memB xs j)=true) (h:E1 P n N H0 all o j ⟨fF,fL⟩ (λs'=>Hv P n N H0 Q (some xs) all fuel (listed.setIfInBounds i true) ks s')):Hv P n N H0 Q (some xs) all (fuel+1) listed ks ⟨fF,fL⟩:=SW.ve (s:=⟨fF,fL⟩) i hi hr hj h
theorem q1 (h:Qy P N H0 ⟨fF,fL⟩ op ty p) (hd:Nat.blt d n=true) (k:p.wf->Hd P n N H0 Q (.ops all rest) ks ⟨updp fF d p,fL⟩):Hd P n N H0 Q (.ops all (⟨some d,op,ty,pos,af,none⟩::rest)) ks ⟨fF,fL⟩:=SW.q1 (s:=⟨fF,fL⟩) h hd k
theorem eqy (h:Qy P N H0 ⟨fF,fL⟩ op ty p) (hd:Nat.blt d n=true) (k:p.wf->K ⟨updp fF d p,fL⟩):E1 P n N H0 all ⟨some d,op,ty,pos,af,none⟩ none ⟨fF,fL⟩ K:=SW.eqy (s:=⟨fF,fL⟩) h hd k
theorem vq {xs:Option (List Nat)} {fuel:Nat} {listed:Array Bool} (i:Nat) (h:Qy P N H0 ⟨fF,fL⟩ op ty p) (hi:nth all i=some ⟨some d,op,ty,pos,af,none⟩) (hck:(rdB all listed i&&apB n all listed i ⟨some d,op,ty,pos,af,none⟩&&Nat.blt d n&&nosB op)=true) (hl:Bk_ op=false) (k:p.wf->Hv P n N H0 Q xs all fuel (listed.setIfInBounds i true) ks ⟨updp fF d p,fL⟩):Hv P n N H0 Q xs all (fuel+1) listed ks ⟨fF,fL⟩:=SW.vq (s:=⟨fF,fL⟩) i h hi hck hl k
theorem vqg {xs:Option (List Nat)} {fuel:Nat} {listed:Array Bool} {j:Nat} {want g:Bool} (i:Nat) (ts:List Nat) (hi:nth all i=some ⟨some d,op,ty,pos,af,some (j,want)⟩) (hck:(rdB all listed i&&apB n all listed i ⟨some d,op,ty,pos,af,some (j,want)⟩&&Nat.blt d n&&nosB op)=true) (hl:Bk_ op=false) (hg:gOp ⟨fF,fL⟩ all j want=some g) (h:g=true->Qy P N H0 (strS ts ⟨fF,fL⟩) op ty p) (hc:AllP (F5_ fF g ts [])) (hno:D8_ fF ts=true) (k:(g=true->p.wf)->Hv P n N H0 Q xs all fuel (listed.setIfInBounds i true) ks ⟨updp fF d (.gv g p),fL⟩):Hv P n N H0 Q xs all (fuel+1) listed ks ⟨fF,fL⟩:=SW.vqg (s:=⟨fF,fL⟩) i ts hi hck hl hg h hc hno k
theorem qidx {α:Type} {tb:Tb} {ti te:TI} {e:TypeId} {enc:α->List PV} {xs:List α} {kk:IntKind} {i:Int} (ht:tbB P tb=true) (m:Nat) {a:α} (hx:evP fF x = .sl enc xs) (hy:evP fF y = .int kk i) (hm:i=m) (ha:xs[m]? = some a) (hti:lkT tb T=some ti) (hk:ti.k = .slc e) (hte:lkT tb e=some te) (hsz:te.size=(enc a).length):Qy P N H0 ⟨fF,fL⟩ (.indexAddr T x y) ty (.el (enc a) 0):=SW.qidx (s:=⟨fF,fL⟩) ht m hx hy hm ha hti hk hte hsz
theorem sane {ps qs:List PV} {r:Bool} (hx:evP fF x = .agg ps) (hy:evP fF y = .agg qs) (hm:P.eqGuardType P.depth T=false) (h:∀ H vs us,Sims H ps vs->Sims H qs us->EqV P 10000 T (.agg vs.toArray) (.agg us.toArray) r):Qy P N H0 ⟨fF,fL⟩ (.binOp .neq T x y T') ty (.bool (!r)):=SW.sane (s:=⟨fF,fL⟩) hx hy hm h
theorem sw_own {α:Type} {t k e:Nat} {c:Code} (i:Nat) (enc:α->List PV) (hF:fF t = .val (.slice none 0 0)) (hno:fL i = .no) (kk:Hd P n N H0 Q (.code c) ks ⟨updp (Ec_ i fF) t (.osl i),lups (B0_ i fL) i (.arr (.slice none 0 0) k e enc [])⟩):Hd P n N H0 Q (.code c) ks ⟨fF,fL⟩:=SW.sw_own (s:=⟨fF,fL⟩) i enc hF hno kk
theorem qconv {tb:Tb} {ti td:TI} {k k':IntKind} {a:Int} (ht:tbB P tb=true) (hx:evP fF x = .int k a) (hti:lkT tb T=some ti) (htd:lkT tb T'=some td) (hk:td.k = .int k') (h:k'.min<=a/\a<=k'.max):Qy P N H0 ⟨fF,fL⟩ (.convert T T' x) ty (.int k' a):=SW.qconv (s:=⟨fF,fL⟩) ht hx hti htd hk h
theorem cndF {c:Operand} {x y:Code} {b:Bool} (hc:evP fF c = .bool b) (hb:b=false) (k:Hd P n N H0 Q (.code y) ks ⟨fF,fL⟩):Hd P n N H0 Q (.code (.cond c x y)) ks ⟨fF,fL⟩:=SW.cndF (s:=⟨fF,fL⟩) hc hb k
theorem rt1 {tb:Tb} {rs:List ResultVar} {res p:PV} {as0 bs:List Nat} (h:Fu_ tb ⟨fF,fL⟩ rs=some ([p],as0,bs)) (he:as0=bs) (hp:PLe p res):Hd P n N H0 (rtK tb rs res) (.ex .ret) [] ⟨fF,fL⟩:=SW.rt1 (s:=⟨fF,fL⟩) h he hp
theorem next {ι:Type _} {keep kL:List Nat} {G:Nat->PV} {GL:Nat->Blk} {lv:ι->List (Nat×PV)} {lL:ι->List (Nat×Blk)} {Φ:ι->Prop} {μ:ι->Nat} {m:Nat} {ks:List Kt} {Q:Qs} (x':ι) (h1:keep.map fF=keep.map G) (h2:kL.map fL=kL.map GL) (h3:AllF fF (lv x')) (h4:AllL fL (lL x')) (hm:μ x'<m) (hΦ:Φ x'):Hd P n N H0 Q (.ex .normal) (.lp (LJ (λx=>⟨mkF (lv x) keep G,mkL (lL x) kL GL⟩) Φ μ m)::ks) ⟨fF,fL⟩:=SW.next (s:=⟨fF,fL⟩) x' h1 h2 h3 h4 hm hΦ
theorem go {tb:Tb} (ht:tbB P tb=true) (k:Nat) {c c':Cf} {ks':List Kt} {F':Nat->PV} {L':Nat->Blk} {ps:List Prop} {as0 bs:List Nat} (h:run tb n k c ks fF fL [] [] []=some ⟨c',ks',F',L',ps,as0,bs⟩) (he:as0=bs) (hp:AllP ps) (next :Hd P n N H0 Q c' ks' ⟨F',L'⟩):Hd P n N H0 Q c ks ⟨fF,fL⟩:=SW.go ht k h he hp next
theorem gov {tb:Tb} (ht:tbB P tb=true) (order:List Nat) (f:Nat) {xs:Option (List Nat)} {fuel:Nat} {listed:Array Bool} {F':Nat->PV} {L':Nat->Blk} {ps:List Prop} {as0 bs:List Nat} (hf:fuel=f+order.length) (hc:chkV n all order listed=true) (h:runV tb xs all order fF fL [] [] []=some ⟨F',L',ps,as0,bs⟩) (he:as0=bs) (hp:AllP ps) (next :Hv P n N H0 Q xs all f (lst listed order) ks ⟨F',L'⟩):Hv P n N H0 Q xs all fuel listed ks ⟨fF,fL⟩:=SW.gov ht order f hf hc h he hp next
end Go.SW.V
namespace Go.SW
structure Feed where
 rest:Bs
 err:Int
def Feed.cells (f:Feed):List Value:=[str f.rest, .int .i64 f.err]
def mt:List Bs->List Bs->Bool
 |[],k=>k.isEmpty
 |w::p,k=>if w=[35] then (List.range (k.length+1)).any (λf=>mt p (k.drop f)) else match k with
   |[]=>false
   |x::r=>(decide (w=[42]) || decide (w=x))&&mt p r
theorem mt_cons {w:Bs} {p k:List Bs} (hw:w≠[35]):mt (w::p) k=true↔∃ x r,k=x::r/\(w=[42]\/w=x)/\mt p r=true:=by
 simp only[mt,if_neg hw]
 cases k with
 |nil=>simp
 |cons x r=>
   constructor
   . intro h;simp at h;exact⟨x,r,rfl,h.1,h.2⟩
   . rintro⟨x',r',e,h1,h2⟩;cases e;simp[h1,h2]
structure MI (p k:List Bs) (i j:Nat) (b:Int) (f:Nat):Prop where
 hi:i<=p.length
 hj:j<=k.length
 hf:f<=j
 hb:-1<=b
 hbi:b<=i
 no:b<0->(mt p k=true↔mt (p.drop i) (k.drop j)=true)
 seg:0<=b->j=f+(i-b.toNat)
 go:0<=b->(mt p k=true↔∃ g,f<=g/\mt (p.drop b.toNat) (k.drop g)=true)
 fw:0<=b->∀ g,mt (p.drop b.toNat) (k.drop g)=true->mt (p.drop i) (k.drop (g+(i-b.toNat)))=true
 bw:0<=b->mt (p.drop i) (k.drop j)=true->mt (p.drop b.toNat) (k.drop f)=true
theorem MI.start (p k:List Bs):MI p k 0 0 (-1) 0:=
 ⟨Nat.zero_le _,Nat.zero_le _,Nat.zero_le _,by omega,by omega,λ_=>by simp,λh=>absurd h xB,λh=>absurd h xB,λh=>absurd h xB,λh=>absurd h xB⟩
theorem MI.bad {p k:List Bs} {i j f:Nat} {b:Int} {x:Bs} (_:MI p k i j b f) (hk:k[j]? = some x) (hm:∀ w,p[i]? = some w->w≠[35]/\w≠[42]/\w≠x):mt (p.drop i) (k.drop j)=false:=by
 rw[dropE hk]
 cases hp:p[i]? with
 |none=>
   have :p.length<=i:=List.getElem?_eq_none_iff.1 hp
   rw[List.drop_of_length_le this];rfl
 |some w=>
   obtain⟨h1,h2,h3⟩:=hm w hp
   rw[dropE hp]
   cases q:mt (w::p.drop (i+1)) (x::k.drop (j+1)) with
   |false=>rfl
   |true=>
     obtain⟨x',r,e,hh,_⟩:=(mt_cons h1).1 q
     cases e
     rcases hh with hh|hh
     . exact absurd hh h2
     . exact absurd hh h3
theorem MI.none {p k:List Bs} {i j f:Nat} {b:Int} {x:Bs} (h:MI p k i j b f) (hk:k[j]? = some x) (hb:b<0) (hm:∀ w,p[i]? = some w->w≠[35]/\w≠[42]/\w≠x):mt p k=false:=by
 have hbad:=h.bad hk hm
 cases q:mt p k with
 |false=>rfl
 |true=>rw[(h.no hb).1 q] at hbad;cases hbad
def Mail.zero:Mail:=⟨0,[],[],[],[],0,0⟩
def Reply.zero:Reply:=⟨0,0,0,0,false,[],Mail.zero⟩
structure RIn where
 s:Bs
 pos:Int
 code:Int
def RIn.cells (i:RIn):List Value:=[str i.s, .int .i64 i.pos, .int .i64 i.code]
section
variable {α:Type} [DecidableEq α] {a b ra rb:List α} {x y:α} {k:Nat}
end
section
variable {α:Type} {p:α->Bool} {a r:List α} {x:α} {k:Nat}
end
def tellsT:List Bs:=[[110],[],[],[65,110,120],[65],[65,110,109,120],[65],[65,79,112,104,121],[65,79,112,104,121],[65,79,112,104,121],[65,79,112,104,121],[65,107,104,109,98],[110],[65,110],[110],[65],[110,109,121],[],[],[],[]]
structure Rule where
 sort:Int
 key:Bs
 want:List Pair
 all:Bool
deriving DecidableEq
def Rule.cells (r:Rule) (a:Option Addr) (c:Nat):List Value:=[.int .u8 r.sort,str r.key, .slice a r.want.length c, .bool r.all]
def Rule.wf (r:Rule):Prop:=(0<=r.sort/\r.sort<=255)/\r.key.length<=9223372036854775807/\r.want.length<=9223372036854775807
structure Method where
 channel:Int
 kind:Int
 name:Bs
 other:Bs
 key:Bs
 head:List Pair
 body:Bs
 n:Int
 m:Int
 yes:Bool
deriving DecidableEq
def Method.cells (m:Method) (a:Option Addr) (c:Nat):List Value:=[.int .u8 m.channel, .int .u8 m.kind,str m.name,str m.other,str m.key, .slice a m.head.length c,str m.body, .int .u64 m.n, .int .u64 m.m, .bool m.yes]
def Method.wf (m:Method):Prop:=(0<=m.channel/\m.channel<=255)/\(0<=m.kind/\m.kind<=255)/\(0<=m.n/\m.n<=18446744073709551615)/\(0<=m.m/\m.m<=18446744073709551615)/\m.name.length<=9223372036854775807/\m.other.length<=9223372036854775807/\m.key.length<=9223372036854775807/\m.head.length<=9223372036854775807/\m.body.length<=9223372036854775807
structure Dj_ where
 name:Bs
 sort:Int
 to':Bs
deriving DecidableEq
def Dj_.cells (x:Dj_):List Value:=[str x.name, .int .u8 x.sort,str x.to']
def Dj_.wf (x:Dj_):Prop:=x.name.length<=9223372036854775807/\(0<=x.sort/\x.sort<=255)/\x.to'.length<=9223372036854775807
structure Cf_ where
 name:Bs
 most:Int
 life:Int
 dead:Bs
deriving DecidableEq
def Cf_.cells (x:Cf_):List Value:=[str x.name, .int .u64 x.most, .int .u64 x.life,str x.dead]
def Cf_.wf (x:Cf_):Prop:=x.name.length<=9223372036854775807/\(0<=x.most/\x.most<=18446744073709551615)/\(0<=x.life/\x.life<=18446744073709551615)/\x.dead.length<=9223372036854775807
structure Di_ where
 Eq_:Bs
 to':Bs
 up:Bool
 key:Bs
 want:List Pair
 all:Bool
deriving DecidableEq
def Di_.cells (x:Di_) (a:Option Addr) (c:Nat):List Value:=[str x.Eq_,str x.to', .bool x.up,str x.key, .slice a x.want.length c, .bool x.all]
def Di_.wf (x:Di_):Prop:=x.Eq_.length<=9223372036854775807/\x.to'.length<=9223372036854775807/\x.key.length<=9223372036854775807/\x.want.length<=9223372036854775807
structure E8_ where
 kind:Int
 tick:Int
 Eq_:Dj_
 queue:Cf_
 bind:Di_
 name:Bs
 id:Int
 how:Int
 frm:Int
 code:Int
 number:Int
 Ch_:Mail
 text:Bs
deriving DecidableEq
def E8_.cells (d:E8_) (a:Option Addr) (c:Nat) (a':Option Addr) (c':Nat):List Value:=
 [.int .u8 d.kind, .int .u64 d.tick,str d.Eq_.name, .int .u8 d.Eq_.sort,str d.Eq_.to',str d.queue.name, .int .u64 d.queue.most, .int .u64 d.queue.life,str d.queue.dead,
  str d.bind.Eq_,str d.bind.to', .bool d.bind.up,str d.bind.key, .slice a d.bind.want.length c, .bool d.bind.all,str d.name, .int .u64 d.id, .int .u8 d.how, .int .u8 d.frm, .int .u8 d.code, .int .u64 d.number,
  .int .u64 d.Ch_.id,str d.Ch_.Eq_,str d.Ch_.key, .slice a' d.Ch_.head.length c',str d.Ch_.body, .int .u64 d.Ch_.due, .int .u8 d.Ch_.hops,str d.text]
def E8_.wf (d:E8_):Prop:=(0<=d.kind/\d.kind<=255)/\(0<=d.tick/\d.tick<=18446744073709551615)/\d.Eq_.wf/\d.queue.wf/\d.bind.wf/\d.name.length<=9223372036854775807/\(0<=d.id/\d.id<=18446744073709551615)/\(0<=d.how/\d.how<=255)/\(0<=d.frm/\d.frm<=255)/\(0<=d.code/\d.code<=255)/\(0<=d.number/\d.number<=18446744073709551615)/\d.Ch_.wf/\d.text.length<=9223372036854775807
def Dj_.zero:Dj_:=⟨[],0,[]⟩
def Cf_.zero:Cf_:=⟨[],0,0,[]⟩
def Di_.zero:Di_:=⟨[],[],false,[],[],false⟩
structure E7_ where
 shops:List Dj_
 binds:List Di_
deriving DecidableEq
def E7_.cells (x:E7_) (a1:Option Addr) (c1:Nat) (a2:Option Addr) (c2:Nat):List Value:=[.slice a1 x.shops.length c1, .slice a2 x.binds.length c2]
def E7_.wf (x:E7_):Prop:=x.shops.length<=9223372036854775807/\x.binds.length<=9223372036854775807
def E7_.zero:E7_:=⟨[],[]⟩
structure Cn_ where
 l:List E8_
deriving DecidableEq
def Cn_.cells (x:Cn_) (a1:Option Addr) (c1:Nat):List Value:=[.slice a1 x.l.length c1]
def Cn_.wf (x:Cn_):Prop:=x.l.length<=9223372036854775807
def Cn_.zero:Cn_:=⟨[]⟩
def Feed.pc (x:Feed):List PV:=[.str x.rest, .int .i64 x.err]
instance :Inhabited Feed:=⟨⟨[],0⟩⟩
def Out.pc (x:Out):List PV:=[.str x.s, .int .i64 x.err]
instance :Inhabited Out:=⟨⟨[],0⟩⟩
def In.pc (x:In):List PV:=[.str x.s, .int .i64 x.err]
instance :Inhabited In:=⟨⟨[],0⟩⟩
def RIn.pc (x:RIn):List PV:=[.str x.s, .int .i64 x.pos, .int .i64 x.code]
instance :Inhabited RIn:=⟨⟨[],0,0⟩⟩
def Pair.pc (x:Pair):List PV:=[.str x.key, .int .u8 x.kind, .int .i64 x.num, .str x.text]
instance :Inhabited Pair:=⟨⟨[],0,0,[]⟩⟩
def Frame.pc (x:Frame):List PV:=[.int .u8 x.channel, .int .u8 x.kind, .str x.body]
instance :Inhabited Frame:=⟨⟨0,0,[]⟩⟩
def Dj_.pc (x:Dj_):List PV:=[.str x.name, .int .u8 x.sort, .str x.to']
instance :Inhabited Dj_:=⟨⟨[],0,[]⟩⟩
def Cf_.pc (x:Cf_):List PV:=[.str x.name, .int .u64 x.most, .int .u64 x.life, .str x.dead]
instance :Inhabited Cf_:=⟨⟨[],0,0,[]⟩⟩
def Di_.pc (x:Di_):List PV:=[.str x.Eq_, .str x.to', .bool x.up, .str x.key, .sl Pair.pc x.want, .bool x.all]
instance :Inhabited Di_:=⟨⟨[],[],false,[],[],false⟩⟩
def Rule.pc (x:Rule):List PV:=[.int .u8 x.sort, .str x.key, .sl Pair.pc x.want, .bool x.all]
instance :Inhabited Rule:=⟨⟨0,[],[],false⟩⟩
def Mail.pc (x:Mail):List PV:=[.int .u64 x.id, .str x.Eq_, .str x.key, .sl Pair.pc x.head, .str x.body, .int .u64 x.due, .int .u8 x.hops]
instance :Inhabited Mail:=⟨⟨0,[],[],[],[],0,0⟩⟩
def Reply.pc (x:Reply):List PV:=[.int .u8 x.channel, .int .u8 x.kind, .int .u64 x.n, .int .u64 x.m, .bool x.yes, .str x.name, .int .u64 x.Ch_.id, .str x.Ch_.Eq_, .str x.Ch_.key, .sl Pair.pc x.Ch_.head, .str x.Ch_.body, .int .u64 x.Ch_.due, .int .u8 x.Ch_.hops]
instance :Inhabited Reply:=⟨⟨0,0,0,0,false,[],⟨0,[],[],[],[],0,0⟩⟩⟩
def Method.pc (x:Method):List PV:=[.int .u8 x.channel, .int .u8 x.kind, .str x.name, .str x.other, .str x.key, .sl Pair.pc x.head, .str x.body, .int .u64 x.n, .int .u64 x.m, .bool x.yes]
instance :Inhabited Method:=⟨⟨0,0,[],[],[],[],[],0,0,false⟩⟩
def E8_.pc (x:E8_):List PV:=[.int .u8 x.kind, .int .u64 x.tick, .str x.Eq_.name, .int .u8 x.Eq_.sort, .str x.Eq_.to', .str x.queue.name, .int .u64 x.queue.most, .int .u64 x.queue.life, .str x.queue.dead, .str x.bind.Eq_, .str x.bind.to', .bool x.bind.up, .str x.bind.key, .sl Pair.pc x.bind.want, .bool x.bind.all, .str x.name, .int .u64 x.id, .int .u8 x.how, .int .u8 x.frm, .int .u8 x.code, .int .u64 x.number, .int .u64 x.Ch_.id, .str x.Ch_.Eq_, .str x.Ch_.key, .sl Pair.pc x.Ch_.head, .str x.Ch_.body, .int .u64 x.Ch_.due, .int .u8 x.Ch_.hops, .str x.text]
instance :Inhabited E8_:=⟨⟨0,0,⟨[],0,[]⟩,⟨[],0,0,[]⟩,⟨[],[],false,[],[],false⟩,[],0,0,0,0,0,⟨0,[],[],[],[],0,0⟩,[]⟩⟩
def E7_.pc (x:E7_):List PV:=[.sl Dj_.pc x.shops, .sl Di_.pc x.binds]
instance :Inhabited E7_:=⟨⟨[],[]⟩⟩
def Cn_.pc (x:Cn_):List PV:=[.sl E8_.pc x.l]
instance :Inhabited Cn_:=⟨⟨[]⟩⟩
end Go.SW
namespace Go.SW.V
open Go.SW
def lt {α β:Type} (a:α) (f:α->β):β:=f a
theorem lt_eq {α β:Type} {a r:α} {f:α->β} (h:r=a):lt a f=f r:=by subst h;rfl
inductive Lo (σ ρ:Type) where
 |fin (s:σ)
 |ret (r:ρ)
def lp1 {σ1 ρ β:Type} (o:Lo (σ1) ρ) (f:σ1->β) (g:ρ->β):β:=match o with
 | .fin s=>f s
 | .ret r=>g r
theorem lp1_fin {σ1 ρ β:Type} {l:β} {o:Lo (σ1) ρ} {f:σ1->β} {g:ρ->β} {a1:σ1} (h:l=lp1 o f g) (k:o = .fin a1):l=f a1:=by subst k;exact h
theorem lp1_ret {σ1 ρ β:Type} {l:β} {o:Lo (σ1) ρ} {f:σ1->β} {g:ρ->β} {r:ρ} (h:l=lp1 o f g) (k:o = .ret r):l=g r:=by subst k;exact h
theorem Lc_ {σ1 ρ β:Type} {l:β} {X:Lo (σ1) ρ} {f:σ1->β} {g:ρ->β} (h:l=lp1 X f g):∃ o,o=X/\l=lp1 o f g:=⟨_,rfl,h⟩
def lt1 {σ1 β:Type} (s:σ1) (f:σ1->β):β:=f s
theorem lt1_fin {σ1 β:Type} {l:β} {o:σ1} {f:σ1->β} {a1:σ1} (h:l=lt1 o f) (k:o=a1):l=f a1:=by subst k;exact h
theorem Ld_ {σ1 β:Type} {l:β} {X:σ1} {f:σ1->β} (h:l=lt1 X f):∃ o,o=X/\l=lt1 o f:=⟨_,rfl,h⟩
def lt2 {σ1 σ2 β:Type} (s:σ1×σ2) (f:σ1->σ2->β):β:=f s.1 s.2
theorem lt2_fin {σ1 σ2 β:Type} {l:β} {o:σ1×σ2} {f:σ1->σ2->β} {a1:σ1} {a2:σ2} (h:l=lt2 o f) (k:o=(a1,a2)):l=f a1 a2:=by subst k;exact h
theorem Le_ {σ1 σ2 β:Type} {l:β} {X:σ1×σ2} {f:σ1->σ2->β} (h:l=lt2 X f):∃ o,o=X/\l=lt2 o f:=⟨_,rfl,h⟩
def gt {α:Type} [Inhabited α] (xs:List α) (k:Nat):α:=xs.getD k default
theorem getG {α:Type} [Inhabited α] {xs:List α} {k:Nat} (h:k<xs.length):xs[k]? = some (gt xs k):=by
 rw[gt,List.getD_eq_getElem?_getD,List.getElem?_eq_getElem h];rfl
theorem F9_ {α:Type} [Inhabited α] {xs:List α} {k:Nat} (h:k<xs.length):xs.drop k=gt xs k::xs.drop (k+1):=dropE (getG h)
theorem gt_mem {α:Type} [Inhabited α] {xs:List α} {k:Nat} (h:k<xs.length):gt xs k∈xs:=List.mem_of_getElem? (getG h)
theorem G4_ {α:Type} {xs:List α} {k:Nat} (h:¬k<xs.length):xs.drop k=[]:=List.drop_of_length_le yY
theorem Cs_ {α τ:Type} {l:τ} {xs ys:List α} {f:List α->τ} {v:τ} (e:l=f xs) (h:xs=ys) (k:f ys=v):l=v:=by subst h;exact e.trans k
theorem Pk_ {α:Type} {p:PV} {a v:α} (f:α->PV) (e:a=v) (h:PLe p (f v)):PLe p (f a):=by subst e;exact h
variable {P:Program} {n:Nat} {N:Rest} {H0:Env} {all rest:List Oper} {Q:Qs} {ks:List Kt} {fF:Nat->PV} {fL:Nat->Blk} {T T' T2 ty d:Nat} {pos:String} {af:Array Edge} {x y z:Operand} {K:St->Prop} {op:Op} {p:PV}
theorem joinc {ι:Type} {X:Code} (keep kL:List Nat) (lv:ι->List (Nat×PV)) (lL:ι->List (Nat×Blk)) (Φ:ι->Prop) (h:Hd P n N H0 Q (.code X) (.lp (LJ (λx=>⟨mkF (lv x) keep fF,mkL (lL x) kL fL⟩) Φ (λ_=>0) 1)::ks) ⟨fF,fL⟩) (k:∀ x,Φ x->Hd P n N H0 Q (.ex .normal) ks ⟨mkF (lv x) keep fF,mkL (lL x) kL fL⟩):Hd P n N H0 Q (.code X) ks ⟨fF,fL⟩:=by
 intro F H L ha;refine C2_ (λe F' H' L' hq=>?_) (h F H L ha);obtain⟨s',ha',hq'⟩:=hq
 cases e with
 |normal=>obtain⟨x,h1,_,h3⟩:=hq';exact⟨_,h3 _ _ _ _ ha',k x h1⟩
 |_=>exact⟨s',ha',hq'⟩
theorem callv {α:Type} (g:α) (res:α->PV) {f:FuncId} {args:List PV} {xs:Array Operand} {ats:Array TypeId} (h:Fn P H0.g f args (res g)) (ha:argsP fF x xs.toList=some (f,args)) (hd:Nat.blt d n=true) (k:∀ r,r=g->(res r).wf->Hd P n N H0 Q (.ops all rest) ks ⟨updp fF d (res r),fL⟩):Hd P n N H0 Q (.ops all (⟨some d, .call ⟨.value x,xs,ats⟩,ty,pos,af,none⟩::rest)) ks ⟨fF,fL⟩:=call h ha hd (k g Y)
end Go.SW.V
namespace Go.SW
end Go.SW
namespace Go.SW.V
open Go.SW
end Go.SW.V
namespace Go.SW
open Go.ChangeShapes Go.WideShapes Go.ChangeAt Go.RowKit
def hp (w:World):Hp:=λb=>w.heap[b]?
def L9_ (w:World):Rest:=⟨λ_=>none,w.os,w.tape,w.output⟩
theorem mem0 (w:World):Mem (L9_ w) (hp w) l0 w:=
 {os:=rfl,tape:=rfl,output:=rfl,n:=λ_ _ h=>xM,h:=λ_ _ h=>h,l:=λ_ _ _ h=>xM,nh:=λ_ _ h=>xM,nl:=λ_ _ _ h=>xM,ll:=λ_ _ _ _ _ h=>xM}
theorem Je_ {w w':World} {L:Ls} (h:Mem (L9_ w) (hp w) L w'):Below w.heap.size w w':=by
 have hb:∀ k,k<w.heap.size->w'.heap[k]? = w.heap[k]? :=λk hk=>by
   have e:w.heap[k]? = some w.heap[k]:=Array.getElem?_eq_getElem hk
   rw[e];exact h.h k _ e
 refine⟨h.os,h.tape,h.output,?_,hb⟩;by_cases z:w.heap.size=0;omega;have :=hb (w.heap.size-1) yY;exact zZ
section
variable {Ht:Type} {enc:TypeId×Value->Ht} {P:Program} {w:World} {base fuel:Nat} {spare:Nat->Bool} {held:Bool} {cs:List Value} {x:DataW Ht×List MemPlace} {t:TypeId}
theorem rd_int {k:IntKind} (ht:P.underlying t=some (.int k)) (h:DataW.trod enc P w base spare held fuel t cs=some x):∃ z:Int,cs=[.int k z]/\k.min<=z/\z<=k.max:=by
 obtain⟨z,h1,_,h2⟩:=DataW.trod_int ht h;refine⟨z,h1,?_⟩;simp only[Lit.wf,Bool.and_eq_true,decide_eq_true_eq] at h2;exact h2
theorem rd_str (ht:P.underlying t=some .string) (h:DataW.trod enc P w base spare held fuel t cs=some x):∃ s:Bs,cs=[str s]/\s.length<=9223372036854775807:=by
 obtain⟨s,h1,_,h2⟩:=DataW.trod_string ht h;refine⟨s.data.toList,by rw[h1,I2_],?_⟩;have :s.data.toList.length=s.size:=Array.length_toList;rw[this];exact h2
theorem K2_ {α:Type} {Q:Nat->α->Prop}:∀ n,(∀ i,i<n->∃ r,Q i r)->∃ rs:List α,rs.length=n/\∀ i (h:i<rs.length),Q i rs[i]
 |0,_=>⟨[],rfl,λi h=>by cases h⟩
 |n+1,hq=>by
   obtain⟨rs,hl,hr⟩:=K2_ n (λi hi=>hq i yY)
   obtain⟨r,hr0⟩:=hq n yY
   refine⟨rs++[r],by simp[hl],λi hi=>?_⟩
   by_cases e:i<rs.length
   . rw[List.getElem_append_left e];exact hr i e
   . have :i=rs.length:=by simp at hi;omega
     subst this
     rw[List.getElem_append_right (Nat.le_refl _)]
     simp only[Nat.sub_self,List.getElem_cons_zero]
     rw[hl];exact hr0
theorem rd_fld {fs:Array Field} {xs:List (DataW Ht×List MemPlace)} {n i o k:Nat} {f:Field} {ft:TypeId} (hf:∀ (i:Nat) (f:Field),fs[i]? = some f->DataW.trod enc P w base spare held n f.type ((cs.drop f.offset).take (P.cellsOf f.type))=xs[i]?) (hl:xs.length=fs.size)
   (hi:fs[i]? = some f) (ho:f.offset=o) (ht:f.type=ft) (hk:P.cellsOf ft=k):∃ y,DataW.trod enc P w base spare held n ft ((cs.drop o).take k)=some y:=by
 have h:=hf i f hi;have hlt:i<fs.size:=(Array.getElem?_eq_some_iff.1 hi).1;rw[ho,ht,hk,List.getElem?_eq_getElem yY] at h;exact⟨_,h⟩
end
theorem L2_ {P:Program} {ts:Array TypeId} (h:(ts.toList.all λt=>P.readableRec t && decide (t<P.types.size))=true):∀ t∈ts.toList,P.readableRec t=true/\t<P.types.size:=λt ht=>by
 have :=List.all_eq_true.1 h t ht
 exact yR
def flatD:Nat->DataW Unit->List Value
 |_, .lit (.int k n)=>[.int k n]
 |_, .lit (.string s)=>[.string ⟨s.toArray⟩]
 |_, .lit (.bool b)=>[.bool b]
 |n+1, .agg l=>l.flatMap (flatD n)
 |_,_=>[]
def layD (d:DataW Unit):Obj->Obj
 | .cells _ t frozen=> .cells (flatD 5 d).toArray t frozen
 |o=>o
theorem F1_ {Ht:Type} {enc:TypeId×Value->Ht} {P:Program} (hl:laidOutB P=true) {W W':World} (hb:Below W.heap.size W W') {sp:Nat->Bool}:∀ {ts:List TypeId} {vs:List Value} {ds:List (DataW Ht)} {ps:List MemPlace},(∀ t∈ts,P.readableRec t=true/\t<P.types.size) ->
   DataW.TrodAll enc P W 0 (λ_=>true) true ts vs ds ps->(∀ x∈ps,x.block<W.heap.size)->(∀ x∈ps,sp x.block=true)->DataW.TrodAll enc P W' 0 sp true ts vs ds ps:=by
 intro ts
 induction ts with
 |nil=>intro vs ds ps _ h _ _;cases vs<;>cases ds<;>first|exact h|exact h.elim
 |cons t ts ih=>
   intro vs ds ps hr h hlt hsp
   obtain⟨v,vs',d,ds',p,q,rfl,rfl,rfl,h1,h2⟩:=trodAll_cons h
   exact trodAll_cons_mk (WideElems.Trod_stays hl (hr t xA).1 (hr t xA).2 h1 (λx hx=>hb.same (hlt x xH)) (λx hx=>hsp x xH)) (ih (λu hu=>hr u (by simp[hu])) h2 (λx hx=>hlt x xH) (λx hx=>hsp x xH))
section
variable {Ht:Type} {enc:TypeId×Value->Ht} {P:Program}
theorem Ni_ {f:Func} {s:ChangeSpec} {apart fresh again:Bool} {W W':World} {args:Array Value} {ds:List (DataW Ht)} {before:List MemPlace} {tb:TypeId} (hvars:s.vars=[])
   (hW:DataW.Whole enc P f.params.toList s.vars apart W args.toList ds [] before) (hb:Below W.heap.size W W') (hl:laidOutB P=true) (hr:∀ t∈f.params.toList,P.readableRec t=true/\t<P.types.size)
   (hres:f.resultTypes = #[tb]) (hu:P.underlying tb=some .bool) (hfn:s.fn Ht (ds++[])={results:=[.lit (.bool true)],args:=ds}):s.post enc P f apart fresh false again W args (.bool true) W':=by
 have hlt:∀ p∈before,p.block<W.heap.size:=λp hp=>hW.lt p hp;have hold:∀ p∈before,(λb=>decide (b<W.heap.size)) p.block=true:=λp hp=>by simpa using hlt p hp
 have hW0:=hW;obtain⟨p,q,hA,hV,rfl,hz,hn⟩:=hW0;have hq:q=[]:=by
   rw[hvars] at hV
   exact (trodVars_none hV).2
 subst hq;rw[List.append_nil] at hlt hold hz hn hW;have hA0:DataW.TrodAll enc P W 0 (λ_=>true) true f.params.toList args.toList ds p:=hA;have hargs:∀ sp:Nat->Bool,(∀ x∈p,sp x.block=true)->DataW.TrodAll enc P W' 0 sp true f.params.toList args.toList ds p:=λsp hs=>F1_ hl hb hr hA0 hlt hs;have hvs:∀ sp:Nat->Bool,DataW.TrodVars enc P W' sp s.vars ([]:List (DataW Ht)) []:=λsp=>by rw[hvars];rfl
 have hR:∀ (b:Nat) (sp:Nat->Bool) (hd:Bool),DataW.TrodAll enc P W' b sp hd f.resultTypes.toList ((Value.bool true).resultList f.resultTypes.size) [.lit (.bool true)] []:=λb sp hd=>by
   rw[hres]
   exact trodAll_mk1 (shut_bool hu true)
 have hok:∀ (j:Nat) (t:TypeId) (r:Value),f.resultTypes[j]? = some t->((Value.bool true).resultList f.resultTypes.size)[j]? = some r->Value.okWide P W' .any 0 t r:=ok_one hres Y (okWide_bool_mk hu true);refine⟨ds,[],p,[],p,[],hW,?_,?_,?_,World.keptBut_mono (λx hx=>⟨hx,Or.inr (by simpa using hx)⟩) (hb.frame (· ∈ p)),λ_=>?_⟩;rw[hfn];exact hR _ _ _;rw[hfn];exact hargs _ hold;rw[hfn];exact hvs _;refine⟨hok,_,_,([]++p)++[],⟨[]++p,[],trodAll_append (hargs _ (λ_ _=>rfl)) (hR _ _ _),hvs _,rfl,?_,?_⟩,?_⟩;intro b off hp;have hin:MemPlace.cell b off∈p:=by simpa using hp
 rw[hb.frozen (hlt _ hin)];exact hz b off hin;intro ha;have :=hn ha;exact yR;intro x hx _;simpa using hx
theorem Fl_ {w:World} {g:Nat} {t:TypeId} {zero:Array Value} (h:w.ShapedOpen P) (hg:g<P.globals.size)
   (h0:((begin P (λ_ _=>0) default).world.heap[g]?).bind Obj.row?=some (zero,t)) (hz:zero.size=1)
   (hb:P.buildable t=true) (hc:P.cellTypes P.depth t=some [t]) (hu:P.underlying t=some (.int .i64)):GInt (hp w) g:=by
 obtain⟨cs,hh,hs,hr⟩:=h.1 g zero t hg h0;obtain⟨ts,hts,_,hall⟩:=hr hb;rw[hc] at hts
 cases hts
 have h1:0<cs.size:=by omega
 obtain⟨u,hu',hok⟩:=hall 0 cs[0] (by simp[h1]);have :u=t:=by simpa using hu'.symm
 subst this;unfold Cell.ok at hok;rw[hu] at hok;have hv:∃ m,cs[0] = .int .i64 m:=by
   cases hv:cs[0]<;>rw[hv] at hok<;>first|exact⟨_,by rw[hok.1]⟩|simp at hok
 obtain⟨m,hm⟩:=hv;refine⟨m,u,(0,0),?_⟩;show w.heap[g]? = _;rw[hh];have e:cs = #[.int .i64 m]:=by
   apply Array.ext
   . simp;omega
   . intro i hi1 hi2
     have :i=0:=by simp at hi2;omega
     subst this
     simpa using hm
 rw[e]
theorem Kr_ {w:World} {g n:Nat} {name:String} {k:IntKind} {zs:List Int} {rest:List (String×DataW Unit)} {t e:TypeId} (hg:P.globalNamed name=some g) (hty:(P.globals[g]?).map (·.type)=some t) (ht:P.underlying t=some (.array n e)) (he:P.underlying e=some (.int k)) (hce:P.cellsOf e=1) (hct:P.cellsOf t=n)
   (h:laidMet P ((name,Lib.tabData k zs)::rest) w):∃ T fr,hp w g=some (.cells (zs.map (Value.int k)).toArray T fr):=by
 have hT:=Lib.tabIs_of_head hg hty ht he hce hct h;unfold Lib.TabIs World.var? at hT;rw[hg] at hT;simp only[Option.bind_some] at hT
 split at hT
 . rename_i cs T fr hh
   cases hT
   exact⟨T,fr,hh⟩
 . cases hT
end
variable {P:Program}
theorem J5_ {Ht:Type} {enc:TypeId×Value->Ht} {w:World} {base fuel:Nat} {spare:Nat->Bool} {held:Bool} {a:Option Addr} {l c:Nat} {x:DataW Ht×List MemPlace} {t e:TypeId} (ht:P.underlying t=some (.slice e))
   (h:DataW.trod enc P w base spare held fuel t [.slice a l c]=some x):x.1 = .nil/\l=0\/∃ el sp,x.1 = .slice el sp/\el.length=l:=by
 rcases Go.Deep.open_slice ht h with ⟨h1,h2⟩|⟨a',len,cap,m,nf,D,Pl,h1,_,hl,hm,hmm,hx,_⟩
 . cases h1;subst h2;exact .inl ⟨rfl,rfl⟩
 . cases h1;subst hx;exact .inr ⟨_,_,rfl,by simp⟩
theorem Gr_ {w:World} {r:Reach} {b0:Nat} {t e:TypeId} {v:Value} {a:Option Addr} {l c:Nat} (hs:P.underlying t=some (.slice e)) (hv:Value.okWide P w r b0 t v) (he:v.cells.toList=[.slice a l c]):v = .slice a l c:=by
 unfold Value.okWide at hv;rw[hs] at hv;simp only at hv;unfold Cell.okWide at hv;rw[hs] at hv
 cases v with
 |agg cs=>simp[Cell.ok,hs] at hv
 |_=>exact (List.cons.inj he).1
end Go.SW
namespace Go.SW
open Go.ChangeShapes Go.WideShapes Go.ChangeAt Go.RowKit
variable {P:Program}
def Rdv {α:Type} (P:Program) (t:TypeId) (en:α->List PV) (k:Nat):Prop:=
 ∀ (Ht:Type) (enc:TypeId×Value->Ht) (w:World) (base:Nat) (spare:Nat->Bool) (held:Bool) (fuel:Nat) (cs:List Value) (x:DataW Ht×List MemPlace),
   DataW.trod enc P w base spare held fuel t cs=some x->(∀ n∈x.1.weights P t,n<=reachBytes)->∃ r:α,RowE en k (hp w) r cs
theorem N2_ {α:Type} {en:α->List PV} {H:Hp} {r:α} {p:PV} {v:Value} (he:en r=[p]) (h:Sim H p v) (ho:v.oneCell'=true):RowE en 1 H r [v]:=
 ⟨by rw[he];rfl,by rw[he];exact Sims.nil.cons h,λu hu=>by rw[List.mem_singleton.1 hu];exact ho⟩
theorem Ed_ {k:IntKind} {t:TypeId} (ht:P.underlying t=some (.int k)):Rdv P t (λz:Int=>[.int k z]) 1:=λ_ _ _ _ _ _ _ _ _ h _=>by
 obtain⟨z,rfl,h1,h2⟩:=rd_int ht h
 exact⟨z,N2_ Y (.int h1 h2) Y⟩
theorem rdv_str {t:TypeId} (ht:P.underlying t=some .string):Rdv P t (λs:Bs=>[.str s]) 1:=λ_ _ _ _ _ _ _ _ _ h _=>by
 obtain⟨s,rfl,h1⟩:=rd_str ht h
 exact⟨s,N2_ Y (.str h1) Y⟩
theorem Ci_ {H:Type} {e:TypeId}:∀ {ds:List (DataW H)} {d:DataW H} {n:Nat},d∈ds->n∈d.weights P e->n∈DataW.weightsAll P e ds
 |[],_,_,h,_=>by cases h
 |d0::r,d,n,h,hn=>by
   simp only[DataW.weightsAll,List.mem_append]
   rcases List.mem_cons.1 h with rfl|q
   . exact .inl hn
   . exact .inr (Ci_ q hn)
theorem Gs_ {α:Type} {en:α->List PV} {k:Nat} {t e:TypeId} (ht:P.underlying t=some (.slice e)) (hk:P.cellsOf e=k) (h0:0<k) (hb:0<P.bytesOf e) (he:Rdv P e en k):Rdv P t (λxs:List α=>[.sl en xs]) 1:=λHt enc w base spare held fuel cs x h hw=>by
 have hlen:∀ {a:Option Addr} {l c:Nat},cs=[.slice a l c]->l<=140737488355328:=λ{a l c} hcs=>by
   subst hcs
   rcases J5_ ht h with ⟨_,rfl⟩|⟨el,sp,hx,rfl⟩
   . exact Nat.zero_le _
   . have :=hw ((el.length+sp.length)*P.bytesOf e) (by rw[hx];simp[DataW.weights,ht])
     have h1:el.length<=(el.length+sp.length)*P.bytesOf e:=Nat.le_trans (Nat.le_add_right _ _) (Nat.le_mul_of_pos_right _ hb)
     have h2:reachBytes=140737488351232:=by decide
     omega
 rcases Go.Deep.open_slice ht h with ⟨h1,_⟩|⟨a,len,cap,m,nf,D,Pl,h1,_,hl,hm,hmm,hx,hi⟩
 . subst h1
   exact⟨[],N2_ Y (Sim.of_slh (k:=0) Mi_ xA) rfl⟩
 . have hs0:0<len->a=⟨a.block,a.off,none⟩:=by
     intro hl0
     obtain⟨cs',hc,hT⟩:=hi 0 (by rw[hmm];split<;>omega)
     rw[hk,Nat.zero_mul] at hc
     obtain⟨_,hcl,hat⟩:=World.cells?_some hc
     have ha0:=hat 0 h0
     rw[List.getElem?_eq_getElem yY] at ha0
     obtain⟨ab,ao,asp⟩:=a
     cases asp with
     |none=>rfl
     |some z=>
       exfalso
       unfold World.cell? at ha0
       simp only[Addr.add] at ha0
       split at ha0<;>simp at ha0
   have hwD:∀ i,i<len->∀ n∈(D i).weights P e,n<=reachBytes:=λi hil n hn=>by
     refine hw n ?_
     rw[hx]
     simp only[DataW.weights,ht,List.mem_cons,List.mem_append]
     exact .inr (.inl (Ci_ (List.mem_map.2 ⟨i,List.mem_range.2 hil,rfl⟩) hn))
   have key:∀ i,i<len->∃ r:α,∃ cs',RowE en k (hp w) r cs'/\SlAt (hp w) (.slice (some a) len cap) k i cs':=by
     intro i hil
     have ha:=hs0 yY
     obtain⟨cs',hc,hT⟩:=hi i (by rw[hmm];split<;>omega)
     obtain⟨r,hr⟩:=he _ _ _ _ _ _ _ _ _ hT (hwD i hil)
     rw[hk] at hc
     obtain⟨_,hcl,hat⟩:=World.cells?_some hc
     refine⟨r,cs',hr,?_⟩
     generalize a.block=ab at ha
     generalize a.off=ao at ha
     subst ha
     simp only[M_] at hat
     have ha0:=hat 0 h0
     rw[List.getElem?_eq_getElem yY] at ha0
     unfold World.cell? at ha0
     simp only at ha0
     split at ha0
     . rename_i c T fr hb
       refine⟨ab,ao,len,cap,c,T,fr,rfl,hb,hcl,λj hj=>?_⟩
       have :=hat j hj
       unfold World.cell? at this
       simp only at this
       rw[hb] at this
       exact yR
     . cases ha0
   obtain⟨rs,hlen',hr⟩:=K2_ (Q:=λi (r:α)=>∃ cs',RowE en k (hp w) r cs'/\SlAt (hp w) (.slice (some a) len cap) k i cs') len key
   have hs:SlH (RowE en k) k (hp w) (.slice (some a) rs.length cap) rs:=⟨⟨some a,cap,rfl,by omega⟩,λi hi=>by rw[hlen'];exact hr i hi⟩
   subst h1
   have hle:=hlen (rfl :[Value.slice (some a) len cap]=_)
   refine⟨rs,N2_ Y (v:= .slice (some a) len cap) (by rw[<- hlen'];exact Sim.of_slh hs yY) Y⟩
theorem N4_ {ps qs:List PV} {H:Hp} {cs ds:List Value} {m n:Nat} (h:ps.length=m/\Sims H ps cs/\∀ u∈cs,u.oneCell'=true) (k:qs.length=n/\Sims H qs ds/\∀ u∈ds,u.oneCell'=true):(ps++qs).length=m+n/\Sims H (ps++qs) (cs++ds)/\∀ u∈cs++ds,u.oneCell'=true:=
 ⟨by simp[h.1,k.1],h.2.1.append k.2.1,λu hu=>by rcases List.mem_append.1 hu with q|q;exact h.2.2 u q;exact k.2.2 u q⟩
theorem Db_ {Ht:Type} {enc:TypeId×Value->Ht} {w:World} {base:Nat} {spare:Nat->Bool} {held:Bool} {cs:List Value} {t:TypeId} {fs:Array Field} {xs:List (DataW Ht×List MemPlace)} {n i o k:Nat} {f:Field} {ft:TypeId} {α:Type} {en:α->List PV} (ht:P.underlying t=some (.struct fs))
   (hf:∀ (i:Nat) (f:Field),fs[i]? = some f->DataW.trod enc P w base spare held n f.type ((cs.drop f.offset).take (P.cellsOf f.type))=xs[i]?) (hl:xs.length=fs.size) (hw:∀ q∈(DataW.agg (xs.map (·.1)):DataW Ht).weights P t,q<=reachBytes)
   (hi:fs[i]? = some f) (ho:f.offset=o) (hft:f.type=ft) (hk:P.cellsOf ft=k) (hr:Rdv P ft en k):∃ r,RowE en k (hp w) r ((cs.drop o).take k):=by
 obtain⟨y,hy⟩:=rd_fld hf hl hi ho hft hk;refine hr _ _ _ _ _ _ _ _ _ hy λq hq=>hw q ?_;have h:=hf i f hi;rw[ho,hft,hk,hy] at h;simp only[DataW.weights,ht];refine DataW.weights_mem_each (j:=i) (t:=ft) (d:=y.1) ?_ ?_ q hq;rw[List.getElem?_map,Array.getElem?_toList,hi];simp[hft];rw[List.getElem?_map,<- h];rfl
theorem Ef_ {en:List PV} {H:Hp} {cs:List Value} {o k:Nat} {q:Nat} (h:en.length=k/\Sims H en ((cs.drop o).take k)/\∀ u∈(cs.drop o).take k,u.oneCell'=true) {es:List PV} (hr:es.length=q/\Sims H es (cs.drop (o+k))/\∀ u∈cs.drop (o+k),u.oneCell'=true):(en++es).length=k+q/\Sims H (en++es) (cs.drop o)/\∀ u∈cs.drop o,u.oneCell'=true:=by
 have :=N4_ h hr;rw[<- List.drop_drop,List.take_append_drop] at this;exact this
theorem N3_ {en:List PV} {H:Hp} {cs:List Value} {o k:Nat} (hl:cs.length=o+k) (h:en.length=k/\Sims H en ((cs.drop o).take k)/\∀ u∈(cs.drop o).take k,u.oneCell'=true):en.length=k/\Sims H en (cs.drop o)/\∀ u∈cs.drop o,u.oneCell'=true:=by
 rw[List.take_of_length_le xD] at h;exact h
section
variable {Ht:Type} {enc:TypeId×Value->Ht} {w:World} {r:Reach} {b0 base:Nat} {spare:Nat->Bool} {held:Bool} {t:TypeId} {v:Value} {d:DataW Ht} {p:List MemPlace}
theorem arg_sl {α:Type} {en:α->List PV} {e:TypeId} (hs:P.underlying t=some (.slice e)) (hv:Value.okWide P w r b0 t v) (h:DataW.Trod enc P w base spare held t v d p) (hw:∀ q∈d.weights P t,q<=reachBytes) (hr:Rdv P t (λxs:List α=>[.sl en xs]) 1):∃ z:List α,Sim (hp w) (.sl en z) v:=by
 obtain⟨fuel,h1⟩:=h;obtain⟨z,h2⟩:=hr _ _ _ _ _ _ _ _ _ h1 hw;obtain⟨u,us,e1,h3,h4⟩:=h2.2.1.inv_cons
 cases h4.inv_nil
 have :∃ a l c,u = .slice a l c:=by cases h3;exact⟨_,_,_,rfl⟩
 obtain⟨a,l,c,rfl⟩:=this;obtain rfl :=Gr_ hs hv e1;exact⟨z,h3⟩
theorem wt_arg {ts:List TypeId} {ds:List (DataW Ht)} {j:Nat} (hw:(DataW.weightsEach P ts ds).all (· <= reachBytes)=true) (ht:ts[j]? = some t) (hd:ds[j]? = some d):∀ q∈d.weights P t,q<=reachBytes:=λq hq=>by
 have :=List.all_eq_true.1 hw q (DataW.weights_mem_each ht hd q hq)
 exact yR
end
theorem law_run {G:Gb} {f:FuncId} {args:List PV} {b:Bool} {vs:List Value} {W:World} (h:Fn P G f args (.bool b)) (hg:G.p (hp W)) (hs:Sims (hp W) args vs) (hb:b=true):Calls P f vs.toArray W λe W'=>e = .returned (.bool true)/\Mem (L9_ W) (hp W) l0 W':=
 (h.run (L9_ W) (hp W) l0 W vs hg hs (mem0 W)).mono λ_ _ ⟨v,H',h1,h2,h3,h4⟩=>⟨by rw[h1,h2.inv_bool,hb],h4.le h3⟩
end Go.SW
namespace Go.SW.V
open Go.SW
variable {P:Program} {n m:Nat} {N:Rest} {H0:Env} {all rest:List Oper} {Q:Qs} {ks:List Kt} {fF gF:Nat->PV} {fL gL:Nat->Blk} {T ty d:Nat} {pos:String} {af:Array Edge} {x y z:Operand}
end Go.SW.V
namespace Go.SW.V
open Go.SW
variable {P:Program} {n:Nat} {N:Rest} {H0:Env} {all rest:List Oper} {Q:Qs} {ks:List Kt} {fF:Nat->PV} {fL:Nat->Blk} {T ty d:Nat} {pos:String} {af:Array Edge} {x y z:Operand} {K:St->Prop}
end Go.SW.V
namespace Go.SW.V
open Go.SW
variable {P:Program} {n:Nat} {N:Rest} {H0:Env} {all rest:List Oper} {Q:Qs} {ks:List Kt} {fF:Nat->PV} {fL:Nat->Blk} {T ty d:Nat} {pos:String} {af:Array Edge} {x y z:Operand} {K:St->Prop}
end Go.SW.V
namespace Go.SW
structure Jp_ where
 level:Int
 set_:Int
deriving DecidableEq,Inhabited
def Jp_.pc (x:Jp_):List PV:=[.int .u8 x.level, .int .u32 x.set_]
structure Hz_ where
 name:Bs
 label:Jp_
 bytes:Int
 base:Int
deriving DecidableEq,Inhabited
def Hz_.pc (x:Hz_):List PV:=[.str x.name, .int .u8 x.label.level, .int .u32 x.label.set_, .int .i64 x.bytes, .int .u64 x.base]
structure Hy_ where
 frm:Int
 to':Int
 budget:Int
deriving DecidableEq,Inhabited
def Hy_.pc (x:Hy_):List PV:=[.int .i64 x.frm, .int .i64 x.to', .int .i64 x.budget]
structure A_ where
 kind:Int
 place:Int
 client:Int
 chunk:Bs
 a:Int
 b:Int
deriving DecidableEq,Inhabited
def A_.pc (x:A_):List PV:=[.int .u8 x.kind, .int .i64 x.place, .int .u64 x.client, .str x.chunk, .int .i64 x.a, .int .i64 x.b]
end Go.SW
namespace Go.SW.V
open Go.SW
theorem mg_step {more more1:Bool} {k:Int} {f:Nat} (h:(bif more then 82-k.toNat else 0)<f+1) (hm:more=true) (h0:0<=k) (h1:k<=80) (hq:more1=true->k<80):(bif more1 then 82-(k+1).toNat else 0)<f:=by
 subst hm;simp only[cond_true] at h
 cases more1 with
 |true=>have :=hq Y;simp only[cond_true];omega
 |false=>simp only[cond_false];omega
end Go.SW.V
namespace Go.SW
end Go.SW
namespace Go.SW.V
open Go.SW
variable {P:Program} {n:Nat} {N:Rest} {H0:Env} {all rest:List Oper} {Q:Qs} {ks:List Kt} {fF:Nat->PV} {fL:Nat->Blk} {T ty d:Nat} {pos:String} {af:Array Edge} {x y z:Operand} {K:St->Prop}
end Go.SW.V
namespace Go.SW
variable {P:Program} {n:Nat} {N:Rest} {H0:Env} {Q:Qs} {ks:List Kt} {s:St}
end Go.SW
namespace Go.SW
variable {P:Program} {n:Nat} {N:Rest} {H0:Env} {all:List Oper} {Q:Qs} {ks:List Kt} {s:St}
end Go.SW
namespace Go.SW.V
open Go.SW
variable {P:Program} {n:Nat} {N:Rest} {H0:Env} {all:List Oper} {Q:Qs} {ks:List Kt} {fF:Nat->PV} {fL:Nat->Blk}
end Go.SW.V
namespace Go.SW
variable {P:Program} {n:Nat} {N:Rest} {H0:Env} {all:List Oper} {Q:Qs} {ks:List Kt} {s:St}
end Go.SW
namespace Go.SW.V
open Go.SW
variable {P:Program} {n:Nat} {N:Rest} {H0:Env} {all:List Oper} {Q:Qs} {ks:List Kt} {fF:Nat->PV} {fL:Nat->Blk}
end Go.SW.V
namespace Go.SW.V
open Go.SW
variable {P:Program} {n:Nat} {N:Rest} {H0:Env} {all:List Oper} {Q:Qs} {ks:List Kt} {fF:Nat->PV} {fL:Nat->Blk} {T ty:Nat} {x y:Operand}
end Go.SW.V
namespace Go.SW
variable {P:Program} {n:Nat} {N:Rest} {H0:Env} {all rest:List Oper} {Q:Qs} {ks:List Kt} {s:St} {T ty d:Nat} {pos:String} {af:Array Edge} {x y:Operand} {K:St->Prop} {op:Op} {p:PV}
end Go.SW
namespace Go.SW.V
open Go.SW
variable {P:Program} {n:Nat} {N:Rest} {H0:Env} {ks:List Kt} {fF:Nat->PV} {fL:Nat->Blk} {tb:Tb} {rs:List ResultVar} {res p q r t u:PV} {as0 bs:List Nat}
end Go.SW.V
namespace Go.SW.V
open Go.SW
def X_ (l:List A_):List A_->Bool
 |[]=>(decide ((l.length:Int)<=80))
 | x::t=>(bif decide (1200<((x.chunk).length:Int)) then
 false
 else X_ l t)
def Z_ (l:List A_):Bool:=
 X_ l l
def T_ (k:Int):List (List A_)->List A_->Bool->(List A_)×Bool
 |[],out2,more2=>(out2,more2)
 | x::t,out2,more2=>(bif decide (k<(x.length:Int)) then
 T_ k t (out2++[(gt x ((k).toNat))]) true
 else T_ k t out2 more2)
def Ai_ (lists:List (List A_)):Nat->List A_->Int->Bool->(List A_)
 |0,_,_,_=>default
 | f2+1,out,k,more=>(bif more then
 (lt2 (T_ k lists out false) (λout1 more1=>
 Ai_ lists f2 out1 (k+1) more1))
 else out)
def A2_ (lists:List (List A_)):(List A_):=
 Ai_ lists ((bif true then 82-((0:Int)).toNat else 0)+1) [] 0 true
def U_ (k1:Nat):List (List A_)->List A_->(List A_)
 |[],out2=>out2
 | x::t,out2=>(bif decide ((k1:Int)<(x.length:Int)) then
 U_ k1 t (out2++[(gt x k1)])
 else U_ k1 t out2)
def Af_ (lists:List (List A_)) (most:Int):Nat->List A_->Nat->(List A_)
 |0,_,_=>default
 | f2+1,out,k1=>(bif decide ((k1:Int)<most) then
 (lt1 (U_ k1 lists out) (λout1=>
 Af_ lists most f2 out1 (k1+1)))
 else out)
def Y_ (lists:List (List A_)):List (List A_)->Int->(List A_)
 |[],most=>Af_ lists most ((most-(0:Int)).toNat+1) [] 0
 |x1::t1,most=>Y_ lists t1 (max most (x1.length:Int))
def A8_ (lists:List (List A_)):(List A_):=
 Y_ lists lists 0
theorem lm_t {α:Type} [Inhabited α] {l:List α} {k:Nat} (h:k<l.length):l.take (k+1)=l.take k++[gt l k]:=by
 rw[List.take_add_one,getG h];rfl
theorem lm_a {α:Type} [Inhabited α] {l q q1:List α} {k:Nat} (h:k<l.length) (e:q=l.take k) (e1:q1=q++[gt l k]):q1=l.take (k+1):=by rw[e1,e,lm_t h]
theorem lm_b {l:List (List A_)} {k:Nat} (h:k<l.length) (a:∀ y∈l.take k,Z_ y=true) (b:Z_ (gt l k)=true):∀ y∈l.take (k+1),Z_ y=true:=λy hy=>by
 rw[lm_t h,List.mem_append] at hy
 rcases hy with hy|hy
 . exact a y hy
 . rw[List.mem_singleton.1 hy];exact b
theorem Hc_ {l:List A_} (h:Z_ l=true):l.length<=80:=by
 unfold Z_ at h;have :∀ t:List A_,X_ l t=true->l.length<=80:=λt=>by
   induction t with
   |nil=>intro h;simp only[X_,decide_eq_true_eq] at h;omega
   |cons x t ih=>
     intro h
     simp only[X_] at h
     cases q:decide (1200<(x.chunk.length:Int)) with
     |true=>rw[q] at h;cases h
     |false=>rw[q] at h;exact ih h
 exact this l h
theorem Oz_ {l:List (List A_)} {k:Nat} (hk:¬k<l.length) (hl:¬10<(l.length:Int)) (a:∀ y∈l.take k,Z_ y=true):l.length<=10/\∀ y∈l,y.length<=80:=by
 rw[List.take_of_length_le yY] at a;exact⟨by omega,λy hy=>Hc_ (a y hy)⟩
def J_ (q:List (List A_)):List A_->List A_->Lo (List (List A_)) Bool
 |[],m=> .fin (q++[m])
 |x::t,m=>J_ q t (m++[x])
def K_ (r:(List A_)) (r1:(List A_)):List A_->Nat->Bool
 |[],k2=>(decide ((r.length:Int)=(r1.length:Int)))
 | x1::t1,k2=>(bif ((decide ((r1.length:Int)<=(k2:Int)))||(!decide (x1=(gt r1 k2)))) then
 false
 else K_ r r1 t1 (k2+1))
def I_ (lists:List (List A_)):List (List A_)->List (List A_)->Bool
 |[],q=>lt (A2_ lists) λr=>
 lt (A8_ q) λr1=>
 K_ r r1 r 0
 | x2::t2,q=>(lp1 ((bif !(Z_ x2) then
 .ret true
 else J_ q x2 [])) (λq1=>
 I_ lists t2 q1) (λr=>r))
def Al_ (lists:List (List A_)):Bool:=
 (bif decide (10<(lists.length:Int)) then
 true
 else I_ lists lists [])
variable {P:Program} {n:Nat} {N:Rest} {H0:Env} {all rest:List Oper} {Q:Qs} {ks:List Kt} {fF:Nat->PV} {fL:Nat->Blk} {T ty d:Nat} {pos:String} {af:Array Edge} {x y z:Operand} {K:St->Prop}
structure EfR where
 F:Nat->PV
 L:Nat->Blk
 eq:Option (Nat×Nat)
def mkE (tb:Tb) (n:Nat) (i b:Nat) (F:Nat->PV) (L:Nat->Blk) (o:Oper):Option EfR:=
 match o.guard with
 |some _=>none
 |none=>match o.dst with
   |none=>none
   |some d=>match Nat.blt d n with
     |false=>none
     |true=>match o.op with
       | .alloc T=>match lkT tb T with
         |some ti=>match evL ti.zero with
           |some zs=>match Am_ zs with
             |true=>some ⟨updp F d (.own i b 0),lups L i (.box b T zs),none⟩
             |false=>none
           |none=>none
         |none=>none
       | .box T x=>match evP F x with
         | .agg cs=>match Am_ cs with
           |true=>some ⟨updp F d (.own i b 0),lups L i (.box b T cs),none⟩
           |false=>none
         |v=>match evS v with
           |some p=>match p.one with
             |true=>some ⟨updp F d (.own i b 0),lups L i (.box b T [p]),none⟩
             |false=>none
           |none=>none
       |_=>none
def stE (tb:Tb) (F:Nat->PV) (L:Nat->Blk) (o:Oper):Option EfR:=
 match o.guard with
 |some _=>none
 |none=>match o.dst with
   |some _=>none
   |none=>match o.op with
     | .store T x y=>match evP F x with
       | .own i b off=>match L i with
         | .box b' T0 cs=>match lkT tb T with
           |some ti=>match evP F y with
             | .agg ps=>match Am_ ps with
               |true=>match all1 ps with
                 |true=>match Nat.beq ps.length ti.size with
                   |true=>match Nat.ble (off+ti.size) cs.length with
                     |true=>match evL (cs.take off++(ps++cs.drop (off+ti.size))) with
                       |some cs'=>some ⟨F,lups L i (.box b T0 cs'),some (b',b)⟩
                       |none=>none
                     |false=>none
                   |false=>none
                 |false=>none
               |false=>none
             |v=>match Nat.beq ti.size 1 with
               |true=>match evS v with
                 |some p=>match p.one with
                   |true=>match Nat.blt off cs.length with
                     |true=>match evL (cs.set off p) with
                       |some cs'=>some ⟨F,lups L i (.box b T0 cs'),some (b',b)⟩
                       |none=>none
                     |false=>none
                   |false=>none
                 |none=>none
               |false=>none
           |none=>none
         |_=>none
       |_=>none
     |_=>none
def kindE (o:Op):Nat:=
 match o with
 | .alloc _=>0
 | .box _ _=>0
 | .store _ _ _=>1
 |_=>2
def runE (tb:Tb) (n:Nat):Nat->List Nat->(Nat->Nat)->Cf->List Kt->(Nat->PV)->(Nat->Blk)->List Prop->List Nat->List Nat->Option RR
 |0,_,_,c,ks,F,L,ps,as0,bs=>frcP ps λps=>frcN as0 λas0=>frcN bs λbs=>some ⟨c,ks,F,L,ps,as0,bs⟩
 |k+1,is,B,c,ks,F,L,ps,as0,bs=>
   match c with
   | .ops all (o::rest)=>match kindE o.op with
     |0=>match is with
       |[]=>none
       |i::is=>match mkE tb n i (B 0) F L o with
         |some ⟨F,L,_⟩=>runE tb n k is (λi=>B (i+1)) (.ops all rest) ks F L ps as0 bs
         |none=>none
     |1=>match stE tb F L o with
       |some ⟨F,L,e⟩=>match e with
         |some (a,b)=>runE tb n k is B (.ops all rest) ks F L ps (a::as0) (b::bs)
         |none=>none
       |none=>none
     |_=>match run tb n 1 (.ops all (o::rest)) ks F L ps as0 bs with
       |some ⟨c,ks,F,L,ps,as0,bs⟩=>runE tb n k is B c ks F L ps as0 bs
       |none=>none
   |c=>match run tb n 1 c ks F L ps as0 bs with
     |some ⟨c,ks,F,L,ps,as0,bs⟩=>runE tb n k is B c ks F L ps as0 bs
     |none=>none
theorem mkE_ok {tb:Tb} (ht:tbB P tb=true) {i:Nat} {F:Nat->PV} {L:Nat->Blk} {o:Oper} (h:∀ b,∃ r,mkE tb n i b F L o=some r/\Hd P n N H0 Q (.ops all rest) ks ⟨r.F,r.L⟩):Hd P n N H0 Q (.ops all (o::rest)) ks ⟨F,L⟩:=by
 obtain⟨dst,op,ty,pos,af,g⟩:=o;have h0:=h 0
 cases g with
 |some q=>obtain⟨r,h1,_⟩:=h0;simp[mkE] at h1
 |none=>
   cases dst with
   |none=>obtain⟨r,h1,_⟩:=h0;simp[mkE] at h1
   |some d=>
     cases hd:Nat.blt d n with
     |false=>obtain⟨r,h1,_⟩:=h0;simp[mkE,hd] at h1
     |true=>
       cases op with
       |alloc T=>
         simp only[mkE,hd] at h
         cases hti:lkT tb T with
         |none=>rw[hti] at h;obtain⟨r,h1,_⟩:=h 0;simp at h1
         |some ti=>
           rw[hti] at h
           simp only at h
           cases hz:evL ti.zero with
           |none=>rw[hz] at h;obtain⟨r,h1,_⟩:=h 0;simp at h1
           |some zs=>
             rw[hz] at h
             simp only at h
             cases hn:Am_ zs with
             |false=>rw[hn] at h;obtain⟨r,h1,_⟩:=h 0;simp at h1
             |true=>
               rw[hn] at h
               refine ef (alloc ht i hti hz hn hd λb=>?_)
               obtain⟨r,h1,h2⟩:=h b
               simp only[Option.some.injEq] at h1
               subst h1;exact h2
       |box T x=>
         simp only[mkE,hd] at h
         split at h
         . rename_i cs hx
           cases hn:Am_ cs with
           |false=>rw[hn] at h;obtain⟨r,h1,_⟩:=h 0;simp at h1
           |true=>
             rw[hn] at h
             refine ef (boxA i hx hn hd λb=>?_)
             obtain⟨r,h1,h2⟩:=h b
             simp only[Option.some.injEq] at h1
             subst h1;exact h2
         . cases hs:evS (evP F x) with
           |none=>rw[hs] at h;obtain⟨r,h1,_⟩:=h 0;simp at h1
           |some p=>
             rw[hs] at h
             simp only at h
             cases ho:p.one with
             |false=>rw[ho] at h;obtain⟨r,h1,_⟩:=h 0;simp at h1
             |true=>
               rw[ho] at h
               refine ef (box1 i hs ho hd λb=>?_)
               obtain⟨r,h1,h2⟩:=h b
               simp only[Option.some.injEq] at h1
               subst h1;exact h2
       |_=>obtain⟨r,h1,_⟩:=h0;simp[mkE,hd] at h1
theorem stE_ok {tb:Tb} (ht:tbB P tb=true) {F:Nat->PV} {L:Nat->Blk} {o:Oper} {r:EfR} (h:stE tb F L o=some r) (he:∀ q,r.eq=some q->q.1=q.2) (k:Hd P n N H0 Q (.ops all rest) ks ⟨r.F,r.L⟩):Hd P n N H0 Q (.ops all (o::rest)) ks ⟨F,L⟩:=by
 obtain⟨dst,op,ty,pos,af,g⟩:=o
 cases g with
 |some q=>simp[stE] at h
 |none=>
   cases dst with
   |some d=>simp[stE] at h
   |none=>
     cases op with
     |store T x y=>
       simp only[stE] at h
       split at h
       . rename_i i b off hx
         split at h
         . rename_i b' T0 cs hb
           split at h
           . rename_i ti hti
             split at h
             . rename_i ps hy
               split at h
               . rename_i hn
                 split at h
                 . rename_i ho
                   split at h
                   . rename_i hsz
                     split at h
                     . rename_i hl
                       split at h
                       . rename_i cs' hc
                         simp only[Option.some.injEq] at h
                         subst h
                         exact ef (storeA ht hx hb hti hy hn ho (Nat.eq_of_beq_eq_true hsz) hl (he _ Y) hc k)
                       . cases h
                     . cases h
                   . cases h
                 . cases h
               . cases h
             . split at h
               . rename_i hsz
                 split at h
                 . rename_i p hs
                   split at h
                   . rename_i ho
                     split at h
                     . rename_i hl
                       split at h
                       . rename_i cs' hc
                         simp only[Option.some.injEq] at h
                         subst h
                         exact ef (store1 ht hx hb hti (Nat.eq_of_beq_eq_true hsz) hs ho hl (he _ Y) hc k)
                       . cases h
                     . cases h
                   . cases h
                 . cases h
               . cases h
           . cases h
         . cases h
       . cases h
     |_=>simp[stE] at h
def okR (P:Program) (n:Nat) (N:Rest) (H0:Env) (Q:Qs) (r:RR):Prop:=AllP r.ps/\r.as0=r.bs/\Hd P n N H0 Q r.c r.ks ⟨r.F,r.L⟩
theorem Hn_ {tb:Tb} (ht:tbB P tb=true):∀ (k:Nat) (is:List Nat) (c:Cf) (ks:List Kt) (F:Nat->PV) (L:Nat->Blk) (ps:List Prop) (as0 bs:List Nat),(∀ B:Nat->Nat,∃ r,runE tb n k is B c ks F L ps as0 bs=some r/\okR P n N H0 Q r)->AllP ps/\as0=bs/\Hd P n N H0 Q c ks ⟨F,L⟩:=by
 intro k
 induction k with
 |zero=>
   intro is c ks F L ps as0 bs h
   obtain⟨r,h1,h2,h3,h4⟩:=h (λ_=>0)
   simp only[runE,D2_,Fk_,Option.some.injEq] at h1
   subst h1
   exact⟨h2,h3,h4⟩
 |succ k ih=>
   intro is c ks F L ps as0 bs h
   have one:(∀ B:Nat->Nat,∃ r,(match run tb n 1 c ks F L ps as0 bs with
       |some ⟨c,ks,F,L,ps,as0,bs⟩=>runE tb n k is B c ks F L ps as0 bs
       |none=>none)=some r/\okR P n N H0 Q r)->AllP ps/\as0=bs/\Hd P n N H0 Q c ks ⟨F,L⟩:=by
     intro h
     cases hr:run tb n 1 c ks F L ps as0 bs with
     |none=>obtain⟨r,h1,_⟩:=h (λ_=>0);rw[hr] at h1;cases h1
     |some q=>
       obtain⟨c',ks',F',L',ps',as',bs'⟩:=q
       obtain⟨i1,i2,i3⟩:=ih is c' ks' F' L' ps' as' bs' (λB=>by obtain⟨r,h1,h2⟩:=h B;rw[hr] at h1;exact⟨r,h1,h2⟩)
       obtain⟨j1,j2,j3⟩:=Mf_ ht (Q:=Q) (N:=N) (H0:=H0) 1 c ks F L ps as0 bs _ hr i1 i2
       exact⟨j1,j2,j3 i3⟩
   cases c with
   |code c=>exact one h
   |ex e=>exact one h
   |ops all l=>
     cases l with
     |nil=>exact one h
     |cons o rest=>
       simp only[runE] at h
       split at h
       . cases is with
         |nil=>obtain⟨r,h1,_⟩:=h (λ_=>0);cases h1
         |cons i is=>
           have hb:∀ b,∃ r,mkE tb n i b F L o=some r/\AllP ps/\as0=bs/\Hd P n N H0 Q (.ops all rest) ks ⟨r.F,r.L⟩:=by
             intro b
             cases hm:mkE tb n i b F L o with
             |none=>obtain⟨r,h1,_⟩:=h (λ_=>b);simp only[hm] at h1;cases h1
             |some q=>
               obtain⟨F',L',e⟩:=q
               refine⟨_,rfl,ih is (.ops all rest) ks F' L' ps as0 bs λB=>?_⟩
               obtain⟨r,h1,h2⟩:=h (λj=>match j with|0=>b|j+1=>B j)
               simp only[hm] at h1
               exact⟨r,h1,h2⟩
           obtain⟨_,_,q1,q2,_⟩:=hb 0
           exact⟨q1,q2,mkE_ok ht λb=>by obtain⟨r,h1,_,_,h2⟩:=hb b;exact⟨r,h1,h2⟩⟩
       . cases hs:stE tb F L o with
         |none=>obtain⟨r,h1,_⟩:=h (λ_=>0);rw[hs] at h1;cases h1
         |some q=>
           obtain⟨F',L',e⟩:=q
           cases e with
           |none=>obtain⟨r,h1,_⟩:=h (λ_=>0);rw[hs] at h1;cases h1
           |some ab=>
             obtain⟨a,b⟩:=ab
             obtain⟨i1,i2,i3⟩:=ih is (.ops all rest) ks F' L' ps (a::as0) (b::bs) (λB=>by obtain⟨r,h1,h2⟩:=h B;rw[hs] at h1;exact⟨r,h1,h2⟩)
             simp only[List.cons.injEq] at i2
             exact⟨i1,i2.2,stE_ok ht hs (λq hq=>by cases hq;exact i2.1) i3⟩
       . exact one h
theorem gmp {tb:Tb} (ht:tbB P tb=true) (k:Nat) (is:List Nat) {c c':Cf} {ks':List Kt} {F':(Nat->Nat)->Nat->PV} {L':(Nat->Nat)->Nat->Blk} {ps:(Nat->Nat)->List Prop} {as0 bs:(Nat->Nat)->List Nat} (h:∀ B,runE tb n k is B c ks fF fL [] [] []=some ⟨c',ks',F' B,L' B,ps B,as0 B,bs B⟩) (he:∀ B,as0 B=bs B) (hp:∀ B,AllP (ps B)) (next :∀ B:Nat->Nat,Hd P n N H0 Q c' ks' ⟨F' B,L' B⟩):Hd P n N H0 Q c ks ⟨fF,fL⟩:=
 (Hn_ ht k is c ks fF fL [] [] [] λB=>⟨_,h B,hp B,he B,next B⟩).2.2
theorem gx {tb:Tb} (ht:tbB P tb=true) (k:Nat) {c c':Cf} {ks':List Kt} {F':Nat->PV} {L':Nat->Blk} {as0 bs:List Nat} (next :Hd P n N H0 Q c' ks' ⟨F',L'⟩) (h:run tb n k c ks fF fL [] [] []=some ⟨c',ks',F',L',[],as0,bs⟩:=by exact Y) (he:as0=bs:=by exact Y):Hd P n N H0 Q c ks ⟨fF,fL⟩:=go ht k h he Z next
theorem gm {tb:Tb} (ht:tbB P tb=true) (k:Nat) (is:List Nat) {c c':Cf} {ks':List Kt} {F':(Nat->Nat)->Nat->PV} {L':(Nat->Nat)->Nat->Blk} {as0 bs:(Nat->Nat)->List Nat} (next :∀ B:Nat->Nat,Hd P n N H0 Q c' ks' ⟨F' B,L' B⟩) (h:∀ B,runE tb n k is B c ks fF fL [] [] []=some ⟨c',ks',F' B,L' B,[],as0 B,bs B⟩:=by exact λ_=>rfl) (he:∀ B,as0 B=bs B:=by exact λ_=>rfl):Hd P n N H0 Q c ks ⟨fF,fL⟩:=gmp ht k is h he (λ_=>trivial) next
abbrev jIn (xs:List Nat) (j:Option Nat):Bool:=match j with|none=>true|some j=>memB xs j
theorem vE {xs:List Nat} {fuel:Nat} {listed:Array Bool} {o:Oper} {j:Option Nat} (i:Nat) (hi:nth all i=some o) (h:E1 P n N H0 all o j ⟨fF,fL⟩ (λs'=>Hv P n N H0 Q (some xs) all fuel (listed.setIfInBounds i true) ks s')) (hr:Region.ready .any all.toArray listed=[i]:=by kernel_rfl) (hj:jIn xs j=true:=by exact Y):Hv P n N H0 Q (some xs) all (fuel+1) listed ks ⟨fF,fL⟩:=ve i hi hr hj h
theorem vD {xs:Option (List Nat)} {fuel:Nat} {listed:Array Bool} (k:Hd P n N H0 Q (.ex .normal) ks ⟨fF,fL⟩) (h:Region.ready .any all.toArray listed=[]:=by kernel_rfl):Hv P n N H0 Q xs all fuel listed ks ⟨fF,fL⟩:=vdone h k
theorem aN (xs:List Nat) (m:Nat) {id:Nat} {ops:Array Oper} (hmx:P.follows .mixedOrders=true) (h:Hv P n N H0 Q (some xs) ops.toList m (Array.replicate m false) ks ⟨fF,fL⟩) (hm:ops.toList.length=m:=by exact Y):Hd P n N H0 Q (.code (.region id ops true)) ks ⟨fF,fL⟩:=any xs m hmx hm h
theorem gX {tb:Tb} (ht:tbB P tb=true) (order:List Nat) (f:Nat) {xs:Option (List Nat)} {fuel:Nat} {listed:Array Bool} {F':Nat->PV} {L':Nat->Blk} {as0 bs:List Nat} (next :Hv P n N H0 Q xs all f (lst listed order) ks ⟨F',L'⟩) (hf:fuel=f+order.length:=by exact Y) (hc:chkV n all order listed=true:=by kernel_rfl) (h:runV tb xs all order fF fL [] [] []=some ⟨F',L',[],as0,bs⟩:=by exact Y) (he:as0=bs:=by exact Y):Hv P n N H0 Q xs all fuel listed ks ⟨fF,fL⟩:=gov ht order f hf hc h he Z next
theorem nX {ι:Type _} {keep kL:List Nat} {G:Nat->PV} {GL:Nat->Blk} {lv:ι->List (Nat×PV)} {lL:ι->List (Nat×Blk)} {Φ:ι->Prop} {μ:ι->Nat} {m:Nat} {ks:List Kt} {Q:Qs} (x':ι) (hΦ:Φ x') (h3:AllF fF (lv x')) (h4:AllL fL (lL x')) (h1:keep.map fF=keep.map G:=by exact Y) (h2:kL.map fL=kL.map GL:=by exact Y) (hm:μ x'<m:=by decide):Hd P n N H0 Q (.ex .normal) (.lp (LJ (λx=>⟨mkF (lv x) keep G,mkL (lL x) kL GL⟩) Φ μ m)::ks) ⟨fF,fL⟩:=next x' h1 h2 h3 h4 hm hΦ
theorem cE {α:Type} {v a b:α} {c:Operand} {p q:Code} {t:Bool} (e:v = bif t then a else b) (ht:t=true->v=a->Hd P n N H0 Q (.code p) ks ⟨fF,fL⟩) (hf:t=false->v=b->Hd P n N H0 Q (.code q) ks ⟨fF,fL⟩) (hc:evP fF c = .bool t:=by exact Y):Hd P n N H0 Q (.code (.cond c p q)) ks ⟨fF,fL⟩:=cnd hc (λh=>ht h (e.trans (by rw[h];rfl))) (λh=>hf h (e.trans (by rw[h];rfl)))
theorem cD {α:Type} {v a b:α} {c:Operand} {p q:Code} {t:Prop} [Decidable t] (e:v = bif decide t then a else b) (ht:t->v=a->Hd P n N H0 Q (.code p) ks ⟨fF,fL⟩) (hf:¬t->v=b->Hd P n N H0 Q (.code q) ks ⟨fF,fL⟩) (hc:evP fF c = .bool (decide t):=by exact Y):Hd P n N H0 Q (.code (.cond c p q)) ks ⟨fF,fL⟩:=cE e (λh=>ht (of_decide_eq_true h)) (λh=>hf (of_decide_eq_false h)) hc
theorem fC {tb:Tb} {G:Gb} {m:Nat} {f:FuncId} {fn:Func} {c:Code} {args:List PV} {res:PV} (hf:P.funcs[f]? = some fn) (ht:tbB P tb=true) (hn:fn.ntmps=m) (h:PV.wfs args->∀ N H,G.p H->Hd P m N ⟨H,G⟩ (rtK tb fn.results.toList res) (.code c) [] ⟨Kv_ args,λ_=> .no⟩) (hb:fn.body=some c:=by exact Y) (hs:Nat.ble args.length m=true:=by exact Y) (h1:(fn.name == "runtime.NumGoroutine")=false:=by kernel_rfl) (h2:fn.body.isNone=false:=by kernel_rfl) (hno:res.noOsl=true:=by exact Y) (hna:Am_ args=true:=by exact Y):Fn P G f args res:=fn_cw ht hf hb hn hs (A5_ hf h1 h2) hno hna h
variable {tb:Tb} {rs:List ResultVar} {as0 bs:List Nat} {res q0 q1 q2 q3:PV}
theorem qr1 (h:Fu_ tb ⟨fF,fL⟩ rs=some ([q0],as0,bs):=by exact Y) (he:as0=bs:=by exact Y) (hp:PLe q0 res:=by exact ple Y):Hd P n N H0 (rtK tb rs res) (.ex .ret) [] ⟨fF,fL⟩:=rt1 h he hp
theorem cV {α β:Type} {v:β} {g:α} {kf:α->β} {f:FuncId} {args:List PV} {xs:Array Operand} {ats:Array TypeId} (e:v=lt g kf) (enc:α->PV) (h:Fn P H0.g f args (enc g)) (ha:argsP fF x xs.toList=some (f,args)) (k:∀ r,r=g->v=kf r->(enc r).wf->Hd P n N H0 Q (.ops all rest) ks ⟨updp fF d (enc r),fL⟩) (hd:Nat.blt d n=true:=by exact Y):Hd P n N H0 Q (.ops all (⟨some d, .call ⟨.value x,xs,ats⟩,ty,pos,af,none⟩::rest)) ks ⟨fF,fL⟩:=
 callv g enc h ha hd λr hr w=>k r hr (e.trans (lt_eq hr)) w
theorem gy {tb:Tb} (ht:tbB P tb=true) (k:Nat) {c c':Cf} {ks':List Kt} {F':Nat->PV} {L':Nat->Blk} {ps:List Prop} {as0 bs:List Nat} (next :Hd P n N H0 Q c' ks' ⟨F',L'⟩) (h:run tb n k c ks fF fL [] [] []=some ⟨c',ks',F',L',ps,as0,bs⟩:=by exact Y) (he:as0=bs:=by exact Y) (hp:AllP ps:=by repeat' (first|exact Z|refine And.intro ?_ ?_|exact λhc=>hc|exact Y|exact λhc=>rfl|omega|(intro hc;omega)|(intro hc;rw[hc];rfl))):Hd P n N H0 Q c ks ⟨fF,fL⟩:=go ht k h he hp next
theorem gXy {tb:Tb} (ht:tbB P tb=true) (order:List Nat) (f:Nat) {xs:Option (List Nat)} {fuel:Nat} {listed:Array Bool} {F':Nat->PV} {L':Nat->Blk} {ps:List Prop} {as0 bs:List Nat} (next :Hv P n N H0 Q xs all f (lst listed order) ks ⟨F',L'⟩) (hf:fuel=f+order.length:=by exact Y) (hc:chkV n all order listed=true:=by kernel_rfl) (h:runV tb xs all order fF fL [] [] []=some ⟨F',L',ps,as0,bs⟩:=by exact Y) (he:as0=bs:=by exact Y) (hp:AllP ps:=by repeat' (first|exact Z|refine And.intro ?_ ?_|exact λhc=>hc|exact Y|exact λhc=>rfl|omega|(intro hc;omega)|(intro hc;rw[hc];rfl))):Hv P n N H0 Q xs all fuel listed ks ⟨fF,fL⟩:=gov ht order f hf hc h he hp next
end Go.SW.V
namespace Go.SW.V
open Go.SW
end Go.SW.V
namespace Go.SW
def GPow (H:Hp) (g:Nat):Prop:=∃ T fr,H g=some (.cells (Go.Lib.pow10Tab.map (Value.int .u64)).toArray T fr)
theorem GPow.mono {H H':Hp} {g:Nat} (h:GPow H g) (hl:HLe H H'):GPow H' g:=by
 exact zN
end Go.SW
namespace Go.SW.V
open Go.SW Go.Proofs
abbrev ty3:TI:=⟨.int .i64,1,8,[.int .i64 0]⟩
abbrev ty28:TI:=⟨.int .u64,1,8,[.int .u64 0]⟩
abbrev ty36:TI:=⟨.slc 3,1,24,[.sl i64c []]⟩
abbrev ty39:TI:=⟨.agg [(0,1),(1,1),(2,1),(3,1),(4,1)],5,88,[.int .i64 0, .int .i64 0, .sl Hz_.pc [], .sl i64c [], .sl Hy_.pc []]⟩
abbrev ty9:TI:=⟨.str,1,16,[.str []]⟩
abbrev ty25:TI:=⟨.slc 30,1,24,[.sl A_.pc []]⟩
abbrev ty30:TI:=⟨.agg [(0,1),(1,1),(2,1),(3,1),(4,1),(5,1)],6,56,[.int .u8 0, .int .i64 0, .int .u64 0, .str [], .int .i64 0, .int .i64 0]⟩
abbrev ty22:TI:=⟨.slc 25,1,24,[.sl (slc A_.pc) []]⟩
abbrev ty24:TI:=⟨.slc 27,1,24,[.sl (slc A_.pc) []]⟩
abbrev ty27:TI:=⟨.slc 31,1,24,[.sl A_.pc []]⟩
abbrev ty31:TI:=⟨.agg [(0,1),(1,1),(2,1),(3,1),(4,1),(5,1)],6,56,[.int .u8 0, .int .i64 0, .int .u64 0, .str [], .int .i64 0, .int .i64 0]⟩
def tbu:Tb:=[(25,ty25),(30,ty30),(24,ty24),(27,ty27),(31,ty31),(22,ty22),(9,ty9),(3,ty3),(28,ty28),(36,ty36),(39,ty39)]
theorem B4_:tbB prog tbu=true:=by kernel_rfl
section
variable {n:Nat} {N:Rest} {H0:Env} {all:List Oper} {Q:Qs} {ks:List Kt} {fF:Nat->PV} {fL:Nat->Blk}
theorem kA (k:Nat) {c c':Cf} {ks':List Kt} {F':Nat->PV} {L':Nat->Blk} {az bs:List Nat} (next :Hd prog n N H0 Q c' ks' ⟨F',L'⟩) (h:run tbu n k c ks fF fL [] [] []=some ⟨c',ks',F',L',[],az,bs⟩:=by exact Y) (he:az=bs:=by exact Y):Hd prog n N H0 Q c ks ⟨fF,fL⟩:=gx B4_ k next h he
theorem kB (k:Nat) (is:List Nat) {c c':Cf} {ks':List Kt} {F':(Nat->Nat)->Nat->PV} {L':(Nat->Nat)->Nat->Blk} {az bs:(Nat->Nat)->List Nat} (next :∀ B:Nat->Nat,Hd prog n N H0 Q c' ks' ⟨F' B,L' B⟩) (h:∀ B,runE tbu n k is B c ks fF fL [] [] []=some ⟨c',ks',F' B,L' B,[],az B,bs B⟩:=by exact λ_=>rfl) (he:∀ B,az B=bs B:=by exact λ_=>rfl):Hd prog n N H0 Q c ks ⟨fF,fL⟩:=gm B4_ k is next h he
theorem kC (k:Nat) {c c':Cf} {ks':List Kt} {F':Nat->PV} {L':Nat->Blk} {ps:List Prop} {az bs:List Nat} (next :Hd prog n N H0 Q c' ks' ⟨F',L'⟩) (h:run tbu n k c ks fF fL [] [] []=some ⟨c',ks',F',L',ps,az,bs⟩:=by exact Y) (he:az=bs:=by exact Y) (hp:AllP ps:=by repeat' (first|exact Z|refine And.intro ?_ ?_|exact λhc=>hc|exact Y|exact λhc=>rfl|omega|(intro hc;omega)|(intro hc;rw[hc];rfl))):Hd prog n N H0 Q c ks ⟨fF,fL⟩:=gy B4_ k next h he hp
theorem kE (order:List Nat) (f:Nat) {xs:Option (List Nat)} {fuel:Nat} {listed:Array Bool} {F':Nat->PV} {L':Nat->Blk} {az bs:List Nat} (next :Hv prog n N H0 Q xs all f (lst listed order) ks ⟨F',L'⟩) (hf:fuel=f+order.length:=by exact Y) (hc:chkV n all order listed=true:=by kernel_rfl) (h:runV tbu xs all order fF fL [] [] []=some ⟨F',L',[],az,bs⟩:=by exact Y) (he:az=bs:=by exact Y):Hv prog n N H0 Q xs all fuel listed ks ⟨fF,fL⟩:=gX B4_ order f next hf hc h he
theorem kF (order:List Nat) (f:Nat) {xs:Option (List Nat)} {fuel:Nat} {listed:Array Bool} {F':Nat->PV} {L':Nat->Blk} {ps:List Prop} {az bs:List Nat} (next :Hv prog n N H0 Q xs all f (lst listed order) ks ⟨F',L'⟩) (hf:fuel=f+order.length:=by exact Y) (hc:chkV n all order listed=true:=by kernel_rfl) (h:runV tbu xs all order fF fL [] [] []=some ⟨F',L',ps,az,bs⟩:=by exact Y) (he:az=bs:=by exact Y) (hp:AllP ps:=by repeat' (first|exact Z|refine And.intro ?_ ?_|exact λhc=>hc|exact Y|exact λhc=>rfl|omega|(intro hc;omega)|(intro hc;rw[hc];rfl))):Hv prog n N H0 Q xs all fuel listed ks ⟨fF,fL⟩:=gXy B4_ order f next hf hc h he hp
theorem kG {G:Gb} {m:Nat} {f:FuncId} {fn:Func} {c:Code} {args:List PV} {res:PV} (hf:prog.funcs[f]? = some fn) (hn:fn.ntmps=m) (h:PV.wfs args->∀ N H,G.p H->Hd prog m N ⟨H,G⟩ (rtK tbu fn.results.toList res) (.code c) [] ⟨Kv_ args,λ_=> .no⟩) (hb:fn.body=some c:=by exact Y) (hs:Nat.ble args.length m=true:=by exact Y) (h1:(fn.name == "runtime.NumGoroutine")=false:=by kernel_rfl) (h2:fn.body.isNone=false:=by kernel_rfl) (hno:res.noOsl=true:=by exact Y) (hna:Am_ args=true:=by exact Y):Fn prog G f args res:=fC hf B4_ hn h hb hs h1 h2 hno hna
theorem kI {T ty d:Nat} {rest:List Oper} {pos:String} {af:Array Edge} {x y:Operand} {α:Type} {ti te:TI} {e:TypeId} {enc:α->List PV} {xs:List α} {kk:IntKind} {i:Int} (m:Nat) {a:α} (hm:xs[m]? = some a) (k:(PV.el (enc a) 0).wf->Hd prog n N H0 Q (.ops all rest) ks ⟨updp fF d (.el (enc a) 0),fL⟩) (hx:evP fF x = .sl enc xs:=by exact Y) (hy:evP fF y = .int kk i:=by exact Y) (hi:i=m:=by exact Y) (hti:lkT tbu T=some ti:=by exact Y) (htk:ti.k = .slc e:=by exact Y) (hte:lkT tbu e=some te:=by exact Y) (hsz:te.size=(enc a).length:=by exact Y) (hd:Nat.blt d n=true:=by exact Y):Hd prog n N H0 Q (.ops all (⟨some d, .indexAddr T x y,ty,pos,af,none⟩::rest)) ks ⟨fF,fL⟩:=q1 (qidx B4_ m hx hy hi hm hti htk hte hsz) hd k
theorem kN (k:Nat) {c:Cf} {ks':List Kt} {F':Nat->PV} {L':Nat->Blk} {az:List Nat} {x:Operand} {y z:Code} {t:Prop} {i:Decidable t} (p:t->Hd prog n N H0 Q (.code y) ks' ⟨F',L'⟩) (q:¬t->Hd prog n N H0 Q (.code z) ks' ⟨F',L'⟩) (h:run tbu n k c ks fF fL [] [] []=some ⟨.code (.cond x y z),ks',F',L',[],az,az⟩:=by exact Y) (hc:evP F' x = .bool (decide t):=by exact Y):Hd prog n N H0 Q c ks ⟨fF,fL⟩:=kA k (cn hc p q) h Y
theorem kM (k:Nat) {c:Cf} {ks':List Kt} {F':Nat->PV} {L':Nat->Blk} {az:List Nat} {x:Operand} {y z:Code} {t:Bool} (p:t=true->Hd prog n N H0 Q (.code y) ks' ⟨F',L'⟩) (q:t=false->Hd prog n N H0 Q (.code z) ks' ⟨F',L'⟩) (h:run tbu n k c ks fF fL [] [] []=some ⟨.code (.cond x y z),ks',F',L',[],az,az⟩:=by exact Y) (hc:evP F' x = .bool t:=by exact Y):Hd prog n N H0 Q c ks ⟨fF,fL⟩:=kA k (cnd hc p q) h Y
theorem kL (k:Nat) {c:Cf} {ks':List Kt} {F':Nat->PV} {L':Nat->Blk} {az:List Nat} {rest:List Oper} {f:FuncId} {args:List PV} {res:PV} {x:Operand} {xs:Array Operand} {ats:Array TypeId} {ty d:Nat} {pos:String} {af:Array Edge} (g:Fn prog H0.g f args res) (h:run tbu n k c ks fF fL [] [] []=some ⟨.ops all (⟨some d, .call ⟨.value x,xs,ats⟩,ty,pos,af,none⟩::rest),ks',F',L',[],az,az⟩) (ha:argsP F' x xs.toList=some (f,args)) (hd:Nat.blt d n=true) (q:res.wf->Hd prog n N H0 Q (.ops all rest) ks' ⟨updp F' d res,L'⟩):Hd prog n N H0 Q c ks ⟨fF,fL⟩:=kA k (call g ha hd q) h Y
theorem kR (k:Nat) {c:Cf} {F':Nat->PV} {L':Nat->Blk} {az as0:List Nat} {rs:List ResultVar} {res p:PV} (q:p=res) (h:run tbu n k c ks fF fL [] [] []=some ⟨.ex .ret,[],F',L',[],az,az⟩:=by exact Y) (hs:Fu_ tbu ⟨F',L'⟩ rs=some ([p],as0,as0):=by exact Y):Hd prog n N H0 (rtK tbu rs res) c ks ⟨fF,fL⟩:=kA k (rt1 hs Y (ple q)) h Y
theorem jA (k:Nat) {c c':Cf} {ks':List Kt} {F':Nat->PV} {L':Nat->Blk} {az:List Nat} (h:run tbu n k c ks fF fL [] [] []=some ⟨c',ks',F',L',[],az,az⟩) (q:Hd prog n N H0 Q c' ks' ⟨F',L'⟩):Hd prog n N H0 Q c ks ⟨fF,fL⟩:=kA k q h Y
end
def gb:Gb:=⟨λH=>GInt H 4/\GTab H 7 laidT/\GStrs H 3 tellsT/\GPow H 1,λH H' hl h=>⟨h.1.mono hl,h.2.1.mono hl,h.2.2.1.mono hl,h.2.2.2.mono hl⟩⟩
theorem gbML {H:Hp} (h:gb.p H):GInt H 4:=h.1
theorem gbCrc {H:Hp} (h:gb.p H):GTab H 7 laidT:=h.2.1
theorem gbTells {H:Hp} (h:gb.p H):GStrs H 3 tellsT:=h.2.2.1
theorem gbPow {H:Hp} (h:gb.p H):GPow H 1:=h.2.2.2
theorem mixd:prog.follows .mixedOrders=true:=by kernel_rfl
end Go.SW.V
namespace Go.SW
open Go.Proofs
theorem ag115:Ag prog 115 false:=λw=>by kernel_rfl
theorem ag9:Ag prog 9 false:=λw=>by kernel_rfl
theorem cb104:V_ prog 104:=A5_ func104 yZ yZ
theorem G8_:Fld prog 118 0 0:=λb o w=>by kernel_rfl
theorem Kz_:liesAt prog prog.depth 118 (2/prog.cellsOf 118) 0 118 1=true:=by kernel_rfl
theorem ne143:NoEsc prog 143:=Ip_ func143 yZ yZ yZ yZ
theorem sz115:Sz prog 115 1:=λw=>by kernel_rfl
theorem sz9:Sz prog 9 1:=λw=>by kernel_rfl
theorem ti118:∃ j,prog.info? 118=some j:=Option.isSome_iff_exists.1 yZ
theorem tz118:∃ j,prog.info? 118=some j/\j.size≠0:=exInfo yZ
set_option maxRecDepth 100000 in
theorem copyCheck {n:Nat} {N:Rest} {F:Fr} {H:Hp} {L:Ls} {ops:List Oper} {ty d:Nat} {pos:String} {af:Array Edge} {K:Fr->Hp->Ls->Prop} {x:Operand} {ats:Array TypeId} {b:Nat} {p v:Value} (i:Nat) (hx:ev F x = .pointer (some ⟨b,0,none⟩)) (hi:L i=some (b,bx 118 [p,v]))
   (hp:p = .pointer none\/p = .pointer (some ⟨b,0,none⟩)) (hd:Nat.blt d n=true) (k:K (upd F d (.tuple #[])) H (lupd L i (some (b,bx 118 [.pointer (some ⟨b,0,none⟩),v])))):Op1 prog n N ops ⟨some d, .call ⟨.value (.func 104),#[x],ats⟩,ty,pos,af,none⟩ K F H L:=by
 refine Ls_ (en_f (vs:=[.pointer (some ⟨b,0,none⟩)]) cb104 (by simp[evs,hx])) func104 rfl ntmps104 rfl hd (Ad_ (O_ (ol rfl (As_ (v:= .pointer (some ⟨_,_,none⟩)) rfl) (ol rfl (W_ rfl) (ol rfl (R_ rfl G8_) ?_)))));refine ol Y (Ay_ (i:=i) (v:=p) Y ag115 hi Y) ?_
 rcases hp with rfl|rfl
 refine ol Y (lo_pnil Y Y underlying115) (Aj_ (Ag_ (F7_ Y Y (O_ (ol Y (As_ (v:= .pointer (some ⟨_,_,none⟩)) Y) ?_)))));refine ol Y (As_ (v:= .pointer (some ⟨_,_,none⟩)) Y) (ol Y (D6_ (i:=i) Y hi Y underlying115 underlying225 (tz118).choose_spec.1 (tz118).choose_spec.2) (ol Y (Nm_ (v:= .pointer (some ⟨_,_,none⟩)) ne143 Y) (ol Y (Cr_ (i:=i) Y hi underlying225 underlying115 (ti118).choose_spec Kz_) (ol Y (W_ Y) (ol Y (R_ Y G8_) ?_)))));refine ow1 (Cb_ (i:=i) (v:= .pointer (some ⟨_,_,none⟩)) Y Y Y sz115 hi Y ?_);refine Aj_ ?_;exact fnK_n (res0 Y) (.refl _) k
 . refine ol Y (Jc_ Y Y underlying115) (Aj_ (Ag_ (Dx_ Y Y (Ad_ (O_ ?_)))))
   refine ol Y (As_ (v:= .pointer (some ⟨_,_,none⟩)) Y) (ol Y (W_ Y) (ol Y (R_ Y G8_) (ol Y (Ay_ (i:=i) (v:= .pointer (some ⟨b,0,none⟩)) Y ag115 hi Y) (ol Y (As_ (v:= .pointer (some ⟨_,_,none⟩)) Y) (ol Y (He_ Y Y underlying115 (ti118).choose_spec) ?_)))))
   refine Aj_ (Ag_ (Dx_ Y Y (Dy_ (fnK_n (res0 Y) (.refl _) ?_))))
   rwa [Nn_ hi] at k
theorem sz5:Sz prog 5 1:=λw=>by kernel_rfl
theorem ag116:Ag prog 116 false:=λw=>by kernel_rfl
theorem ag237:Ag prog 237 true:=λw=>by kernel_rfl
theorem by5:By prog 5 1:=by_of yZ
theorem cb220:V_ prog 220:=A5_ func220 yZ yZ
theorem cb69:V_ prog 69:=A5_ func69 yZ yZ
theorem co5:prog.cellsOf 5=1:=by kernel_rfl
theorem Fi_:Fld prog 118 1 1:=λb o w=>by kernel_rfl
theorem Kn_:Fld prog 237 0 0:=λb o w=>by kernel_rfl
theorem mixd:prog.follows .mixedOrders=true:=by kernel_rfl
theorem sz116:Sz prog 116 1:=λw=>by kernel_rfl
theorem sz237:Sz prog 237 2:=λw=>by kernel_rfl
theorem zr118:Zr prog 118 [.pointer none, .slice none 0 0]:=λw=>⟨.agg #[.pointer none, .slice none 0 0],by kernel_rfl,rfl⟩
theorem zr237:Zr prog 237 [str [], .int .i64 0]:=λw=>⟨.agg #[str [], .int .i64 0],by kernel_rfl,rfl⟩
theorem zr5:Zr prog 5 [.int .u8 0]:=λw=>⟨.int .u8 0,by kernel_rfl,rfl⟩
theorem zx5:∃ z,∀ w,(zeroValue 5).run prog w = .ok z w:=⟨.int .u8 0,λw=>by kernel_rfl⟩
theorem out_Num (H:Hp) (o:Out) (n:Int) (n_r:0<=n/\n<=18446744073709551615) (bytes:Int) (bytes_r:-9223372036854775808<=bytes/\bytes<=9223372036854775807) (hlen:o.s.length<=4611686018427387904):Pr prog 158 #[.agg (Out.cells o).toArray, .int .u64 n, .int .i64 bytes] H (.agg (Out.cells (Lz_ o n bytes)).toArray):=by
 refine pr_cw func158 Y ntmps158 Y (λN=>?_);refine Ad_ (O_ (ow1 (Lq_ (cs:=[_,_]) 0 Y Y (λb1=>?_))));refine ow1 (By_ 1 Y zr237 (λb2=>?_));refine Aj_ (Ag_ (Ad_ (O_ (ow1 (By_ 2 Y zr118 (λb3=>?_))))));refine Aj_ (Ag_ (Ad_ (Ad_ (O_ (omi Y Y ?_)))));refine ol Y (O7_ Y Y) (ol Y (O8_ Y Y) (ol Y (Pb_ Y Y (Iy_ yY)) (oai Y Y (Aj_ (Ag_ ?_)))));refine Bb_ ?_;refine M6_ [8,13,14,15,16,17,18,19,20,21,22] [2,3,4] (λ(j:Nat) (bs:Bs) (p:Value) (v:Value) (en:Option (Nat×Obj)) G=>upd (G) 8 (.int .i64 ((j:Int)-1))) (λ(j:Nat) (bs:Bs) (p:Value) (v:Value) (en:Option (Nat×Obj)) G=>lupd (lupd (G) 2 (some (b3,bx 118 [p,v]))) 3 (en)) (λ(j:Nat) (bs:Bs) (p:Value) (v:Value) (en:Option (Nat×Obj)) H'=>bs++numB j n.toNat=numB (numK bytes) n.toNat/\bs.length+j=numK bytes/\OwnV 1 5 v en bs.length (bs.map u8v)/\(bs.length=0->v = .slice none 0 0)/\(p = .pointer none\/p = .pointer (some ⟨b3,0,none⟩))) (λ(j:Nat) (bs:Bs) (p:Value) (v:Value) (en:Option (Nat×Obj))=>j) (numK bytes) [] (.pointer none) (.slice none 0 0) none (Bm_ (B9_ xU) (congrArg (Value.int .i64) (show min (max bytes 0) 8-1=((numK bytes:Nat):Int)-1 by unfold numK;omega))) (B8_ (B8_ (Bs_ Cx_) Y) Y) ?_ ?_;exact⟨rfl,by simp,Fs_,λ_=>rfl, .inl rfl⟩;intro j bs p v en J5 JL5 H5 hp4 hl5;obtain⟨hk1,hk2,ho,hz,hpp⟩:=hp4;have hk8:numK bytes<=8:=by unfold numK;omega
 refine Ad_ (Ad_ (O_ (omi Y Y (ol Y (O5_ Y Y) (Aj_ ?_)))));refine Ag_ (Dw_ Y (λh6=>?_) (λh6=>?_));have p7:=dt h6;refine Dy_ (Ag_ (Ad_ (Bb_ (O_ (omi Y Y ?_)))));refine omi Y Y (ol Y (lo_mul Y Y (Iy_ yY)) (ol Y (Im_ Y Y yY) ?_));have :=wr_u8 (Int.fdiv n (2 ^ (min ((8*((j:Int)-1)):Int).toNat (IntKind.bits .u64))));refine ol Y (Fo_ Y (by rw[underlying28];rfl) underlying5) ?_;refine ow1 (Ls_ (en_f cb220 Y) func220 Y ntmps220 Y Y ?_);refine Ad_ (O_ (ol Y (A7_ Y) (Aj_ (Ag_ (Ad_ ?_)))));refine O_ (ol Y (As_ (v:= .pointer (some ⟨_,_,none⟩)) Y) ?_);refine ow1 (copyCheck 2 Y Y hpp Y ?_);refine Aj_ (Ag_ (Ad_ (O_ (ol Y (As_ (v:= .pointer (some ⟨_,_,none⟩)) Y) (ol Y (As_ (v:= .pointer (some ⟨_,_,none⟩)) Y) ?_)))));refine ol Y (W_ Y) (ol Y (R_ Y Fi_) (ol Y (Ay_ (i:=2) Y ag116 Y Y) (omi Y Y ?_)));refine ow1 (Ca_ (cs:=[_]) 4 Y underlying116 sz5 zx5 Y ⟨Y,Y,Z⟩ Y Y xB (λb8=>?_));refine ow1 (Lp_ 3 Y Y underlying116 underlying116 Y sz5 by5 xB zr5 ho (src_bx (i:=4) Y Y) (List.all_eq_true.1 Y) Y yY Y (λv9 en10 ho11=>?_));have ho12:=M0_ (bs:=bs) ho11 (by first|rfl|simp) (wrap8r _);refine ol Y (W_ Y) (ol Y (R_ Y Fi_) ?_);refine ow1 (Cb_ (i:=2) Y Y (Nv_ ho12) sz116 Y Y ?_);refine Aj_ (Ag_ (Ad_ (O_ (ol Y (A7_ Y) (Aj_ ?_)))));refine Ag_ (Et_ (Kp_ (res1 Y (rv_t Y)) (.refl _) (Aj_ (Oo_ (Ag_ ?_)))));refine O_ (omi Y Y (ol Y (Pb_ Y Y (Iy_ yY)) (oai Y Y (Aj_ ?_))));refine next5 (j-1) (bs++[UInt8.ofNat ((IntKind.wrap .u8 (Int.fdiv n (2 ^ (min ((8*((j:Int)-1)):Int).toNat (IntKind.bits .u64)))))).toNat]) (.pointer (some ⟨b3,0,none⟩)) v9 en10 (Bm_ (B9_ xU) (congrArg (Value.int .i64) (show ((j:Int)-1)-1=((j-1:Nat):Int)-1 by omega))) (B8_ (B8_ (Bs_ wB) Y) Y) hl5 ?_ ?_;refine⟨?_,?_,ho12,(nz_of ho12 xA), .inr rfl⟩;rw[byte_of n_r.1 yY yY,List.append_assoc,<- hk1];obtain⟨q,rfl⟩:∃ q,j=q+1:=⟨j-1,by omega⟩;simp[numB];simp;omega;omega;have p13:=df h6;refine Fe_ (Po_ (Lb_ (H3_ (Ag_ (Ad_ ?_)))));refine J3_ 3 mixd (vw_q 0 Y yZ xG (λ_ _ hh hl=>R_ Y Kn_) ?_);refine vw_q 1 Y yZ xG (λ_ _ hh hl=>Ay_ (i:=0) (v:=str _) Y ag9 (hl _ _ Y) Y) ?_;refine vw_e 2 Y yZ (Ls_ (en_f cb69 Y) func69 Y ntmps69 Y Y ?_);refine Ad_ (O_ (ol Y (A7_ (v:=str _) Y) (Aj_ (Ag_ (Ad_ ?_)))));refine J3_ 3 mixd ?_;refine vw_q 0 Y yZ xG (λ_ _ hh hl=>As_ (v:= .pointer (some ⟨_,_,none⟩)) Y) ?_;refine vw_q 1 Y yZ xG (λ_ _ hh hl=>W_ Y) ?_;refine vw_q 2 Y yZ xG (λ_ _ hh hl=>R_ Y Fi_) ?_;refine vw_q 3 Y yZ xG (λ_ _ hh hl=>Ay_ (i:=2) Y ag116 (hl _ _ Y) Y) ?_;refine vw_q 4 Y yZ xG (λ_ _ hh hl=>lo_usd Y ho hz) ?_;refine vw_q 5 Y yZ xG (λ_ _ hh hl=>As_ (v:= .pointer (some ⟨_,_,none⟩)) Y) ?_;refine vw_q 6 Y yZ xG (λ_ _ hh hl=>W_ Y) ?_;refine vw_q 7 Y yZ xG (λ_ _ hh hl=>R_ Y Fi_) ?_;refine vw_q 8 Y yZ xG (λ_ _ hh hl=>Ay_ (i:=2) Y ag116 (hl _ _ Y) Y) ?_;refine vw_q 9 Y yZ xG (λ_ _ hh hl=>Ey_ Y ho underlying116) ?_;refine vw_e 10 Y yZ (Ns_ (l:=bs) 3 Y Y underlying173 co5 ho hz wA Y ?_);refine⟨⟨(.refl _),xG⟩,?_⟩;refine vw_q 11 Y yZ xG (λ_ _ hh hl=>A7_ (v:=str _) Y) ?_;refine Hx_ yZ (Ag_ (Et_ (Kp_ (res1 Y (rv_t (v:=str _) Y)) (.refl _) ?_)));refine⟨⟨(.refl _),xG⟩,?_⟩;refine vw_q 3 Y yZ xG (λ_ _ hh hl=>K4_ Y Y wA) ?_;refine vw_q 4 Y yZ xG (λ_ _ hh hl=>R_ Y Kn_) ?_;refine vw_t 5 Y yZ yZ (Cb_ (i:=0) (v:=str _) Y Y Y sz9 Y Y ?_);refine Hx_ yZ (Ag_ (Ad_ (O_ (ol Y (Dn_ (i:=0) (vs:=[_,_]) Y ag237 sz237 Y Y Y) ?_))));refine ow1 (E1_ (i:=1) (vs:=[_,_]) Y Y Y sz237 Y Y Y ?_);refine Aj_ (Ag_ (Et_ (Kp_ (res1 Y (rv_c (i:=1) (vs:=[_,_]) Y ag237 sz237 Y Y Y)) ((HLe.refl _).trans hl5) ?_)));obtain rfl :j=0:=by omega
 simp only[numB,List.append_nil] at hk1;subst hk1;rfl
end Go.SW
namespace Go.SW
open Go.RowKit
def cuts (p:UInt8):Bs->List Bs
 |[]=>[[]]
 |c::r=>if c=p then []::cuts p r else match cuts p r with
   |[]=>[[c]]
   |w::t=>(c::w)::t
theorem Ej_ (p:UInt8):∀ s:Bs,Lib.splitK [p] 0 (Lib.count s [p]) s=cuts p s
 |[]=>by rw[Lib.count_miss (by simp[Lib.index])];rfl
 |b::l=>by
   have ih:=Ej_ p l
   by_cases hb:b=p
   . subst hb
     rw[Lib.count_cons_eq,Nat.add_comm]
     have hix:Lib.index (b::l) [b]=0:=by rw[Lib.index];simp[List.isPrefixOf]
     unfold Lib.splitK cuts
     rw[hix]
     simp[ih]
   . rw[Lib.count_cons_ne _ _ _ hb]
     have hp:([p]:List UInt8).isPrefixOf (b::l)=false:=by simp[List.isPrefixOf,Ne.symm hb]
     have hix:Lib.index (b::l) [p] = if Lib.index l [p] == -1 then -1 else Lib.index l [p]+1:=by rw[Lib.index,hp];simp
     unfold cuts
     rw[if_neg hb,<- ih]
     cases hc:Lib.count l [p] with
     |zero=>rfl
     |succ k=>
       unfold Lib.splitK
       rw[hix]
       by_cases hm:Lib.index l [p] = -1
       . rw[Lib.count_miss hm] at hc;cases hc
       . have hge:=Lib.index_ge l [p]
         obtain⟨j,hj⟩:∃ j:Nat,Lib.index l [p]=j:=⟨(Lib.index l [p]).toNat,by omega⟩
         exact yD
theorem Eh_ (p:UInt8) (s:Bs):(Lib.splitB ⟨#[p]⟩ 0 (Lib.countB ⟨s.toArray⟩ ⟨#[p]⟩) ⟨s.toArray⟩).map Value.string=(cuts p s).map str:=by
 have h:=Lib.splitB_data ⟨#[p]⟩ 0 (Lib.countB ⟨s.toArray⟩ ⟨#[p]⟩) ⟨s.toArray⟩;have hc:Lib.countB ⟨s.toArray⟩ ⟨#[p]⟩=Lib.count s [p]:=by simp[Lib.countB]
 rw[hc] at h ⊢;have e:=Ej_ p s;exact yJ
theorem Hq_ (p:UInt8) (s:Bs):Lib.countB ⟨s.toArray⟩ ⟨#[p]⟩+1=(cuts p s).length:=by
 have h:=congrArg List.length (Eh_ p s);rw[List.length_map,List.length_map,Lib.splitB_all ⟨#[p]⟩ (by simp[ByteArray.size]) 0 _ _ rfl] at h;exact h
theorem C1_ (p:UInt8):∀ (s w:Bs),w∈cuts p s->w.length<=s.length
 |[],w,h=>by simp[cuts] at h;simp[h]
 |c::r,w,h=>by
   unfold cuts at h
   split at h
   . rcases List.mem_cons.1 h with rfl|h
     . simp
     . have :=C1_ p r w h;simp;omega
   . split at h
     . simp at h;subst h;simp
     . rename_i x t e
       have ih:=C1_ p r
       rw[e] at ih
       rcases List.mem_cons.1 h with rfl|h
       . have :=ih x xA;simp;omega
       . have :=ih w (by simp[h]);simp;omega
end Go.SW
namespace Go.Proofs
open Go.Shelf
def Tryz.lays146_ren:Go.Shelf.Ren:=⟨λ|146=>58|221=>93|268=>131|138=>132|143=>133|195=>186|197=>187|218=>188|219=>189|260=>277|217=>278|225=>279|224=>280|267=>281|266=>372|314=>373|n=>n,λ|9=>9|31=>79|3=>3|4=>4|0=>0|105=>302|21=>21|5=>5|46=>221|119=>172|139=>512|138=>511|146=>513|51=>68|n=>n,λ|1=>4|3=>10|4=>11|n=>n⟩
theorem Tryz.lays146:Go.Proofs.Lays.n146 prog Tryz.lays146_ren:={
 mixed:=by kernel_rfl
 f138:=func132.trans (congrArg some yZ)
 f143:=func133.trans (congrArg some yZ)
 f146:=func58.trans (congrArg some yZ)
 f195:=func186.trans (congrArg some yZ)
 f197:=func187.trans (congrArg some yZ)
 f217:=func278.trans (congrArg some yZ)
 f218:=func188.trans (congrArg some yZ)
 f219:=func189.trans (congrArg some yZ)
 f221:=func93.trans (congrArg some yZ)
 f224:=func280.trans (congrArg some yZ)
 f225:=func279.trans (congrArg some yZ)
 f260:=func277.trans (congrArg some yZ)
 f266:=func372.trans (congrArg some yZ)
 f267:=func281.trans (congrArg some yZ)
 f268:=func131.trans (congrArg some yZ)
 f314:=func373.trans (congrArg some yZ)
 t0:=underlying0
 a0:=isAgg0
 z0:=sizeOf0
 v0:=zeroValue0
 t3:=underlying3
 a3:=isAgg3
 z3:=sizeOf3
 v3:=zeroValue3
 t4:=underlying4
 a4:=isAgg4
 z4:=sizeOf4
 v4:=zeroValue4
 t5:=underlying5
 a5:=isAgg5
 z5:=sizeOf5
 v5:=zeroValue5
 t9:=underlying9
 a9:=isAgg9
 z9:=sizeOf9
 v9:=zeroValue9
 t21:=underlying21
 a21:=isAgg21
 z21:=sizeOf21
 v21:=zeroValue21
 t31:=underlying79
 a31:=isAgg79
 z31:=sizeOf79
 v31:=zeroValue79
 t46:=underlying221
 a46:=isAgg221
 z46:=sizeOf221
 v46:=zeroValue221
 t51:=underlying68
 a51:=isAgg68
 z51:=sizeOf68
 v51:=zeroValue68
 t105:=underlying302
 a105:=isAgg302
 z105:=sizeOf302
 v105:=zeroValue302
 t119:=underlying172
 a119:=isAgg172
 z119:=sizeOf172
 t138:=underlying511
 a138:=isAgg511
 z138:=sizeOf511
 v138:=zeroValue511
 t139:=underlying512
 a139:=isAgg512
 z139:=sizeOf512
 v139:=zeroValue512
 t146:=underlying513
 a146:=isAgg513
 z146:=sizeOf513
 v146:=zeroValue513
 g1:=by kernel_rfl
 g3:=by kernel_rfl
 g4:=by kernel_rfl}
open Go.RowKit Go.Lib in
theorem Tryz.strings_Split (s sep:ByteArray) (m:Int) (w:World) (hs:s.size<4294967281) (hm:w.cell? ⟨4,0,none⟩=some (.int .i64 m)) (h1:1<=sep.size) :
   Calls prog 58 #[.string s, .string sep] w λe w'=>
     e = .returned (.slice (some ⟨w.heap.size,0,none⟩) (Lib.countB s sep+1) (Lib.countB s sep+1))/\w'=w.alloc (.cells ((Lib.splitB sep 0 (Lib.countB s sep) s).map Value.string).toArray 9):=Any.strings_Split Tryz.lays146 yZ s sep m w hs hm h1
end Go.Proofs
namespace Go.SW
open Go.Proofs
theorem strings_Split (H:Hp) (s p:Bs) (hp:p=[46]) (hML:GInt H 4) (hs:s.length<4294967281):Ph prog 58 #[str s,str p] H (λv H'=>∃ (a:Option Addr) (c:Nat),v = .slice a (dots s).length c/\SlH strE 1 H' (.slice a (dots s).length c) (dots s)):=by
 subst hp;refine L5_ (T:=9) (λw hw=>by have :=C3_ s w hw;omega) λN L w hm=>?_;obtain⟨m,hc⟩:=hML.cell hm;refine (Tryz.strings_Split ⟨s.toArray⟩ ⟨#[46]⟩ m w (by simpa [Bg_] using hs) hc xB).mono λe w' ⟨he,hw⟩=>⟨?_,?_⟩;rw[he,Ji_];rw[hw,Ei_]
theorem Mx_ (H:Hp) (s p:Bs) (hp:p=[10]) (hML:GInt H 4) (hs:s.length<4294967281):Ph prog 58 #[str s,str p] H (λv H'=>∃ (a:Option Addr) (c:Nat),v = .slice a (cuts 10 s).length c/\SlH strE 1 H' (.slice a (cuts 10 s).length c) (cuts 10 s)):=by
 subst hp;refine L5_ (T:=9) (λw hw=>by have :=C1_ 10 s w hw;omega) λN L w hm=>?_;obtain⟨m,hc⟩:=hML.cell hm;refine (Tryz.strings_Split ⟨s.toArray⟩ ⟨#[10]⟩ m w (by simpa [Bg_] using hs) hc xB).mono λe w' ⟨he,hw⟩=>⟨?_,?_⟩;rw[he,Hq_];rw[hw,Eh_]
theorem ag68:Ag prog 68 false:=λw=>by kernel_rfl
theorem sz68:Sz prog 68 1:=λw=>by kernel_rfl
theorem M2_ (H:Hp) (r:Int) (r_r:0<=r/\r<=4294967295) (b:Int) (b_r:0<=b/\b<=255) (hCrc:GTab H 7 laidT):Pr prog 221 #[.int .u32 r, .int .u8 b] H (.int .u32 (Fd_ r b)):=by
 refine pr_cw func221 Y ntmps221 Y (λN=>?_);obtain⟨T0,fr0,hT0⟩:=hCrc;refine Ad_ (O_ (oai Y Y (Aj_ (Ag_ (Ad_ ?_)))));refine O_ (omi Y Y (omi Y Y (ol Y (C8_ Y (by rw[underlying5];rfl) underlying68 (rg_u32 yY)) ?_)));have :=Mu_ ((BitVec.ofInt (IntKind.bits .u32) r ^^^ BitVec.ofInt (IntKind.bits .u32) b).toNat);refine ol Y (K9_ Y Y) (oai Y Y (Aj_ (Ag_ (Ad_ (Ad_ ?_)))));refine O_ (omi Y Y (Aj_ (Ag_ (Bb_ (M5_ [0,9,10,11,12,13,14,15,16,17,18] [] (λ(k:Nat) (q:Int) G=>upd (upd (G) 0 (.int .u32 q)) 9 (.int .i64 (k:Int))) (λ(k:Nat) (q:Int) G=>G) (λ(k:Nat) (q:Int) H'=>k<=2/\M1_ (2-k) q=Fd_ r b) (λ(k:Nat) (q:Int)=>2-k) 0 (Mv_ r b) (Bm_ (Bm_ (B9_ xU) Y) Y) (Bs_ Cx_) ?_ ?_)))));exact⟨Nat.zero_le _,rfl⟩;intro k q J2 JL2 H2 hp1 hl2;obtain⟨hk1,hk2⟩:=hp1;refine Ad_ (O_ (ol Y (O6_ Y Y) (Aj_ (Ag_ (Ad_ ?_)))));refine Dw_ Y (λh3=>?_) (λh3=>?_);have p4:=dt h3;refine Dy_ (Ag_ (Ad_ (Bb_ (O_ (omi Y Y ?_)))));refine ol Y (Im_ Y Y yY) (omi Y Y ?_);have :=Mu_ ((BitVec.ofInt (IntKind.bits .u32) q &&& BitVec.ofInt (IntKind.bits .u32) 15).toNat);refine ol Y (O1_ Y Y) (ol Y (lo_gidx (m:=((IntKind.wrap .u32 ((BitVec.ofInt (IntKind.bits .u32) q &&& BitVec.ofInt (IntKind.bits .u32) 15).toNat))).toNat) Y underlying450 sz68 yY (H0_ _)) (ol Y (Ik_ Y ag68 (((HLe.refl _).trans hl2) _ _ hT0) (tab_get (H0_ _))) ?_));have :=Mu_ ((BitVec.ofInt (IntKind.bits .u32) (Int.fdiv q (2 ^ (min (4:Int).toNat (IntKind.bits .u32)))) ^^^ BitVec.ofInt (IntKind.bits .u32) (laidT.getD ((IntKind.wrap .u32 ((BitVec.ofInt (IntKind.bits .u32) q &&& BitVec.ofInt (IntKind.bits .u32) 15).toNat))).toNat 0)).toNat);refine ol Y (K9_ Y Y) (oai Y Y (Aj_ (Oo_ (Ag_ (O_ ?_)))));refine ol Y (lo_add Y Y (Iy_ yY)) (omi Y Y (Aj_ ?_));refine next2 (k+1) (crc1 q) (Bm_ (Bm_ (B9_ xU) Y) Y) (Bs_ wB) hl2 ?_ ?_;refine⟨by omega,?_⟩;rw[<- hk2,show 2-k=(2-(k+1))+1 by omega];rfl;omega;have p5:=df h3;refine Fe_ (Po_ (Lb_ (H3_ (Ag_ (Ad_ ?_)))));refine O_ (omi Y Y (oai Y Y (Aj_ (Ag_ (Et_ ?_)))));refine Kp_ (res1 Y (rv_t (v:= .int _ _) Y)) ((HLe.refl _).trans hl2) ?_;obtain rfl :k=2:=by omega
 exact congrArg (Value.int .u32) hk2
end Go.SW
namespace Go.Proofs
open Go.Shelf
def Tryz.lays105_ren:Go.Shelf.Ren:=⟨λ|105=>360|212=>445|99=>446|165=>67|166=>68|170=>447|169=>69|263=>516|264=>517|206=>518|240=>104|241=>105|276=>143|277=>144|n=>n,λ|9=>9|3=>3|4=>4|20=>20|0=>0|46=>221|109=>589|5=>5|72=>118|76=>122|51=>68|146=>513|53=>28|148=>642|70=>115|37=>116|75=>121|127=>173|164=>225|80=>124|n=>n,λ|n=>n⟩
theorem Tryz.lays105:Go.Proofs.Lays.n105 prog Tryz.lays105_ren:={
 mixed:=by kernel_rfl
 f99:=func446.trans (congrArg some yZ)
 f105:=func360.trans (congrArg some yZ)
 f165:=func67.trans (congrArg some yZ)
 f166:=func68.trans (congrArg some yZ)
 f169:=func69.trans (congrArg some yZ)
 f170:=func447.trans (congrArg some yZ)
 f206:=func518.trans (congrArg some yZ)
 f212:=func445.trans (congrArg some yZ)
 f240:=func104.trans (congrArg some yZ)
 f241:=func105.trans (congrArg some yZ)
 f263:=func516.trans (congrArg some yZ)
 f264:=func517.trans (congrArg some yZ)
 f276:=func143.trans (congrArg some yZ)
 f277:=func144.trans (congrArg some yZ)
 t0:=underlying0
 a0:=isAgg0
 z0:=sizeOf0
 v0:=zeroValue0
 t3:=underlying3
 a3:=isAgg3
 z3:=sizeOf3
 v3:=zeroValue3
 t4:=underlying4
 a4:=isAgg4
 z4:=sizeOf4
 v4:=zeroValue4
 t5:=underlying5
 a5:=isAgg5
 z5:=sizeOf5
 v5:=zeroValue5
 t9:=underlying9
 a9:=isAgg9
 z9:=sizeOf9
 v9:=zeroValue9
 t20:=underlying20
 a20:=isAgg20
 z20:=sizeOf20
 v20:=zeroValue20
 t37:=underlying116
 a37:=isAgg116
 z37:=sizeOf116
 v37:=zeroValue116
 t46:=underlying221
 a46:=isAgg221
 z46:=sizeOf221
 v46:=zeroValue221
 t51:=underlying68
 a51:=isAgg68
 z51:=sizeOf68
 v51:=zeroValue68
 t53:=underlying28
 a53:=isAgg28
 z53:=sizeOf28
 v53:=zeroValue28
 t70:=underlying115
 a70:=isAgg115
 z70:=sizeOf115
 v70:=zeroValue115
 t72:=underlying118
 a72:=isAgg118
 z72:=sizeOf118
 v72:=zeroValue118
 t75:=underlying121
 a75:=isAgg121
 z75:=sizeOf121
 v75:=zeroValue121
 t76:=underlying122
 a76:=isAgg122
 z76:=sizeOf122
 v76:=zeroValue122
 t109:=underlying589
 a109:=isAgg589
 z109:=sizeOf589
 v109:=zeroValue589
 t127:=underlying173
 a127:=isAgg173
 z127:=sizeOf173
 v127:=zeroValue173
 t146:=underlying513
 a146:=isAgg513
 z146:=sizeOf513
 v146:=zeroValue513
 t148:=underlying642
 a148:=isAgg642
 z148:=sizeOf642
 v148:=zeroValue642
 t164:=underlying225
 a164:=isAgg225
 z164:=sizeOf225
 v164:=zeroValue225}
theorem Tryz.Builder_Extra_105:Builder.Extra prog Tryz.lays105_ren:={
 sizeBuilder:=by kernel_rfl
 liesBuilder:=by kernel_rfl
 t5:=underlying5
 a5:=isAgg5
 z5:=sizeOf5
 v5:=zeroValue5
 infoByte:=by kernel_rfl
 cellsByte:=by kernel_rfl
 sizeByte:=by kernel_rfl
 neB5:=by decide}
open Go.RowKit Go.Lib in
theorem Tryz.strings_Repeat (s:ByteArray) (c:Nat) (w:World) (hc:c<=9223372036854775807) (hlen:s.size*c<=140737488355328) :
   Calls prog 360 #[.string s, .int .i64 c] w λe w'=>e = .returned (.string ⟨(Lib.repeatL s.data.toList c).toArray⟩)/\Below w.heap.size w w':=Any.strings_Repeat Tryz.lays105 Tryz.Builder_Extra_105 s c w hc hlen
end Go.Proofs
namespace Go.SW
open Go.Proofs
theorem Ht_ (s:Bs) (c:Nat) (N:Rest) (H:Hp) (L:Ls) (w:World) (h:s.length*c<=140737488355328) (hc:c<=9223372036854775807) (hm:Mem N H L w):Calls prog 360 #[str s, .int .i64 (c:Int)] w λen w'=>en = .returned (str (Lib.repeatL s c))/\Mem N H L w':=by
 refine (Tryz.strings_Repeat ⟨s.toArray⟩ c w hc (by simpa [ByteArray.size] using h)).mono λe w' ⟨he,hb⟩=>⟨he,?_⟩;refine hm.of_same hb.os hb.tape hb.output λc o ho=>?_;rw[hb.block c (by by_cases q:c<w.heap.size;exact q;rw[Array.getElem?_eq_none yY] at ho;cases ho)]
 exact ho
end Go.SW
namespace Go.SW
open Go.MapKept
variable {P:Program} {n:Nat} {N:Rest} {ops:List Oper} {F:Fr} {H:Hp} {L:Ls} {K:Fr->Hp->Ls->Prop} {T ty d:Nat} {pos:String} {af:Array Edge} {x y z:Operand} {κ ν:Type}
theorem Lt_ (i:Nat) (hd:Nat.blt d n=true) (k:∀ b,K (upd F d (.map (some b))) H (lupd L i (some (b, .map #[] 0)))):Op1 P n N ops ⟨some d, .makeMap T none,ty,pos,af,none⟩ K F H L:=by
 intro a w ha hm;rw[if_pos xC];unfold Oper.wp;have :(execOp a.eval ⟨some d, .makeMap T none,ty,pos,af,none⟩).run P w = .ok (.value (.map (some w.heap.size))) {w with heap:=w.heap.push (.map #[] 0)}:=by
   rw[ha.eval]
   simp[execOp,Instr.makeMap,Result.andThen]
 exact yG
end Go.SW
namespace Go.CE
open Go.SW
inductive Tr (α:Type) where
 |e
 |n (l:Tr α) (v:Option α) (r:Tr α)
noncomputable def Tr.get {α:Type} (t:Tr α) (k:Nat):Option α:=Tr.rec (motive:=λ_=>Nat->Option α) (λ_=>none) (λ_ v _ ihl ihr k=>Nat.rec (motive:=λ_=>Option α) v (λk _=>Bool.rec (motive:=λ_=>Option α) (ihr (Nat.div k 2)) (ihl (Nat.div k 2)) (Nat.beq (Nat.mod k 2) 0)) k) t k
theorem Tr.get_e {α:Type} {k:Nat}:(Tr.e:Tr α).get k=none:=rfl
theorem Tr.get_0 {α:Type} {l r:Tr α} {v:Option α}:(Tr.n l v r).get 0=v:=rfl
theorem Tr.get_s {α:Type} {l r:Tr α} {v:Option α} {k:Nat}:(Tr.n l v r).get (k+1) = bif Nat.beq (k%2) 0 then l.get (k/2) else r.get (k/2):=by
 show Bool.rec (motive:=λ_=>Option α) (r.get (k/2)) (l.get (k/2)) (Nat.beq (k%2) 0)=_
 cases Nat.beq (k%2) 0<;>rfl
section
variable {α β:Type}
noncomputable def sRoot (t:Tr α) (v:α) (c:Tr α->Option β):Option β:=Tr.rec (motive:=λ_=>Option β) (c (.n .e (some v) .e)) (λl _ r _ _=>c (.n l (some v) r)) t
noncomputable def sL (ih:Tr α->α->(Tr α->Option β)->Option β) (t:Tr α) (v:α) (c:Tr α->Option β):Option β:=Tr.rec (motive:=λ_=>Option β) (ih .e v λl=>c (.n l none .e)) (λl w r _ _=>ih l v λl=>c (.n l w r)) t
noncomputable def sR (ih:Tr α->α->(Tr α->Option β)->Option β) (t:Tr α) (v:α) (c:Tr α->Option β):Option β:=Tr.rec (motive:=λ_=>Option β) (ih .e v λr=>c (.n .e none r)) (λl w r _ _=>ih r v λr=>c (.n l w r)) t
noncomputable def sS:Nat->Nat->Tr α->α->(Tr α->Option β)->Option β:=Nat.rec (motive:=λ_=>Nat->Tr α->α->(Tr α->Option β)->Option β) (λ_ _ _ _=>none) (λ_ ih k=>Nat.rec (motive:=λ_=>Tr α->α->(Tr α->Option β)->Option β) sRoot (λk _=>Bool.rec (motive:=λ_=>Tr α->α->(Tr α->Option β)->Option β) (sR (ih (Nat.div k 2))) (sL (ih (Nat.div k 2))) (Nat.beq (Nat.mod k 2) 0)) k)
end
noncomputable def Tr.setK {α β:Type} (d:Nat) (t:Tr α) (k:Nat) (v:α) (c:Tr α->Option β):Option β:=sS d k t v c
theorem Tr.setK_0 {α β:Type} {t:Tr α} {k:Nat} {v:α} {c:Tr α->Option β}:Tr.setK 0 t k v c=none:=rfl
theorem Tr.setK_e0 {α β:Type} {d:Nat} {v:α} {c:Tr α->Option β}:Tr.setK (d+1) .e 0 v c=c (.n .e (some v) .e):=rfl
theorem Tr.setK_n0 {α β:Type} {d:Nat} {l r:Tr α} {w:Option α} {v:α} {c:Tr α->Option β}:Tr.setK (d+1) (.n l w r) 0 v c=c (.n l (some v) r):=rfl
theorem Tr.setK_es {α β:Type} {d k:Nat} {v:α} {c:Tr α->Option β}:Tr.setK (d+1) .e (k+1) v c = bif Nat.beq (k%2) 0 then Tr.setK d .e (k/2) v (λl=>c (.n l none .e)) else Tr.setK d .e (k/2) v (λr=>c (.n .e none r)):=by
 show Bool.rec (motive:=λ_=>Tr α->α->(Tr α->Option β)->Option β) (sR (sS d (k/2))) (sL (sS d (k/2))) (Nat.beq (k%2) 0) .e v c=_
 cases Nat.beq (k%2) 0<;>rfl
theorem Tr.setK_ns {α β:Type} {d k:Nat} {l r:Tr α} {w:Option α} {v:α} {c:Tr α->Option β}:Tr.setK (d+1) (.n l w r) (k+1) v c = bif Nat.beq (k%2) 0 then Tr.setK d l (k/2) v (λl=>c (.n l w r)) else Tr.setK d r (k/2) v (λr=>c (.n l w r)):=by
 show Bool.rec (motive:=λ_=>Tr α->α->(Tr α->Option β)->Option β) (sR (sS d (k/2))) (sL (sS d (k/2))) (Nat.beq (k%2) 0) (.n l w r) v c=_
 cases Nat.beq (k%2) 0<;>rfl
theorem Tr.setK_ok {α β:Type}:∀ (d:Nat) (t:Tr α) (k:Nat) (v:α) (c:Tr α->Option β) (z:β),Tr.setK d t k v c=some z ->
   ∃ t':Tr α,c t'=some z/\t'.get k=some v/\∀ j,j≠k->t'.get j=t.get j
 |0,_,_,_,_,_,h=>by rw[Tr.setK_0] at h;cases h
 |d+1,t,k,v,c,z,h=>by
   have hp:∀ a b:Nat,a%2=b%2->a/2=b/2->a=b:=λa b _ _=>by omega
   have h01:∀ a:Nat,a%2=0\/a%2=1:=λa=>by omega
   cases t with
   |e=>
     cases k with
     |zero=>
       simp only[Tr.setK_e0,Tr.setK_n0,Tr.setK_es,Tr.setK_ns] at h
       exact⟨_,h,rfl,λj hj=>by cases j with|zero=>exact absurd Y hj|succ j=>simp[Tr.get_e,Tr.get_0,Tr.get_s]⟩
     |succ k=>
       simp only[Tr.setK_e0,Tr.setK_n0,Tr.setK_es,Tr.setK_ns] at h
       cases e:Nat.beq (k%2) 0 with
       |true=>
         rw[e] at h
         obtain⟨t',h1,h2,h3⟩:=Tr.setK_ok d _ _ _ _ _ h
         refine⟨_,h1,by simp[Tr.get_s,e,h2],λj hj=>?_⟩
         cases j with
         |zero=>simp[Tr.get_e,Tr.get_0,Tr.get_s]
         |succ j=>
           simp only[Tr.get_e,Tr.get_0,Tr.get_s]
           cases e':Nat.beq (j%2) 0 with
           |true=>
             have a:=Nat.eq_of_beq_eq_true e;have b:=Nat.eq_of_beq_eq_true e'
             have :=h3 (j/2) (λq=>hj xQ)
             simpa [Tr.get_e] using this
           |false=>rfl
       |false=>
         rw[e] at h
         obtain⟨t',h1,h2,h3⟩:=Tr.setK_ok d _ _ _ _ _ h
         refine⟨_,h1,by simp[Tr.get_s,e,h2],λj hj=>?_⟩
         cases j with
         |zero=>simp[Tr.get_e,Tr.get_0,Tr.get_s]
         |succ j=>
           simp only[Tr.get_e,Tr.get_0,Tr.get_s]
           cases e':Nat.beq (j%2) 0 with
           |true=>rfl
           |false=>
             have a:=Nat.ne_of_beq_eq_false e;have b:=Nat.ne_of_beq_eq_false e'
             have :=h3 (j/2) (λq=>hj xQ)
             simpa [Tr.get_e] using this
   |n l w r=>
     cases k with
     |zero=>
       simp only[Tr.setK_e0,Tr.setK_n0,Tr.setK_es,Tr.setK_ns] at h
       exact⟨_,h,rfl,λj hj=>by cases j with|zero=>exact absurd Y hj|succ j=>simp[Tr.get_e,Tr.get_0,Tr.get_s]⟩
     |succ k=>
       simp only[Tr.setK_e0,Tr.setK_n0,Tr.setK_es,Tr.setK_ns] at h
       cases e:Nat.beq (k%2) 0 with
       |true=>
         rw[e] at h
         obtain⟨t',h1,h2,h3⟩:=Tr.setK_ok d _ _ _ _ _ h
         refine⟨_,h1,by simp[Tr.get_s,e,h2],λj hj=>?_⟩
         cases j with
         |zero=>simp[Tr.get_e,Tr.get_0,Tr.get_s]
         |succ j=>
           simp only[Tr.get_e,Tr.get_0,Tr.get_s]
           cases e':Nat.beq (j%2) 0 with
           |true=>
             have a:=Nat.eq_of_beq_eq_true e;have b:=Nat.eq_of_beq_eq_true e'
             exact h3 (j/2) (λq=>hj xQ)
           |false=>rfl
       |false=>
         rw[e] at h
         obtain⟨t',h1,h2,h3⟩:=Tr.setK_ok d _ _ _ _ _ h
         refine⟨_,h1,by simp[Tr.get_s,e,h2],λj hj=>?_⟩
         cases j with
         |zero=>simp[Tr.get_e,Tr.get_0,Tr.get_s]
         |succ j=>
           simp only[Tr.get_e,Tr.get_0,Tr.get_s]
           cases e':Nat.beq (j%2) 0 with
           |true=>rfl
           |false=>
             have a:=Nat.ne_of_beq_eq_false e;have b:=Nat.ne_of_beq_eq_false e'
             exact h3 (j/2) (λq=>hj xQ)
inductive CV where
 |int (k:IntKind) (z:Int)
 |bool (b:Bool)
 |str (n x:Nat)
 |agg (cs:List CV)
 |tup (vs:List CV)
 |ptr (i off:Nat)
 |gp (g off:Nat)
 |nilp
 |sl (i off len cap:Nat)
 |slu (i off len k:Nat)
 |nils
 |fn (f:FuncId) (first cap:List CV)
 |nilf
 |mp (i:Nat)
 |nilm
 |ifc (t:TypeId) (v:CV)
 |nili
structure Pl where
 b:Nat
 s:Nat
 r:Nat
abbrev Be:=Nat->Option Pl
def Be.le (β β':Be):Prop:=∀ i q,β i=some q->β' i=some q
theorem Be.le.refl (β:Be):β.le β:=λ_ _ h=>h
theorem Be.le.trans {a b c:Be} (h:a.le b) (k:b.le c):a.le c:=λi q x=>k i q (h i q x)
def dec:Nat->Nat->Bs
 |0,_=>[]
 |n+1,x=>UInt8.ofNat (x%256)::dec n (x/256)
theorem B_:∀ (n x:Nat),(dec n x).length=n
 |0,_=>rfl
 |n+1,x=>by simp[dec,B_ n]
theorem Ck_:∀ (n m x y:Nat),x<256 ^ n->dec n x++dec m y=dec (n+m) (x+y*256 ^ n)
 |0,m,x,y,h=>by simp at h;subst h;simp[dec]
 |n+1,m,x,y,h=>by
   have h1:x/256<256 ^ n:=by rw[Nat.pow_succ] at h;omega
   have e:(x+y*256 ^ (n+1))%256=x%256:=by rw[Nat.pow_succ,<- Nat.mul_assoc];omega
   have e2:(x+y*256 ^ (n+1))/256=x/256+y*256 ^ n:=by rw[Nat.pow_succ,<- Nat.mul_assoc];omega
   rw[show n+1+m=(n+m)+1 by omega]
   simp only[dec,List.cons_append]
   rw[Ck_ n m _ y h1,e,e2]
theorem Bq_:∀ (l n x:Nat),l<=n->(dec n x).drop l=dec (n-l) (x/256 ^ l)
 |0,n,x,_=>by simp
 |l+1,0,x,h=>by omega
 |l+1,n+1,x,h=>by
   simp only[dec,List.drop_succ_cons]
   rw[Bq_ l n _ yY,Nat.div_div_eq_div_mul,Nat.pow_succ,Nat.mul_comm 256,show n+1-(l+1)=n-l by omega]
theorem Bc_:∀ (l n x:Nat),l<=n->(dec n x).take l=dec l (x%256 ^ l)
 |0,n,x,_=>by simp[dec]
 |l+1,0,x,h=>by omega
 |l+1,n+1,x,h=>by
   simp only[dec,List.take_succ_cons]
   have e:x%256 ^ (l+1)%256=x%256:=by rw[Nat.pow_succ];exact Nat.mod_mod_of_dvd _ ⟨256 ^ l,Nat.mul_comm _ _⟩
   have e2:x%256 ^ (l+1)/256=x/256%256 ^ l:=by rw[Nat.pow_succ,Nat.mul_comm];exact Nat.mod_mul_right_div_self _ _ _
   rw[Bc_ l n _ yY,e,e2]
theorem J7_:∀ (n x y:Nat),x<256 ^ n->y<256 ^ n->dec n x=dec n y->x=y
 |0,x,y,h,k,_=>by simp at h k;omega
 |n+1,x,y,h,k,e=>by
   rw[Nat.pow_succ] at h k
   simp only[dec,List.cons.injEq] at e
   have :=J7_ n _ _ yY yY e.2
   have e1:=congrArg UInt8.toNat e.1
   simp at e1
   omega
theorem Dz_:∀ (n x i:Nat),i<n->(dec n x)[i]? = some (UInt8.ofNat (x/256 ^ i%256))
 |0,_,_,h=>by omega
 |n+1,x,0,_=>by simp[dec]
 |n+1,x,i+1,h=>by
   simp only[dec,List.getElem?_cons_succ]
   rw[Dz_ n _ i yY,Nat.div_div_eq_div_mul,Nat.pow_succ,Nat.mul_comm 256]
def enc:Bs->Nat
 |[]=>0
 |a::r=>a.toNat+256*enc r
theorem H8_:∀ (s:Bs),enc s<256 ^ s.length
 |[]=>by simp[enc]
 |a::r=>by
   have :=H8_ r
   have h:=a.toNat_lt
   simp only[enc,List.length_cons,Nat.pow_succ]
   omega
theorem Ff_:∀ (s:Bs),dec s.length (enc s)=s
 |[]=>rfl
 |a::r=>by
   have h:=a.toNat_lt
   simp only[enc,List.length_cons,dec]
   rw[show (a.toNat+256*enc r)%256=a.toNat by omega,show (a.toNat+256*enc r)/256=enc r by omega,Ff_ r]
   simp
mutual
def VR (β:Be):CV->Value->Prop
 | .int k z,v=>v = .int k z
 | .bool b,v=>v = .bool b
 | .str n x,v=>x<256 ^ n/\v=SW.str (dec n x)
 | .agg cs,v=>∃ vs,v = .agg vs.toArray/\VRs β cs vs
 | .tup cs,v=>∃ vs,v = .tuple vs.toArray/\VRs β cs vs
 | .ptr i off,v=>∃ q,β i=some q/\v = .pointer (some ⟨q.b,q.s+off,none⟩)
 | .gp g off,v=>v = .pointer (some ⟨g,off,none⟩)
 | .nilp,v=>v = .pointer none
 | .sl i off len cap,v=>∃ q,β i=some q/\v = .slice (some ⟨q.b,q.s+off,none⟩) len cap
 | .slu i off len k,v=>∃ q c a,β i=some q/\off+c*k=q.r/\len<=c/\v = .slice (some a) len c/\(0<c->a=⟨q.b,q.s+off,none⟩)
 | .nils,v=>v = .slice none 0 0
 | .fn f first cap,v=>∃ vs us,v = .func (.func f) vs.toArray us.toArray/\VRs β first vs/\VRs β cap us
 | .nilf,v=>v = .nilFunc
 | .mp i,v=>∃ q,β i=some q/\v = .map (some q.b)
 | .nilm,v=>v = .map none
 | .ifc t x,v=>∃ u,v = .iface t u/\VR β x u
 | .nili,v=>v = .nilIface
def VRs (β:Be):List CV->List Value->Prop
 |[],vs=>vs=[]
 |c::r,vs=>∃ v us,vs=v::us/\VR β c v/\VRs β r us
end
mutual
theorem VR.mono {β β':Be} (hl:β.le β'):∀ {c:CV} {v:Value},VR β c v->VR β' c v
 | .int _ _,_,h=>h
 | .bool _,_,h=>h
 | .str _ _,_,h=>h
 | .agg _,_,h=>by simp only[VR] at h ⊢;obtain⟨vs,rfl,h1⟩:=h;exact⟨vs,rfl,VRs.mono hl h1⟩
 | .tup _,_,h=>by simp only[VR] at h ⊢;obtain⟨vs,rfl,h1⟩:=h;exact⟨vs,rfl,VRs.mono hl h1⟩
 | .ptr _ _,_,h=>by simp only[VR] at h ⊢;obtain⟨q,h1,h2⟩:=h;exact⟨q,hl _ _ h1,h2⟩
 | .gp _ _,_,h=>h
 | .nilp,_,h=>h
 | .sl _ _ _ _,_,h=>by simp only[VR] at h ⊢;obtain⟨q,h1,h2⟩:=h;exact⟨q,hl _ _ h1,h2⟩
 | .slu _ _ _ _,_,h=>by simp only[VR] at h ⊢;obtain⟨q,c,a,h1,h2⟩:=h;exact⟨q,c,a,hl _ _ h1,h2⟩
 | .nils,_,h=>h
 | .fn _ _ _,_,h=>by simp only[VR] at h ⊢;obtain⟨vs,us,rfl,h1,h2⟩:=h;exact⟨vs,us,rfl,VRs.mono hl h1,VRs.mono hl h2⟩
 | .nilf,_,h=>h
 | .mp _,_,h=>by simp only[VR] at h ⊢;obtain⟨q,h1,h2⟩:=h;exact⟨q,hl _ _ h1,h2⟩
 | .nilm,_,h=>h
 | .ifc _ _,_,h=>by simp only[VR] at h ⊢;obtain⟨u,rfl,h1⟩:=h;exact⟨u,rfl,VR.mono hl h1⟩
 | .nili,_,h=>h
theorem VRs.mono {β β':Be} (hl:β.le β'):∀ {cs:List CV} {vs:List Value},VRs β cs vs->VRs β' cs vs
 |[],_,h=>h
 |_::_,_,h=>by simp only[VRs] at h ⊢;obtain⟨v,us,rfl,h1,h2⟩:=h;exact⟨v,us,rfl,VR.mono hl h1,VRs.mono hl h2⟩
end
theorem VRs.length {β:Be}:∀ {cs:List CV} {vs:List Value},VRs β cs vs->vs.length=cs.length
 |[],_,h=>by simp only[VRs] at h;subst h;rfl
 |_::_,_,h=>by simp only[VRs] at h;obtain⟨v,us,rfl,_,h2⟩:=h;simp[VRs.length h2]
theorem VRs.nil {β:Be}:VRs β [] []:=by simp[VRs]
theorem VRs.cons {β:Be} {c:CV} {v:Value} {cs:List CV} {vs:List Value} (h:VR β c v) (k:VRs β cs vs):VRs β (c::cs) (v::vs):=by simp only[VRs];exact⟨v,vs,rfl,h,k⟩
theorem VRs.cons_inv {β:Be} {c:CV} {cs:List CV} {vs:List Value} (h:VRs β (c::cs) vs):∃ v us,vs=v::us/\VR β c v/\VRs β cs us:=by simpa only[VRs] using h
theorem VRs.nil_inv {β:Be} {vs:List Value} (h:VRs β [] vs):vs=[]:=by simpa only[VRs] using h
theorem VRs.app {β:Be}:∀ {cs ds:List CV} {vs us:List Value},VRs β cs vs->VRs β ds us->VRs β (cs++ds) (vs++us)
 |[],_,_,_,h,k=>by rw[h.nil_inv];exact k
 |_::_,_,_,_,h,k=>by obtain⟨v,us',rfl,h1,h2⟩:=h.cons_inv;exact .cons h1 (h2.app k)
theorem VRs.get {β:Be}:∀ {cs:List CV} {vs:List Value},VRs β cs vs->∀ {i:Nat} {c:CV},cs[i]? = some c->∃ v,vs[i]? = some v/\VR β c v
 |[],_,_,i,c,e=>by simp at e
 |_::_,_,h,i,c,e=>by
   obtain⟨v,us,rfl,h1,h2⟩:=h.cons_inv
   cases i with
   |zero=>simp at e;subst e;exact⟨v,rfl,h1⟩
   |succ i=>simp at e;obtain⟨w,h3,h4⟩:=h2.get e;exact⟨w,by simpa using h3,h4⟩
theorem VRs.take {β:Be}:∀ (n:Nat) {cs:List CV} {vs:List Value},VRs β cs vs->VRs β (cs.take n) (vs.take n)
 |0,_,_,_=>by simp[VRs]
 |n+1,[],_,h=>by rw[h.nil_inv];simp[VRs]
 |n+1,_::_,_,h=>by obtain⟨v,us,rfl,h1,h2⟩:=h.cons_inv;simp only[List.take_succ_cons];exact .cons h1 (h2.take n)
theorem VRs.drop {β:Be}:∀ (n:Nat) {cs:List CV} {vs:List Value},VRs β cs vs->VRs β (cs.drop n) (vs.drop n)
 |0,_,_,h=>by simpa using h
 |n+1,[],_,h=>by rw[h.nil_inv];simp[VRs]
 |n+1,_::_,_,h=>by obtain⟨v,us,rfl,h1,h2⟩:=h.cons_inv;simp only[List.drop_succ_cons];exact h2.drop n
theorem VRs.set {β:Be}:∀ {cs:List CV} {vs:List Value} (n:Nat) {c:CV} {v:Value},VRs β cs vs->VR β c v->VRs β (cs.set n c) (vs.set n v)
 |[],_,_,_,_,h,_=>by rw[h.nil_inv];simp[VRs]
 |_::_,_,0,_,_,h,k=>by obtain⟨v,us,rfl,h1,h2⟩:=h.cons_inv;exact .cons k h2
 |_::_,_,n+1,_,_,h,k=>by obtain⟨v,us,rfl,h1,h2⟩:=h.cons_inv;exact .cons h1 (h2.set n k)
def one:CV->Bool
 | .agg _=>false
 | .tup _=>false
 |_=>true
theorem Lo_ {β:Be} {c:CV} {v:Value} (h:VR β c v) (ho:one c=true):v.oneCell'=true:=by
 cases c<;>simp only[VR,one] at h ho<;>first
   |(subst h;rfl)
   |(cases ho;done)
   |(obtain⟨_,rfl⟩:=h;rfl)
   |(obtain⟨_,_,rfl⟩:=h;rfl)
   |(obtain⟨_,rfl,_⟩:=h;rfl)
   |(obtain⟨_,_,_,_,_,_,rfl,_⟩:=h;rfl)
   |(obtain⟨_,_,rfl,_⟩:=h;rfl)
def all1:List CV->Bool
 |[]=>true
 |c::r=>one c&&all1 r
theorem A3_ {β:Be}:∀ {cs:List CV} {vs:List Value},VRs β cs vs->all1 cs=true->∀ v∈vs,v.oneCell'=true
 |[],_,h,_,v,hv=>by rw[h.nil_inv] at hv;cases hv
 |_::_,_,h,k,v,hv=>by
   obtain⟨w,us,rfl,h1,h2⟩:=h.cons_inv
   simp only[all1,Bool.and_eq_true] at k
   rcases List.mem_cons.1 hv with rfl|hv
   . exact Lo_ h1 k.1
   . exact A3_ h2 k.2 v hv
inductive HB where
 |cells (T:TypeId) (cs:List CV) (gr:Bool)
 |bys (T:TypeId) (n x:Nat) (gr:Bool)
 |rob (T:TypeId) (n x:Nat)
 |itr (n x p:Nat)
 |mp (es:List (CV×CV×Nat)) (clk:Nat)
 |dead
def ER (β:Be) (x:CV×CV×Nat) (e:MapEntry):Prop:=VR β x.1 e.key/\VR β x.2.1 e.val/\e.born=x.2.2
def ERs (β:Be):List (CV×CV×Nat)->List MapEntry->Prop
 |[],es=>es=[]
 |x::r,es=>∃ e fs,es=e::fs/\ER β x e/\ERs β r fs
theorem ERs.mono {β β':Be} (hl:β.le β'):∀ {xs:List (CV×CV×Nat)} {es:List MapEntry},ERs β xs es->ERs β' xs es
 |[],_,h=>h
 |_::_,_,h=>by simp only[ERs] at h ⊢;obtain⟨e,fs,rfl,h1,h2⟩:=h;exact⟨e,fs,rfl,⟨h1.1.mono hl,h1.2.1.mono hl,h1.2.2⟩,h2.mono hl⟩
def BR (β:Be) (i:Nat):HB->Option (Nat×Obj)->Prop
 | .cells T cs gr,x=>∃ q vs,β i=some q/\x=some (q.b,bx T vs)/\vs.length=q.s+q.r/\cs.length<=q.r/\(gr=false->q.s=0/\q.r=cs.length)/\VRs β cs ((vs.drop q.s).take cs.length)/\∀ v∈vs,v.oneCell'=true
 | .bys T n z gr,x=>∃ q vs,β i=some q/\x=some (q.b,bx T vs)/\vs.length=q.s+q.r/\n<=q.r/\(gr=false->q.s=0/\q.r=n)/\z<256 ^ n/\(vs.drop q.s).take n=(dec n z).map u8v/\∀ v∈vs,v.oneCell'=true
 | .rob T n z,x=>∃ q vs fr,β i=some q/\x=some (q.b, .cells vs T fr)/\q.s=0/\z<256 ^ n/\vs.toList.take n=(dec n z).map u8v
 | .itr n z p,x=>∃ q,β i=some q/\q.s=0/\z<256 ^ n/\x=some (q.b,SW.itr (dec n z) p)
 | .mp es clk,x=>∃ q fs,β i=some q/\x=some (q.b, .map fs clk)/\ERs β es fs.toList
 | .dead,x=>x=none
theorem BR.mono {β β':Be} (hl:β.le β') {i:Nat} {hb:HB} {x:Option (Nat×Obj)} (h:BR β i hb x):BR β' i hb x:=by
 cases hb with
 |cells T cs gr=>obtain⟨q,vs,h1,h2,h3,h4,h5,h6,h7⟩:=h;exact⟨q,vs,hl _ _ h1,h2,h3,h4,h5,h6.mono hl,h7⟩
 |bys T n z gr=>obtain⟨q,vs,h1,h2⟩:=h;exact⟨q,vs,hl _ _ h1,h2⟩
 |rob T n z=>obtain⟨q,vs,fr,h1,h2⟩:=h;exact⟨q,vs,fr,hl _ _ h1,h2⟩
 |itr n z p=>obtain⟨q,h1,h2⟩:=h;exact⟨q,hl _ _ h1,h2⟩
 |mp es clk=>obtain⟨q,fs,h1,h2,h3⟩:=h;exact⟨q,fs,hl _ _ h1,h2,h3.mono hl⟩
 |dead=>exact h
abbrev Fe:=Nat->Option CV
abbrev He:=Tr HB
def FR (β:Be) (f:Fe) (F:Fr):Prop:=∀ t c,f t=some c->VR β c (F t)
structure HR (β:Be) (h:He) (nx:Nat) (L:Ls):Prop where
 br:∀ i hb,h.get i=some hb->BR β i hb (L i)
 lt:∀ i hb,h.get i=some hb->i<nx
 fr:∀ i,nx<=i->β i=none/\L i=none
theorem FR.mono {β β':Be} (hl:β.le β') {f:Fe} {F:Fr} (h:FR β f F):FR β' f F:=λt c e=>(h t c e).mono hl
variable {P:Program} {N:SW.Rest} {F:Fr} {H:Hp} {L:Ls} {ty T T':TypeId} {x y z:Operand} {β:Be} {f:Fe}
def vC1:Value->Option CV
 | .int k n=>some (.int k n)
 | .bool b=>some (.bool b)
 | .string s=>some (.str s.data.toList.length (enc s.data.toList))
 | .pointer none=>some .nilp
 | .slice none 0 0=>some .nils
 | .nilFunc=>some .nilf
 | .map none=>some .nilm
 | .nilIface=>some .nili
 |_=>none
def vCs:List Value->Option (List CV)
 |[]=>some []
 |v::r=>match vC1 v with
   |some c=>match vCs r with
     |some cs=>some (c::cs)
     |none=>none
   |none=>none
def vC:Value->Option CV
 | .agg cs=>match vCs cs.toList with
   |some cs=>some (.agg cs)
   |none=>none
 |v=>vC1 v
theorem Pq_ {v:Value} {c:CV} (h:vC1 v=some c):VR β c v:=by
 unfold vC1 at h
 split at h<;>first|(cases h;done)|skip
 all_goals (simp only[Option.some.injEq] at h;subst h)
 all_goals simp only[VR]
 rename_i s
 exact⟨H8_ _,by rw[Ff_];exact I2_ s⟩
theorem Mr_:∀ {vs:List Value} {cs:List CV},vCs vs=some cs->VRs β cs vs
 |[],cs,h=>by simp only[vCs,Option.some.injEq] at h;subst h;exact .nil
 |v::r,cs,h=>by
   simp only[vCs] at h
   split at h
   . rename_i c hc
     split at h
     . rename_i ds hd
       simp only[Option.some.injEq] at h;subst h
       exact .cons (Pq_ hc) (Mr_ hd)
     . cases h
   . cases h
theorem vC_ok {v:Value} {c:CV} (h:vC v=some c):VR β c v:=by
 unfold vC at h
 split at h
 . rename_i cs
   split at h
   . rename_i ds hd
     simp only[Option.some.injEq] at h;subst h
     simp only[VR]
     exact⟨cs.toList,rfl,Mr_ hd⟩
   . cases h
 exact Pq_ h
def ef (f:Fe):Operand->Option CV
 | .tmp t=>f t
 | .const v=>vC v
 | .global g=>some (.gp g 0)
 | .func g=>some (.fn g [] [])
theorem P_ (hf:FR β f F) {c:CV} (h:ef f x=some c):VR β c (ev F x):=by
 cases x with
 |tmp t=>exact hf t c h
 |const v=>exact vC_ok h
 |func g=>simp only[ef,Option.some.injEq] at h;subst h;simp only[VR,ev];exact⟨[],[],rfl, .nil, .nil⟩
 |_=>simp only[ef,Option.some.injEq] at h;subst h;simp[VR,ev]
def efs (f:Fe):List Operand->Option (List CV)
 |[]=>some []
 |x::r=>match ef f x with
   |some c=>match efs f r with
     |some cs=>some (c::cs)
     |none=>none
   |none=>none
theorem Cp_ (hf:FR β f F):∀ {xs:List Operand} {cs:List CV},efs f xs=some cs->VRs β cs (evs F xs)
 |[],cs,h=>by simp only[efs,Option.some.injEq] at h;subst h;exact .nil
 |x::r,cs,h=>by
   simp only[efs] at h
   split at h
   . rename_i c hc
     split at h
     . rename_i ds hd
       simp only[Option.some.injEq] at h;subst h
       exact .cons (P_ hf hc) (Cp_ hf hd)
     . cases h
   . cases h
def bI (op:BinOp) (k:IntKind) (a b:Int):Option CV:=
 match op with
 | .add=>some (.int k (k.wrap (a+b)))
 | .sub=>some (.int k (k.wrap (a-b)))
 | .mul=>some (.int k (k.wrap (a*b)))
 | .quo=>bif decide (b=0) then none else some (.int k (k.wrap (a.tdiv b)))
 | .rem=>bif decide (b=0) then none else some (.int k (a.tmod b))
 | .and=>some (.int k (k.wrap (BitVec.ofInt k.bits a &&& BitVec.ofInt k.bits b).toNat))
 | .or=>some (.int k (k.wrap (BitVec.ofInt k.bits a |||BitVec.ofInt k.bits b).toNat))
 | .xor=>some (.int k (k.wrap (BitVec.ofInt k.bits a ^^^ BitVec.ofInt k.bits b).toNat))
 | .andNot=>some (.int k (k.wrap (BitVec.ofInt k.bits a &&& ~~~BitVec.ofInt k.bits b).toNat))
 | .eql=>some (.bool (decide (a=b)))
 | .neq=>some (.bool (!decide (a=b)))
 | .lss=>some (.bool (decide (a<b)))
 | .leq=>some (.bool (decide (a<=b)))
 | .gtr=>some (.bool (decide (a>b)))
 | .geq=>some (.bool (decide (a>=b)))
 |_=>none
def mxN (k:IntKind):Nat:=match k with
 | .i8=>127
 | .i16=>32767
 | .i32=>2147483647
 | .i64=>9223372036854775807
 | .u8=>255
 | .u16=>65535
 | .u32=>4294967295
 | .u64=>18446744073709551615
def p2 (n:Nat):Int:= .ofNat (Nat.pow 2 n)
theorem Nw_ (n:Nat):p2 n=(2:Int) ^ n:=by
 show ((2 ^ n:Nat):Int)=_;rw[Int.natCast_pow];rfl
def wrN (k:IntKind) (r:Nat):Int:=bif k.signed&&Nat.blt (mxN k) r then .negSucc (Nat.sub (Nat.sub (Nat.pow 2 k.bits) r) 1) else .ofNat r
def wrF (k:IntKind) (z:Int):Int:=match z with
 | .ofNat m=>bif Nat.ble m (mxN k) then .ofNat m else wrN k (Nat.mod m (Nat.pow 2 k.bits))
 | .negSucc m=>bif k.signed&&Nat.ble m (mxN k) then .negSucc m else wrN k (Nat.sub (Nat.sub (Nat.pow 2 k.bits) 1) (Nat.mod m (Nat.pow 2 k.bits)))
theorem Ps_ (k:IntKind) (r:Nat) (z:Int) (h:z%p2 k.bits=(r:Int)) (hr:r<Nat.pow 2 k.bits):wrN k r=k.wrap z:=by
 unfold wrN IntKind.wrap;rw[<- Nw_,h]
 cases hs:k.signed with
 |false=>simp
 |true=>
   simp only[Bool.true_and]
   cases hb:Nat.blt (mxN k) r with
   |true=>
     have hb:=Nat.le_of_ble_eq_true hb
     cases k<;>simp only[mxN,IntKind.signed,reduceCtorEq] at hb hs<;>simp only[p2,IntKind.bits] at hr ⊢ <;>simp at hr ⊢ <;>(rw[if_pos yY];omega)
   |false=>
     have hb:¬mxN k+1<=r:=λq=>by rw[show Nat.blt (mxN k) r=true from Nat.ble_eq_true_of_le q] at hb;cases hb
     cases k<;>simp only[mxN,IntKind.signed,reduceCtorEq] at hb hs<;>simp only[p2,IntKind.bits] at hr ⊢ <;>simp at hr ⊢ <;>omega
theorem Gx_ (k:IntKind) (z:Int):wrF k z=k.wrap z:=by
 unfold wrF
 cases z with
 |ofNat m=>
   simp only
   cases hb:Nat.ble m (mxN k) with
   |false=>
     refine Ps_ k _ _ ?_ (Nat.mod_lt _ (Nat.pow_pos xB))
     show ((m:Int)%((Nat.pow 2 k.bits:Nat):Int))=_
     exact (Int.natCast_emod _ _).symm
   |true=>
     have h:=Nat.le_of_ble_eq_true hb
     simp only[cond_true]
     cases k<;>simp only[mxN] at h<;>simp[IntKind.wrap,IntKind.bits,IntKind.signed]<;>omega
 |negSucc m=>
   simp only
   cases hb:(k.signed&&Nat.ble m (mxN k)) with
   |true=>
     simp only[Bool.and_eq_true] at hb
     have h:=Nat.le_of_ble_eq_true hb.2
     have hs:=hb.1
     simp only[cond_true]
     cases k<;>simp only[mxN,IntKind.signed,reduceCtorEq] at h hs<;>simp only[IntKind.wrap,IntKind.bits,IntKind.signed,<- Nw_,Int.negSucc_eq,Bool.true_and]<;>simp only[p2,Nat.reducePow,show ∀ a b,Nat.pow a b=a ^ b from λ_ _=>rfl,decide_eq_true_eq]<;>(simp only[Int.ofNat_eq_natCast] at *;split<;>omega)
   |false=>
     simp only[cond_false]
     have hp:0<Nat.pow 2 k.bits:=Nat.pow_pos xB
     have hm:=Nat.mod_lt m hp
     refine Ps_ k _ _ ?_ (by simp only[Nat.sub_eq];omega)
     show (Int.negSucc m%((Nat.pow 2 k.bits:Nat):Int))=_
     generalize Nat.pow 2 k.bits=q at *
     rw[Int.negSucc_emod_ofNat]
     have e:((m%q:Nat):Int)=(m:Int)%(q:Int):=Int.natCast_emod m q
     have hm:m%q<q:=hm
     show _=((q-1-m%q:Nat):Int)
     generalize m%q=r at *
     simp only[Int.subNatNat_eq_coe,Nat.succ_eq_add_one]
     omega
def nBit (f:Nat->Nat->Nat) (k:IntKind) (a b:Int) (d:Int):Int:=match a with
 | .ofNat a=>match b with
   | .ofNat b=>wrF k (.ofNat (f (Nat.mod a (Nat.pow 2 k.bits)) (Nat.mod b (Nat.pow 2 k.bits))))
   |_=>d
 |_=>d
def iAdd (k:IntKind) (a b:Int):Option CV:=some (.int k (wrF k (a+b)))
def iSub (k:IntKind) (a b:Int):Option CV:=some (.int k (wrF k (a-b)))
def iMul (k:IntKind) (a b:Int):Option CV:=some (.int k (wrF k (a*b)))
def iQuo (k:IntKind) (a b:Int):Option CV:=bif decide (b=0) then none else some (.int k (wrF k (a.tdiv b)))
def iRem (k:IntKind) (a b:Int):Option CV:=bif decide (b=0) then none else some (.int k (a.tmod b))
def iAnd (k:IntKind) (a b:Int):Option CV:=some (.int k (nBit Nat.land k a b (k.wrap (BitVec.ofInt k.bits a &&& BitVec.ofInt k.bits b).toNat)))
def iOr (k:IntKind) (a b:Int):Option CV:=some (.int k (nBit Nat.lor k a b (k.wrap (BitVec.ofInt k.bits a |||BitVec.ofInt k.bits b).toNat)))
def iXor (k:IntKind) (a b:Int):Option CV:=some (.int k (nBit Nat.xor k a b (k.wrap (BitVec.ofInt k.bits a ^^^ BitVec.ofInt k.bits b).toNat)))
def iAn (k:IntKind) (a b:Int):Option CV:=some (.int k (k.wrap (BitVec.ofInt k.bits a &&& ~~~BitVec.ofInt k.bits b).toNat))
def iEql (_:IntKind) (a b:Int):Option CV:=some (.bool (decide (a=b)))
def iNeq (_:IntKind) (a b:Int):Option CV:=some (.bool (!decide (a=b)))
def iLss (_:IntKind) (a b:Int):Option CV:=some (.bool (decide (a<b)))
def iLeq (_:IntKind) (a b:Int):Option CV:=some (.bool (decide (a<=b)))
def iGtr (_:IntKind) (a b:Int):Option CV:=some (.bool (decide (a>b)))
def iGeq (_:IntKind) (a b:Int):Option CV:=some (.bool (decide (a>=b)))
def iNo (_:IntKind) (_ _:Int):Option CV:=none
def bF (op:BinOp):IntKind->Int->Int->Option CV:=match op with
 | .add=>iAdd
 | .sub=>iSub
 | .mul=>iMul
 | .quo=>iQuo
 | .rem=>iRem
 | .and=>iAnd
 | .or=>iOr
 | .xor=>iXor
 | .andNot=>iAn
 | .eql=>iEql
 | .neq=>iNeq
 | .lss=>iLss
 | .leq=>iLeq
 | .gtr=>iGtr
 | .geq=>iGeq
 |_=>iNo
theorem F4_ (w a:Nat):(BitVec.ofInt w (Int.ofNat a)).toNat=a%2 ^ w:=by
 rw[BitVec.toNat_ofInt];have :(Int.ofNat a)%((2 ^ w:Nat):Int)=((a%2 ^ w:Nat):Int):=by simp
 rw[this];exact Int.toNat_natCast _
theorem bF_eq (op:BinOp) (k:IntKind) (a b:Int):bF op k a b=bI op k a b:=by
 cases op<;>simp only[bF,bI,iAdd,iSub,iMul,iQuo,iRem,iAnd,iOr,iXor,iAn,iEql,iNeq,iLss,iLeq,iGtr,iGeq,iNo,Gx_]
 all_goals
   cases a<;>cases b<;>simp only[nBit,Gx_,BitVec.toNat_and,BitVec.toNat_or,BitVec.toNat_xor,F4_]
   rfl
def bSh (op:BinOp) (k:IntKind) (a b:Int):Option CV:=
 bif decide (b<0) then none else match op with
 | .shl=>some (.int k (wrF k (a*p2 (min b.toNat k.bits))))
 | .shr=>some (.int k (a.fdiv (p2 (min b.toNat k.bits))))
 |_=>none
def bS (op:BinOp) (n x m y:Nat):Option CV:=
 match op with
 | .add=>bif Nat.ble (n+m) 9223372036854775807 then some (.str (n+m) (x+y*256 ^ n)) else none
 | .eql=>some (.bool (Nat.beq n m&&Nat.beq x y))
 | .neq=>some (.bool (!(Nat.beq n m&&Nat.beq x y)))
 | .lss=>some (.bool (Op.bytesLess (dec n x) (dec m y)))
 |_=>none
def isSh:BinOp->Bool
 | .shl=>true
 | .shr=>true
 |_=>false
theorem lo_sh {op:BinOp} {k k':IntKind} {a b:Int} {c:CV} (hx:ev F x = .int k a) (hy:ev F y = .int k' b) (h:bSh op k a b=some c):∃ v,VR β c v/\Lo P N (.binOp op T x y T') ty F H L v:=by
 unfold bSh at h
 cases hb:decide (b<0) with
 |true=>rw[hb] at h;cases h
 |false=>
   rw[hb] at h
   have h0:0<=b:=by simpa using hb
   simp only[cond_false] at h
   cases op<;>first|(cases h;done)|(simp only[Option.some.injEq] at h;subst h)
   . exact⟨_,rfl,by rw[Gx_,Nw_];exact Pa_ hx hy h0⟩
   . exact⟨_,rfl,by rw[Nw_];exact Im_ hx hy h0⟩
theorem lo_bI {op:BinOp} {k:IntKind} {a b:Int} {c:CV} (hx:ev F x = .int k a) (hy:ev F y = .int k b) (h:bI op k a b=some c):∃ v,VR β c v/\Lo P N (.binOp op T x y T') ty F H L v:=by
 have g:∀ {op:BinOp} {v:Value},(∀ w,(binOp op T (.int k a) (.int k b)).run P w = .ok v w)->Lo P N (.binOp op T x y T') ty F H L v:=λh=>Ab_ hx hy (L_) h
 cases op<;>simp only[bI] at h<;>first
   |(cases h;done)
   |(simp only[Option.some.injEq] at h;subst h;refine⟨_,rfl,g λw=>?_⟩;simp[binOp,Op.intArith,Op.intBits,Op.intCmp];done)
   |(simp only[Option.some.injEq] at h;subst h;refine⟨_,rfl,g λw=>?_⟩;simp[binOp,Op.intCmp,bne,Kw_];done)
   |skip
 all_goals (cases hb:decide (b=0) with
   |true=>rw[hb] at h;cases h
   |false=>
     rw[hb] at h
     have h0:¬b=0:=by simpa using hb
     simp only[cond_false,Option.some.injEq] at h
     subst h;refine⟨_,rfl,g λw=>?_⟩;simp[binOp,Op.intDiv,h0])
theorem J6_ {n m x y:Nat} (h:x<256 ^ n) (k:y<256 ^ m):decide (dec n x=dec m y)=(Nat.beq n m&&Nat.beq x y):=by
 rw[Bool.eq_iff_iff];simp only[decide_eq_true_eq,Bool.and_eq_true];constructor;intro e;have hl:=congrArg List.length e;rw[B_,B_] at hl;subst hl;exact⟨Nat.beq_refl _,by rw[J7_ n x y h k e];exact Nat.beq_refl _⟩;rintro⟨e1,e2⟩;rw[Nat.eq_of_beq_eq_true e1,Nat.eq_of_beq_eq_true e2]
theorem Io_ {n m x y:Nat} (h:x<256 ^ n) (k:y<256 ^ m):x+y*256 ^ n<256 ^ (n+m):=by
 have :(y+1)*256 ^ n<=256 ^ m*256 ^ n:=Nat.mul_le_mul_right _ k;rw[Nat.pow_add,Nat.mul_comm (256 ^ n)];exact yB
theorem lo_bS {op:BinOp} {n m a b:Nat} {c:CV} (ha:a<256 ^ n) (hb:b<256 ^ m) (hx:ev F x=SW.str (dec n a)) (hy:ev F y=SW.str (dec m b)) (h:bS op n a m b=some c):∃ v,VR β c v/\Lo P N (.binOp op T x y T') ty F H L v:=by
 cases op<;>simp only[bS] at h<;>first|(cases h;done)|skip
 . cases hb':Nat.ble (n+m) 9223372036854775807 with
   |false=>rw[hb'] at h;cases h
   |true=>
     rw[hb'] at h
     simp only[cond_true,Option.some.injEq] at h;subst h
     refine⟨_,⟨Io_ ha hb,rfl⟩,?_⟩
     have :=K4_ (P:=P) (N:=N) (H:=H) (L:=L) (ty:=ty) (T:=T) (T':=T') hx hy (by rw[B_,B_];exact Nat.le_of_ble_eq_true hb')
     rwa [Ck_ _ _ _ _ ha] at this
 . simp only[Option.some.injEq] at h;subst h
   refine⟨_,rfl,?_⟩
   have :=K6_ (P:=P) (N:=N) (H:=H) (L:=L) (ty:=ty) (T:=T) (T':=T') hx hy
   rwa [J6_ ha hb] at this
 . simp only[Option.some.injEq] at h;subst h
   refine⟨_,rfl,?_⟩
   have :=K8_ (P:=P) (N:=N) (H:=H) (L:=L) (ty:=ty) (T:=T) (T':=T') hx hy
   rwa [J6_ ha hb] at this
 simp only[Option.some.injEq] at h;subst h;exact⟨_,rfl,K7_ hx hy⟩
end Go.CE
namespace Go.CE
open Go.SW
variable {P:Program} {N:SW.Rest} {F:Fr} {H:Hp} {L:Ls} {ty T T':TypeId} {x y z:Operand} {β:Be} {f:Fe}
def szE (P:Program) (T:TypeId):Option Nat:=match P.info? T with
 |some i=>some i.size
 |none=>none
theorem Ah_ {k:Nat} (h:szE P T=some k):Sz P T k:=by
 unfold szE at h
 split at h
 . rename_i i hi;simp only[Option.some.injEq] at h;intro w;simp[sizeOf,typeInfo,hi,h]
 . cases h
theorem szE_cells {k:Nat} (h:szE P T=some k):P.cellsOf T=k:=by
 unfold szE at h
 split at h
 . rename_i i hi;simp only[Option.some.injEq] at h;simp[Program.cellsOf,hi,h]
 . cases h
def agE (P:Program) (T:TypeId):Option Bool:=match P.underlying T with
 |some (.struct _)=>some true
 |some (.array _ _)=>some true
 |some _=>some false
 |none=>none
theorem Cg_ {g:Bool} (h:agE P T=some g):Ag P T g:=by
 unfold agE at h;intro w
 split at h
 exact zY;exact zY
 . rename_i d h1 h2 hu
   simp only[Option.some.injEq] at h;subst h
   cases d<;>first|(exact (h1 _ Y).elim)|(exact (h2 _ _ Y).elim)|simp[isAgg,run_underlying hu]
 . cases h
mutual
def eqC (P:Program):Nat->TypeId->CV->CV->Option Bool
 |0,_,_,_=>none
 |d+1,t,a,b=>match P.underlying t with
   |some (.int _)=>match a with
     | .int k p=>match b with
       | .int k' q=>bif decide (k=k') then some (decide (p=q)) else none
       |_=>none
     |_=>none
   |some .string=>match a with
     | .str n p=>match b with
       | .str m q=>some (Nat.beq n m&&Nat.beq p q)
       |_=>none
     |_=>none
   |some .bool=>match a with
     | .bool p=>match b with
       | .bool q=>some (decide (p=q))
       |_=>none
     |_=>none
   |some (.struct fs)=>match a with
     | .agg p=>match b with
       | .agg q=>bif P.stoodInHeld t then none else eqFs P d p q fs.toList
       |_=>none
     |_=>none
   |_=>none
def eqFs (P:Program):Nat->List CV->List CV->List Field->Option Bool
 |0,_,_,_=>none
 |d+1,_,_,[]=>some true
 |d+1,p,q,f::fs=>bif decide (f.name = "_") then none else
   match agE P f.type with
   |some true=>match szE P f.type with
     |some k=>match eqC P d f.type (.agg ((p.drop f.offset).take k)) (.agg ((q.drop f.offset).take k)) with
       |some r=>match eqFs P d p q fs with
         |some r'=>some (r&&r')
         |none=>none
       |none=>none
     |none=>none
   |some false=>match p[f.offset]? with
     |some a=>match q[f.offset]? with
       |some b=>match eqC P d f.type a b with
         |some r=>match eqFs P d p q fs with
           |some r'=>some (r&&r')
           |none=>none
         |none=>none
       |none=>none
     |none=>none
   |none=>none
end
mutual
theorem Kb_:∀ (d:Nat) {t:TypeId} {a b:CV} {u v:Value} {r:Bool},eqC P d t a b=some r->VR β a u->VR β b v->∀ e,d<=e->EqV P e t u v r
 |0,_,_,_,_,_,_,h,_,_,_,_=>by simp[eqC] at h
 |d+1,t,a,b,u,v,r,h,ha,hb,e,he=>by
   obtain⟨e,rfl⟩:∃ e',e=e'+1:=⟨e-1,by omega⟩
   simp only[eqC] at h
   split at h
   . rename_i hu
     split at h
     . rename_i k p
       split at h
       . rename_i k' q
         simp only[VR] at ha hb;subst ha;subst hb
         cases hk:decide (k=k') with
         |true=>rw[hk] at h;simp only[cond_true,Option.some.injEq] at h;subst h;have :=of_decide_eq_true hk;subst this;exact C4_ hu
         |false=>rw[hk] at h;cases h
       . cases h
     . cases h
   . rename_i hu
     split at h
     . rename_i n p
       split at h
       . rename_i m q
         simp only[VR] at ha hb
         obtain⟨ha,rfl⟩:=ha;obtain⟨hb,rfl⟩:=hb
         simp only[Option.some.injEq] at h;subst h
         have :=Ke_ (P:=P) (d:=e) (a:=dec n p) (b:=dec m q) hu
         rwa [J6_ ha hb] at this
       . cases h
     . cases h
   . rename_i hu
     split at h
     . split at h
       . simp only[VR] at ha hb;subst ha;subst hb
         simp only[Option.some.injEq] at h;subst h
         exact Nb_ hu
       . cases h
     . cases h
   . rename_i fs hu
     split at h
     . split at h
       . simp only[VR] at ha hb
         obtain⟨xs,rfl,ha⟩:=ha;obtain⟨ys,rfl,hb⟩:=hb
         cases hs:P.stoodInHeld t with
         |true=>rw[hs] at h;cases h
         |false=>
           rw[hs] at h
           exact Kd_ hu hs (G5_ d h ha hb e yY)
       . cases h
     . cases h
   . cases h
theorem G5_:∀ (d:Nat) {p q:List CV} {xs ys:List Value} {fs:List Field} {r:Bool},eqFs P d p q fs=some r->VRs β p xs->VRs β q ys->∀ e,d<=e->EqF P e xs ys fs r
 |0,_,_,_,_,_,_,h,_,_,_,_=>by simp[eqFs] at h
 |d+1,p,q,xs,ys,[],r,h,_,_,e,he=>by
   simp only[eqFs,Option.some.injEq] at h;subst h;exact Kc_
 |d+1,p,q,xs,ys,f::fs,r,h,hp,hq,e,he=>by
   simp only[eqFs] at h
   cases hn:decide (f.name = "_") with
   |true=>rw[hn] at h;cases h
   |false=>
     rw[hn] at h
     have hn':¬f.name = "_" :=of_decide_eq_false hn
     simp only[cond_false] at h
     split at h
     . rename_i hg
       split at h
       . rename_i k hk
         split at h
         . rename_i r1 h1
           split at h
           . rename_i r2 h2
             simp only[Option.some.injEq] at h;subst h
             refine eqf_A hn' (Cg_ hg) (Ah_ hk) Y Y (Kb_ d h1 ?_ ?_ e yY) (G5_ d h2 hp hq e yY)
             . simp only[VR];exact⟨_,rfl,(hp.drop _).take _⟩
             . simp only[VR];exact⟨_,rfl,(hq.drop _).take _⟩
           . cases h
         . cases h
       . cases h
     . rename_i hg
       split at h
       . rename_i a ha
         split at h
         . rename_i b hb
           split at h
           . rename_i r1 h1
             split at h
             . rename_i r2 h2
               simp only[Option.some.injEq] at h;subst h
               obtain⟨u,e1,e2⟩:=hp.get ha
               obtain⟨v,e3,e4⟩:=hq.get hb
               exact G7_ hn' (Cg_ hg) e1 e3 (Kb_ d h1 e2 e4 e yY) (G5_ d h2 hp hq e yY)
             . cases h
           . cases h
         . cases h
       . cases h
     . cases h
end
def eqE (P:Program) (T:TypeId) (x y:Operand) (a b:CV):Option Bool:=
 match a with
 | .bool p=>match b with
   | .bool q=>match P.underlying T with
     |some .bool=>some (p==q)
     |_=>none
   |_=>none
 | .agg p=>match b with
   | .agg q=>bif P.eqGuardType P.depth T then none else eqC P 40 T (.agg p) (.agg q)
   |_=>none
 | .ptr i o=>match b with
   | .nilp=>match P.underlying T with
     |some (.pointer _)=>some false
     |_=>none
   | .ptr j q=>bif Nat.beq i j&&Nat.beq o q then (match P.underlying T with
     |some (.pointer e)=>match P.info? e with
       |some _=>some true
       |none=>none
     |_=>none) else none
   |_=>none
 | .gp _ _=>match b with
   | .nilp=>match P.underlying T with
     |some (.pointer _)=>some false
     |_=>none
   |_=>none
 | .nilp=>match b with
   | .nilp=>match P.underlying T with
     |some (.pointer _)=>some true
     |_=>none
   |_=>none
 | .sl _ _ _ _=>match b with
   | .nils=>match P.underlying T with
     |some (.slice _)=>some false
     |_=>none
   |_=>none
 | .slu _ _ _ _=>match b with
   | .nils=>match P.underlying T with
     |some (.slice _)=>some false
     |_=>none
   |_=>none
 | .nils=>match b with
   | .nils=>match P.underlying T with
     |some (.slice _)=>some true
     |_=>none
   |_=>none
 | .nilf=>match b with
   | .nilf=>match P.underlying T with
     |some (.func _ _ _)=>some true
     |_=>none
   |_=>none
 | .fn _ _ _=>match b with
   | .nilf=>match P.underlying T with
     |some (.func _ _ _)=>some false
     |_=>none
   |_=>none
 | .nili=>match b with
   | .nili=>match y with
     | .const _=>match P.underlying T with
       |some (.interface _)=>some true
       |_=>none
     |_=>none
   |_=>none
 | .ifc _ _=>match b with
   | .nili=>match P.underlying T with
     |some (.interface _)=>some false
     |_=>none
   |_=>none
 |_=>none
end Go.CE
