/-
  A part of the proof of ImageShort: Deeds that are written are read again, and no beginning of them is deeds.
-/
import Derived.Test.YtdanlhjbbojfgaaGreatDoorImageShortP2
import Derived.Test.YtdanlhjbbojfgaaGreatDoorImageShortP1
import Derived.ProofKit
import Derived.OpenShut
import Derived.Deep.Slices
import Derived.Carry
import Derived.Lib.LaidTab
import Derived.SizedLaws
import Derived.KernelRfl
import Derived.MapKept
import Derived.ChangeKeysEq
set_option linter.unusedVariables false
set_option linter.unusedSimpArgs false
set_option maxRecDepth 100000
set_option maxHeartbeats 4000000
namespace Go.SW
theorem inFail_0 (i:In):Ai_ i 0=i:=by unfold Ai_;rw[if_neg (fun h=>h.2 rfl)]
theorem Wc_ {n:Nat} {r:Bs} (h:n<=255):J_ ⟨numB 1 n++r,0⟩ 1=((n:Int),⟨r,0⟩):=by
  have :=inNum_fwd1 (r:=r) (n:=(n:Int)) (by omega) (by omega)
  rwa [Int.toNat_natCast] at this
theorem Xp_:∀ (k:Nat) (i:In) (h:List Pair),(∀ p∈h,p.wf)->∀ p∈(Gq_ k i h).1,p.wf
  |0,_,h,hw=>hw
  |k+1,i,h,hw=>by
    rw[Ll_ (p:=(Ag_ i).1) (q:=(Ag_ i).2) rfl]
    have key:∀ p∈h++[(Ag_ i).1],p.wf:=fun p hp=>by
      rcases List.mem_append.1 hp with q|q
      · exact hw p q
      · rw[List.mem_singleton.1 q];exact readOne_wf i
    repeat' split
    all_goals first
      |exact Xp_ k _ _ key
      |exact fun p hp=>absurd hp List.not_mem_nil
theorem Yr_ (i:In):∀ p∈(Aw_ i).1,p.wf:=Xp_ _ _ _ (fun _ h=>by cases h)
structure Ni_ where
  l:List DeedR
deriving DecidableEq
def Ni_.cells (x:Ni_) (a1:Option Addr) (c1:Nat):List Value:=[.slice a1 x.l.length c1]
def Ni_.wf (x:Ni_):Prop:=x.l.length<=9223372036854775807
def Ni_.zero:Ni_:=⟨[]⟩
def Feed.pc (x:Feed):List PV:=[.str x.rest, .int .i64 x.err]
instance :Inhabited Feed:=⟨⟨[],0⟩⟩
def Out.pc (x:Out):List PV:=[.str x.s, .int .i64 x.err]
instance :Inhabited Out:=⟨⟨[],0⟩⟩
def In.pc (x:In):List PV:=[.str x.s, .int .i64 x.err]
instance :Inhabited In:=⟨⟨[],0⟩⟩
def RIn.pc (x:RIn):List PV:=[.str x.s, .int .i64 x.pos, .int .i64 x.code]
instance :Inhabited RIn:=⟨⟨[],0,0⟩⟩
def Pair.pc (x:Pair):List PV:=[.str x.key, .int .u8 x.kind, .int .i64 x.num, .str x.text]
instance :Inhabited Pair:=⟨⟨[],0,0,[]⟩⟩
theorem Pair.pwf {x:Pair} (h:PV.wfs (Pair.pc x)):Pair.wf x:=by
  simp only[Pair.pc,PV.wfs,PV.wf] at h
  simp only[Pair.wf]
  omega
def Frame.pc (x:Frame):List PV:=[.int .u8 x.channel, .int .u8 x.kind, .str x.body]
instance :Inhabited Frame:=⟨⟨0,0,[]⟩⟩
def ShopR.pc (x:ShopR):List PV:=[.str x.name, .int .u8 x.sort, .str x.to']
instance :Inhabited ShopR:=⟨⟨[],0,[]⟩⟩
theorem ShopR.pwf {x:ShopR} (h:PV.wfs (ShopR.pc x)):ShopR.wf x:=by
  simp only[ShopR.pc,PV.wfs,PV.wf] at h
  simp only[ShopR.wf]
  omega
def QueueR.pc (x:QueueR):List PV:=[.str x.name, .int .u64 x.most, .int .u64 x.life, .str x.dead]
instance :Inhabited QueueR:=⟨⟨[],0,0,[]⟩⟩
def BindR.pc (x:BindR):List PV:=[.str x.shop, .str x.to', .bool x.up, .str x.key, .sl Pair.pc x.want, .bool x.all]
instance :Inhabited BindR:=⟨⟨[],[],false,[],[],false⟩⟩
theorem BindR.pwf {x:BindR} (h:PV.wfs (BindR.pc x)):BindR.wf x:=by
  simp only[BindR.pc,PV.wfs,PV.wf] at h
  simp only[BindR.wf]
  omega
theorem BindR.kd4 {x:BindR} (h:PV.wfs (BindR.pc x)):∀ p∈x.want,0<=p.kind:=fun p hp=>by
  have q:=Pair.pwf (h.2.2.2.2.1.2 p hp)
  simp only[Pair.wf] at q
  omega
def Rule.pc (x:Rule):List PV:=[.int .u8 x.sort, .str x.key, .sl Pair.pc x.want, .bool x.all]
instance :Inhabited Rule:=⟨⟨0,[],[],false⟩⟩
theorem Rule.pwf {x:Rule} (h:PV.wfs (Rule.pc x)):Rule.wf x:=by
  simp only[Rule.pc,PV.wfs,PV.wf] at h
  simp only[Rule.wf]
  omega
theorem Rule.kd2 {x:Rule} (h:PV.wfs (Rule.pc x)):∀ p∈x.want,0<=p.kind:=fun p hp=>by
  have q:=Pair.pwf (h.2.2.1.2 p hp)
  simp only[Pair.wf] at q
  omega
def Mail.pc (x:Mail):List PV:=[.int .u64 x.id, .str x.shop, .str x.key, .sl Pair.pc x.head, .str x.body, .int .u64 x.due, .int .u8 x.hops]
instance :Inhabited Mail:=⟨⟨0,[],[],[],[],0,0⟩⟩
theorem Mail.pwf {x:Mail} (h:PV.wfs (Mail.pc x)):Mail.wf x:=by
  simp only[Mail.pc,PV.wfs,PV.wf] at h
  simp only[Mail.wf]
  omega
theorem Mail.kd3 {x:Mail} (h:PV.wfs (Mail.pc x)):∀ p∈x.head,0<=p.kind:=fun p hp=>by
  have q:=Pair.pwf (h.2.2.2.1.2 p hp)
  simp only[Pair.wf] at q
  omega
def Reply.pc (x:Reply):List PV:=[.int .u8 x.channel, .int .u8 x.kind, .int .u64 x.n, .int .u64 x.m, .bool x.yes, .str x.name, .int .u64 x.mail.id, .str x.mail.shop, .str x.mail.key, .sl Pair.pc x.mail.head, .str x.mail.body, .int .u64 x.mail.due, .int .u8 x.mail.hops]
instance :Inhabited Reply:=⟨⟨0,0,0,0,false,[],⟨0,[],[],[],[],0,0⟩⟩⟩
def Method.pc (x:Method):List PV:=[.int .u8 x.channel, .int .u8 x.kind, .str x.name, .str x.other, .str x.key, .sl Pair.pc x.head, .str x.body, .int .u64 x.n, .int .u64 x.m, .bool x.yes]
instance :Inhabited Method:=⟨⟨0,0,[],[],[],[],[],0,0,false⟩⟩
def DeedR.pc (x:DeedR):List PV:=[.int .u8 x.kind, .int .u64 x.tick, .str x.shop.name, .int .u8 x.shop.sort, .str x.shop.to', .str x.queue.name, .int .u64 x.queue.most, .int .u64 x.queue.life, .str x.queue.dead, .str x.bind.shop, .str x.bind.to', .bool x.bind.up, .str x.bind.key, .sl Pair.pc x.bind.want, .bool x.bind.all, .str x.name, .int .u64 x.id, .int .u8 x.how, .int .u8 x.frm, .int .u8 x.code, .int .u64 x.number, .int .u64 x.mail.id, .str x.mail.shop, .str x.mail.key, .sl Pair.pc x.mail.head, .str x.mail.body, .int .u64 x.mail.due, .int .u8 x.mail.hops, .str x.text]
instance :Inhabited DeedR:=⟨⟨0,0,⟨[],0,[]⟩,⟨[],0,0,[]⟩,⟨[],[],false,[],[],false⟩,[],0,0,0,0,0,⟨0,[],[],[],[],0,0⟩,[]⟩⟩
theorem DeedR.pwf {x:DeedR} (h:PV.wfs (DeedR.pc x)):DeedR.wf x:=by
  simp only[DeedR.pc,PV.wfs,PV.wf] at h
  simp only[DeedR.wf,ShopR.wf,QueueR.wf,BindR.wf,Mail.wf]
  omega
theorem DeedR.kd13 {x:DeedR} (h:PV.wfs (DeedR.pc x)):∀ p∈x.bind.want,0<=p.kind:=fun p hp=>by
  have q:=Pair.pwf (h.2.2.2.2.2.2.2.2.2.2.2.2.2.1.2 p hp)
  simp only[Pair.wf] at q
  omega
theorem DeedR.kd24 {x:DeedR} (h:PV.wfs (DeedR.pc x)):∀ p∈x.mail.head,0<=p.kind:=fun p hp=>by
  have q:=Pair.pwf (h.2.2.2.2.2.2.2.2.2.2.2.2.2.2.2.2.2.2.2.2.2.2.2.2.1.2 p hp)
  simp only[Pair.wf] at q
  omega
def BookR.pc (x:BookR):List PV:=[.sl ShopR.pc x.shops, .sl BindR.pc x.binds]
instance :Inhabited BookR:=⟨⟨[],[]⟩⟩
def Ni_.pc (x:Ni_):List PV:=[.sl DeedR.pc x.l]
instance :Inhabited Ni_:=⟨⟨[]⟩⟩
theorem idxF_b {α:Type} (p:α->Bool):∀ (l:List α) (k:Nat),idxF p k l = -1\/((k:Int)<=idxF p k l/\idxF p k l<k+l.length)
  |[],k=> .inl (by simp[idxF])
  |a::r,k=>by
    simp only[idxF]
    split
    · right;simp only[List.length_cons];omega
    · rcases idxF_b p r (k+1) with h|h
      · exact .inl h
      · right;simp only[List.length_cons];omega
theorem Hw_ {α:Type} (p:α->Bool) (l:List α):-1<=idxP p l/\idxP p l<l.length:=by
  rcases idxF_b p l 0 with h|h<;>simp only[idxP]<;>omega
theorem Q2_ {α:Type} (p:α->Bool):∀ (l:List α) (k:Nat),(idxF p k l<0->l.find? p=none)/\(0<=idxF p k l->∀ c,l[(idxF p k l).toNat-k]? = some c->p c=true/\l.find? p=some c)
  |[],k=>⟨fun _=>rfl,fun h=>by simp[idxF] at h⟩
  |a::r,k=>by
    obtain⟨h1,h2⟩:=Q2_ p r (k+1)
    have hr:=idxF_b p r (k+1)
    simp only[idxF]
    by_cases ha:p a=true
    · simp only[ha,if_true]
      refine⟨fun h=>by omega,fun _ c hc=>?_⟩
      have :((k:Int)).toNat-k=0:=by omega
      rw[this] at hc
      simp at hc
      subst hc
      exact⟨ha,by simp[ha]⟩
    · have hf:p a=false:=by simpa using ha
      simp only[hf,if_false,Bool.false_eq_true,List.find?_cons]
      refine⟨h1,fun h0 c hc=>?_⟩
      refine h2 h0 c ?_
      have e:(idxF p (k+1) r).toNat-k=((idxF p (k+1) r).toNat-(k+1))+1:=by omega
      rw[e] at hc
      simpa using hc
theorem Up_ {α:Type} {p:α->Bool} {l:List α} (h:idxP p l<0):l.find? p=none:=(Q2_ p l 0).1 h
theorem idxP_get {α:Type} {p:α->Bool} {l:List α} {c:α} (h0:¬idxP p l<0) (h:l[(idxP p l).toNat]? = some c):p c=true/\l.find? p=some c:=(Q2_ p l 0).2 (by simp only[idxP] at h0;omega) c (by simpa [idxP] using h)
theorem getJ {α:Type} [Inhabited α] (xs:List α) (m:Nat):∃ c,(m<xs.length->xs[m]? = some c):=by
  by_cases h:m<xs.length
  · exact⟨xs[m],fun _=>List.getElem?_eq_getElem h⟩
  · exact⟨default,fun q=>absurd q h⟩
end Go.SW
namespace Go.SW.V
open Go.SW
def lt {α β:Type} (a:α) (f:α->β):β:=f a
theorem Co_ {α β:Type} {a r:α} {f:α->β} (h:r=a):lt a f=f r:=by subst h;rfl
inductive Lo (σ ρ:Type) where
  |fin (s:σ)
  |ret (r:ρ)
def lp0 {ρ β:Type} (o:Lo Unit ρ) (f:β) (g:ρ->β):β:=match o with
  | .fin _=>f
  | .ret r=>g r
theorem Ro_ {ρ β:Type} {l:β} {o:Lo Unit ρ} {f:β} {g:ρ->β} (h:l=lp0 o f g) (k:o = .fin ()):l=f:=by subst k;exact h
theorem I8_ {ρ β:Type} {l:β} {o:Lo Unit ρ} {f:β} {g:ρ->β} {r:ρ} (h:l=lp0 o f g) (k:o = .ret r):l=g r:=by subst k;exact h
theorem L7_ {ρ β:Type} {l:β} {X:Lo Unit ρ} {f:β} {g:ρ->β} (h:l=lp0 X f g):∃ o,o=X/\l=lp0 o f g:=⟨_,rfl,h⟩
def lp1 {σ1 ρ β:Type} (o:Lo (σ1) ρ) (f:σ1->β) (g:ρ->β):β:=match o with
  | .fin s=>f s
  | .ret r=>g r
theorem lp1_fin {σ1 ρ β:Type} {l:β} {o:Lo (σ1) ρ} {f:σ1->β} {g:ρ->β} {a1:σ1} (h:l=lp1 o f g) (k:o = .fin a1):l=f a1:=by subst k;exact h
theorem lp1_ret {σ1 ρ β:Type} {l:β} {o:Lo (σ1) ρ} {f:σ1->β} {g:ρ->β} {r:ρ} (h:l=lp1 o f g) (k:o = .ret r):l=g r:=by subst k;exact h
theorem lp1_split {σ1 ρ β:Type} {l:β} {X:Lo (σ1) ρ} {f:σ1->β} {g:ρ->β} (h:l=lp1 X f g):∃ o,o=X/\l=lp1 o f g:=⟨_,rfl,h⟩
def lt1 {σ1 β:Type} (s:σ1) (f:σ1->β):β:=f s
theorem Jx_ {σ1 β:Type} {l:β} {o:σ1} {f:σ1->β} {a1:σ1} (h:l=lt1 o f) (k:o=a1):l=f a1:=by subst k;exact h
theorem Gx_ {σ1 β:Type} {l:β} {X:σ1} {f:σ1->β} (h:l=lt1 X f):∃ o,o=X/\l=lt1 o f:=⟨_,rfl,h⟩
def lp2 {σ1 σ2 ρ β:Type} (o:Lo (σ1×σ2) ρ) (f:σ1->σ2->β) (g:ρ->β):β:=match o with
  | .fin s=>f s.1 s.2
  | .ret r=>g r
theorem lp2_fin {σ1 σ2 ρ β:Type} {l:β} {o:Lo (σ1×σ2) ρ} {f:σ1->σ2->β} {g:ρ->β} {a1:σ1} {a2:σ2} (h:l=lp2 o f g) (k:o = .fin (a1,a2)):l=f a1 a2:=by subst k;exact h
theorem lp2_ret {σ1 σ2 ρ β:Type} {l:β} {o:Lo (σ1×σ2) ρ} {f:σ1->σ2->β} {g:ρ->β} {r:ρ} (h:l=lp2 o f g) (k:o = .ret r):l=g r:=by subst k;exact h
theorem lp2_split {σ1 σ2 ρ β:Type} {l:β} {X:Lo (σ1×σ2) ρ} {f:σ1->σ2->β} {g:ρ->β} (h:l=lp2 X f g):∃ o,o=X/\l=lp2 o f g:=⟨_,rfl,h⟩
def lt2 {σ1 σ2 β:Type} (s:σ1×σ2) (f:σ1->σ2->β):β:=f s.1 s.2
theorem lt2_fin {σ1 σ2 β:Type} {l:β} {o:σ1×σ2} {f:σ1->σ2->β} {a1:σ1} {a2:σ2} (h:l=lt2 o f) (k:o=(a1,a2)):l=f a1 a2:=by subst k;exact h
theorem Xb_ {σ1 σ2 β:Type} {l:β} {X:σ1×σ2} {f:σ1->σ2->β} (h:l=lt2 X f):∃ o,o=X/\l=lt2 o f:=⟨_,rfl,h⟩
def lt3 {σ1 σ2 σ3 β:Type} (s:σ1×σ2×σ3) (f:σ1->σ2->σ3->β):β:=f s.1 s.2.1 s.2.2
theorem lt3_fin {σ1 σ2 σ3 β:Type} {l:β} {o:σ1×σ2×σ3} {f:σ1->σ2->σ3->β} {a1:σ1} {a2:σ2} {a3:σ3} (h:l=lt3 o f) (k:o=(a1,a2,a3)):l=f a1 a2 a3:=by subst k;exact h
theorem lt3_split {σ1 σ2 σ3 β:Type} {l:β} {X:σ1×σ2×σ3} {f:σ1->σ2->σ3->β} (h:l=lt3 X f):∃ o,o=X/\l=lt3 o f:=⟨_,rfl,h⟩
def gt {α:Type} [Inhabited α] (xs:List α) (k:Nat):α:=xs.getD k default
theorem getG {α:Type} [Inhabited α] {xs:List α} {k:Nat} (h:k<xs.length):xs[k]? = some (gt xs k):=by
  rw[gt,List.getD_eq_getElem?_getD,List.getElem?_eq_getElem h];rfl
theorem Fz_ {α:Type} [Inhabited α] {xs:List α} {k:Nat} (h:k<xs.length):xs.drop k=gt xs k::xs.drop (k+1):=Dj_ (getG h)
theorem F0_ {α:Type} {xs:List α} {k:Nat} (h:¬k<xs.length):xs.drop k=[]:=List.drop_of_length_le (by omega)
theorem B0_ {α τ:Type} {l:τ} {xs ys:List α} {f:List α->τ} {v:τ} (e:l=f xs) (h:xs=ys) (k:f ys=v):l=v:=by subst h;exact e.trans k
theorem P_ {α:Type} {p:PV} {a v:α} (f:α->PV) (e:a=v) (h:PLe p (f v)):PLe p (f a):=by subst e;exact h
theorem Me_ {α:Type} {ps:List PV} {a v:α} (f:α->List PV) (e:a=v) (h:PLes ps (f v)):PLes ps (f a):=by subst e;exact h
variable {P:Program} {n:Nat} {N:Rest} {H0:Env} {all rest:List Oper} {Q:Qs} {ks:List Kt} {fF:Nat->PV} {fL:Nat->Blk} {T T' T2 ty d:Nat} {pos:String} {af:Array Edge} {x y z:Operand} {K:St->Prop} {op:Op} {p:PV}
theorem G4_ {ι:Type} {X:Code} (keep kL:List Nat) (lv:ι->List (Nat×PV)) (lL:ι->List (Nat×Blk)) (Φ:ι->Prop) (h:Hd P n N H0 Q (.code X) (.lp (LJ (fun x=>⟨mkF (lv x) keep fF,mkL (lL x) kL fL⟩) Φ (fun _=>0) 1)::ks) ⟨fF,fL⟩) (k:∀ x,Φ x->Hd P n N H0 Q (.ex .normal) ks ⟨mkF (lv x) keep fF,mkL (lL x) kL fL⟩):Hd P n N H0 Q (.code X) ks ⟨fF,fL⟩:=by
  intro F H L ha
  refine Ic_ (fun e F' H' L' hq=>?_) (h F H L ha)
  obtain⟨s',ha',hq'⟩:=hq
  cases e with
  |normal=>obtain⟨x,h1,_,h3⟩:=hq';exact⟨_,h3 _ _ _ _ ha',k x h1⟩
  |_=>exact⟨s',ha',hq'⟩
theorem callv {α:Type} (g:α) (res:α->PV) {f:FuncId} {args:List PV} {xs:Array Operand} {ats:Array TypeId} (h:Fn P H0.g f args (res g)) (ha:argsP fF x xs.toList=some (f,args)) (hd:Nat.blt d n=true) (k:∀ r,r=g->(res r).wf->Hd P n N H0 Q (.ops all rest) ks ⟨updp fF d (res r),fL⟩):Hd P n N H0 Q (.ops all (⟨some d, .call ⟨.value x,xs,ats⟩,ty,pos,af,none⟩::rest)) ks ⟨fF,fL⟩:=call h ha hd (k g rfl)
theorem lj_le {ι:Type} {S:ι->St} {Φ:ι->Prop} {μ:ι->Nat} {m:Nat} {s s':St} (h:StLe s s') (k:Hd P n N H0 Q (.ex .normal) (.lp (LJ S Φ μ m)::ks) s'):Hd P n N H0 Q (.ex .normal) (.lp (LJ S Φ μ m)::ks) s:=by
  obtain⟨x,h1,h2,h3⟩:=k
  exact⟨x,h1,h2,h.trans h3⟩
theorem lj_osl {α:Type} {ι:Type} {S:ι->St} {Φ:ι->Prop} {μ:ι->Nat} {m t k e:Nat} {u:Value} {enc:α->List PV} {xs:List α} (i:Nat) (hF:fF t = .val u) (hL:fL i = .arr u k e enc xs) (kk:Hd P n N H0 Q (.ex .normal) (.lp (LJ S Φ μ m)::ks) ⟨updp fF t (.osl i),fL⟩):Hd P n N H0 Q (.ex .normal) (.lp (LJ S Φ μ m)::ks) ⟨fF,fL⟩:=lj_le (fun _ _ _ _ ha=>Zs_ ha hF hL) kk
theorem Ym_ {o:Oper} {i:Nat} (h:E1 P n N H0 all o none ⟨fF,fL⟩ K):E1 P n N H0 all o (some i) ⟨fF,fL⟩ K:=fun F H L ha=>(h F H L ha).imp fun F' H' L' ⟨x,y,z⟩=>⟨x,fun q _=>y q (by simp),z⟩
theorem So_ {α:Type} {e k:Nat} {u:Value} {enc:α->List PV} {xs:List α} {o:Oper} (i:Nat) (hb:fL i = .arr u k e enc xs) (h:E1 P n N H0 all o (some i) ⟨V6_ i enc xs fF,Uj_ i enc xs fL⟩ K):E1 P n N H0 all o (some i) ⟨fF,fL⟩ K:=by
  intro F H L ha a w hA hm
  obtain⟨H1,hl1,hg1,hm1⟩:=hm.giveO (i:=i) rfl
  have ha1:=ha.give hb hl1 hg1
  exact (h F H1 (lupd L i none) ha1).imp (fun F' H' L' ⟨x,y,z⟩=>⟨hl1.trans x,fun q hq=>(y q hq).trans (Bc_ _ _ _ _ fun e=>hq (by rw[e])),z⟩) a w hA hm1
end Go.SW.V
namespace Go.SW
structure Gb_ where
  tag:Int
  queue:Bs
deriving DecidableEq,Inhabited
def Gb_.pc (x:Gb_):List PV:=[.int .u64 x.tag, .str x.queue]
structure LentR where
  id:Int
  queue:Bs
deriving DecidableEq,Inhabited
def LentR.pc (x:LentR):List PV:=[.int .u64 x.id, .str x.queue]
structure ChanR where
  credit:Int
  takers:List Gb_
  lent:List LentR
  sure:Bool
  drafts:Bool
  puts:Int
  held:Ni_
deriving DecidableEq,Inhabited
def ChanR.pc (x:ChanR):List PV:=[.int .i64 x.credit, .sl Gb_.pc x.takers, .sl LentR.pc x.lent, .bool x.sure, .bool x.drafts, .int .u64 x.puts, .sl DeedR.pc x.held.l]
end Go.SW
namespace Go.SW.V
open Go.SW
theorem Au_ {α:Type} {xs:List (List α)} {k:Nat} {c:List α} (h:xs[k]? = some c):(xs.take (k+1)).flatten=(xs.take k).flatten++c:=by
  rw[takeE h,List.flatten_append];simp
theorem Cn_ {α:Type} (xs:List (List α)) (k:Nat):(xs.take k).flatten.length<=xs.flatten.length:=by
  have :=congrArg (fun l:List (List α)=>l.flatten.length) (List.take_append_drop k xs)
  simp only[List.flatten_append,List.length_append] at this
  omega
theorem Ku_ {α:Type} {xs:List (List α)} {k:Nat} (h:xs.length<=k):(xs.take k).flatten=xs.flatten:=by rw[List.take_of_length_le h]
end Go.SW.V
namespace Go.SW
open Go.ChangeShapes Go.WideShapes Go.ChangeAt Go.RowKit
def hp (w:World):Hp:=fun b=>w.heap[b]?
def rest0 (w:World):Rest:=⟨fun _=>none,w.os,w.tape,w.output⟩
theorem mem0 (w:World):Mem (rest0 w) (hp w) l0 w:=
  {os:=rfl,tape:=rfl,output:=rfl,n:=fun _ _ h=>(by cases h),h:=fun _ _ h=>h,l:=fun _ _ _ h=>(by cases h),nh:=fun _ _ h=>(by cases h),nl:=fun _ _ _ h=>(by cases h),ll:=fun _ _ _ _ _ h=>(by cases h)}
theorem mem0_below {w w':World} {L:Ls} (h:Mem (rest0 w) (hp w) L w'):Below w.heap.size w w':=by
  have hb:∀ k,k<w.heap.size->w'.heap[k]? = w.heap[k]? :=fun k hk=>by
    have e:w.heap[k]? = some w.heap[k]:=Array.getElem?_eq_getElem hk
    rw[e];exact h.h k _ e
  refine⟨h.os,h.tape,h.output,?_,hb⟩
  by_cases z:w.heap.size=0
  · omega
  · have :=hb (w.heap.size-1) (by omega)
    rw[Array.getElem?_eq_getElem (show w.heap.size-1<w.heap.size by omega)] at this
    have :=(Array.getElem?_eq_some_iff.1 this).1
    omega
section
variable {Ht:Type} {enc:TypeId×Value->Ht} {P:Program} {w:World} {base fuel:Nat} {spare:Nat->Bool} {held:Bool} {cs:List Value} {x:DataW Ht×List MemPlace} {t:TypeId}
theorem rd_int {k:IntKind} (ht:P.underlying t=some (.int k)) (h:DataW.trod enc P w base spare held fuel t cs=some x):∃ z:Int,cs=[.int k z]/\k.min<=z/\z<=k.max:=by
  obtain⟨z,h1,_,h2⟩:=DataW.trod_int ht h
  refine⟨z,h1,?_⟩
  simp only[Lit.wf,Bool.and_eq_true,decide_eq_true_eq] at h2;exact h2
theorem rd_bool (ht:P.underlying t=some .bool) (h:DataW.trod enc P w base spare held fuel t cs=some x):∃ z:Bool,cs=[.bool z]:=by
  obtain⟨z,h1,_⟩:=DataW.trod_bool ht h
  exact⟨z,h1⟩
theorem rd_str (ht:P.underlying t=some .string) (h:DataW.trod enc P w base spare held fuel t cs=some x):∃ s:Bs,cs=[str s]/\s.length<=9223372036854775807:=by
  obtain⟨s,h1,_,h2⟩:=DataW.trod_string ht h
  refine⟨s.data.toList,by rw[h1,str_of],?_⟩
  have :s.data.toList.length=s.size:=Array.length_toList
  rw[this];exact h2
theorem list_of {α:Type} {Q:Nat->α->Prop}:∀ n,(∀ i,i<n->∃ r,Q i r)->∃ rs:List α,rs.length=n/\∀ i (h:i<rs.length),Q i rs[i]
  |0,_=>⟨[],rfl,fun i h=>by cases h⟩
  |n+1,hq=>by
    obtain⟨rs,hl,hr⟩:=list_of n (fun i hi=>hq i (by omega))
    obtain⟨r,hr0⟩:=hq n (by omega)
    refine⟨rs++[r],by simp[hl],fun i hi=>?_⟩
    by_cases e:i<rs.length
    · rw[List.getElem_append_left e];exact hr i e
    · have :i=rs.length:=by simp at hi;omega
      subst this
      rw[List.getElem_append_right (Nat.le_refl _)]
      simp only[Nat.sub_self,List.getElem_cons_zero]
      rw[hl];exact hr0
theorem rd_fld {fs:Array Field} {xs:List (DataW Ht×List MemPlace)} {n i o k:Nat} {f:Field} {ft:TypeId} (hf:∀ (i:Nat) (f:Field),fs[i]? = some f->DataW.trod enc P w base spare held n f.type ((cs.drop f.offset).take (P.cellsOf f.type))=xs[i]?) (hl:xs.length=fs.size)
    (hi:fs[i]? = some f) (ho:f.offset=o) (ht:f.type=ft) (hk:P.cellsOf ft=k):∃ y,DataW.trod enc P w base spare held n ft ((cs.drop o).take k)=some y:=by
  have h:=hf i f hi
  have hlt:i<fs.size:=(Array.getElem?_eq_some_iff.1 hi).1
  rw[ho,ht,hk,List.getElem?_eq_getElem (by omega)] at h
  exact⟨_,h⟩
end
theorem rd_agg {Ht:Type} {enc:TypeId×Value->Ht} {P:Program} {w:World} {r:Reach} {b0 base:Nat} {spare:Nat->Bool} {held:Bool} {t:TypeId} {fs:Array Field} {v:Value} {d:DataW Ht} {p:List MemPlace} (hs:P.underlying t=some (.struct fs)) (hv:Value.okWide P w r b0 t v)
    (h:DataW.Trod enc P w base spare held t v d p):∃ (l:List Value) (fuel:Nat),v = .agg l.toArray/\DataW.trod enc P w base spare held fuel t l=some (d,p):=by
  obtain⟨cs,rfl,_⟩:=okWide_struct hs hv
  obtain⟨fuel,hf⟩:=h
  exact⟨cs.toList,fuel,rfl,hf⟩
theorem params_ok {P:Program} {ts:Array TypeId} (h:(ts.toList.all fun t=>P.readableRec t && decide (t<P.types.size))=true):∀ t∈ts.toList,P.readableRec t=true/\t<P.types.size:=fun t ht=>by
  have :=List.all_eq_true.1 h t ht
  simpa using this
theorem rd_one_int {Ht:Type} {enc:TypeId×Value->Ht} {P:Program} {w:World} {r:Reach} {b0 base:Nat} {spare:Nat->Bool} {held:Bool} {t:TypeId} {k:IntKind} {v:Value} {d:DataW Ht} {p:List MemPlace} (hs:P.underlying t=some (.int k)) (hv:Value.okWide P w r b0 t v)
    (h:DataW.Trod enc P w base spare held t v d p):∃ z:Int,v = .int k z/\k.min<=z/\z<=k.max:=by
  obtain⟨z,rfl,_,_,hw⟩:=open_int hs hv h
  refine⟨z,rfl,?_⟩
  simp only[Lit.wf,Bool.and_eq_true,decide_eq_true_eq] at hw;exact hw
def flatD:Nat->DataW Unit->List Value
  |_, .lit (.int k n)=>[.int k n]
  |_, .lit (.string s)=>[.string ⟨s.toArray⟩]
  |_, .lit (.bool b)=>[.bool b]
  |n+1, .agg l=>l.flatMap (flatD n)
  |_,_=>[]
def layD (d:DataW Unit):Obj->Obj
  | .cells _ t frozen=> .cells (flatD 5 d).toArray t frozen
  |o=>o
theorem Vi_ {Ht:Type} {enc:TypeId×Value->Ht} {P:Program} (hl:laidOutB P=true) {W W':World} (hb:Below W.heap.size W W') {sp:Nat->Bool}:∀ {ts:List TypeId} {vs:List Value} {ds:List (DataW Ht)} {ps:List MemPlace},(∀ t∈ts,P.readableRec t=true/\t<P.types.size) ->
    DataW.TrodAll enc P W 0 (fun _=>true) true ts vs ds ps->(∀ x∈ps,x.block<W.heap.size)->(∀ x∈ps,sp x.block=true)->DataW.TrodAll enc P W' 0 sp true ts vs ds ps:=by
  intro ts
  induction ts with
  |nil=>intro vs ds ps _ h _ _;cases vs<;>cases ds<;>first|exact h|exact h.elim
  |cons t ts ih=>
    intro vs ds ps hr h hlt hsp
    obtain⟨v,vs',d,ds',p,q,rfl,rfl,rfl,h1,h2⟩:=trodAll_cons h
    exact trodAll_cons_mk (WideElems.Trod_stays hl (hr t (by simp)).1 (hr t (by simp)).2 h1 (fun x hx=>hb.same (hlt x (by simp[hx]))) (fun x hx=>hsp x (by simp[hx]))) (ih (fun u hu=>hr u (by simp[hu])) h2 (fun x hx=>hlt x (by simp[hx])) (fun x hx=>hsp x (by simp[hx])))
section
variable {Ht:Type} {enc:TypeId×Value->Ht} {P:Program}
theorem law_post {f:Func} {s:ChangeSpec} {apart fresh again:Bool} {W W':World} {args:Array Value} {ds:List (DataW Ht)} {before:List MemPlace} {tb:TypeId} (hvars:s.vars=[])
    (hW:DataW.Whole enc P f.params.toList s.vars apart W args.toList ds [] before) (hb:Below W.heap.size W W') (hl:laidOutB P=true) (hr:∀ t∈f.params.toList,P.readableRec t=true/\t<P.types.size)
    (hres:f.resultTypes = #[tb]) (hu:P.underlying tb=some .bool) (hfn:s.fn Ht (ds++[])={results:=[.lit (.bool true)],args:=ds}):s.post enc P f apart fresh false again W args (.bool true) W':=by
  have hlt:∀ p∈before,p.block<W.heap.size:=fun p hp=>hW.lt p hp
  have hold:∀ p∈before,(fun b=>decide (b<W.heap.size)) p.block=true:=fun p hp=>by simpa using hlt p hp
  have hW0:=hW
  obtain⟨p,q,hA,hV,rfl,hz,hn⟩:=hW0
  have hq:q=[]:=by
    rw[hvars] at hV
    exact (trodVars_none hV).2
  subst hq
  rw[List.append_nil] at hlt hold hz hn hW
  have hA0:DataW.TrodAll enc P W 0 (fun _=>true) true f.params.toList args.toList ds p:=hA
  have hargs:∀ sp:Nat->Bool,(∀ x∈p,sp x.block=true)->DataW.TrodAll enc P W' 0 sp true f.params.toList args.toList ds p:=fun sp hs=>Vi_ hl hb hr hA0 hlt hs
  have hvs:∀ sp:Nat->Bool,DataW.TrodVars enc P W' sp s.vars ([]:List (DataW Ht)) []:=fun sp=>by rw[hvars];rfl
  have hR:∀ (b:Nat) (sp:Nat->Bool) (hd:Bool),DataW.TrodAll enc P W' b sp hd f.resultTypes.toList ((Value.bool true).resultList f.resultTypes.size) [.lit (.bool true)] []:=fun b sp hd=>by
    rw[hres]
    exact trodAll_mk1 (shut_bool hu true)
  have hok:∀ (j:Nat) (t:TypeId) (r:Value),f.resultTypes[j]? = some t->((Value.bool true).resultList f.resultTypes.size)[j]? = some r->Value.okWide P W' .any 0 t r:=ok_one hres rfl (okWide_bool_mk hu true)
  refine⟨ds,[],p,[],p,[],hW,?_,?_,?_,World.keptBut_mono (fun x hx=>⟨hx,Or.inr (by simpa using hx)⟩) (hb.frame (· ∈ p)),fun _=>?_⟩
  · rw[hfn];exact hR _ _ _
  · rw[hfn];exact hargs _ hold
  · rw[hfn];exact hvs _
  · refine⟨hok,_,_,([]++p)++[],⟨[]++p,[],trodAll_append (hargs _ (fun _ _=>rfl)) (hR _ _ _),hvs _,rfl,?_,?_⟩,?_⟩
    · intro b off hp
      have hin:MemPlace.cell b off∈p:=by simpa using hp
      rw[hb.frozen (hlt _ hin)]
      exact hz b off hin
    · intro ha
      have :=hn ha
      simpa using this
    · intro x hx _
      simpa using hx
theorem Ui_ {w:World} {g:Nat} {t:TypeId} {zero:Array Value} (h:w.ShapedOpen P) (hg:g<P.globals.size)
    (h0:((begin P (fun _ _=>0) default).world.heap[g]?).bind Obj.row?=some (zero,t)) (hz:zero.size=1)
    (hb:P.buildable t=true) (hc:P.cellTypes P.depth t=some [t]) (hu:P.underlying t=some (.int .i64)):GInt (hp w) g:=by
  obtain⟨cs,hh,hs,hr⟩:=h.1 g zero t hg h0
  obtain⟨ts,hts,_,hall⟩:=hr hb
  rw[hc] at hts
  cases hts
  have h1:0<cs.size:=by omega
  obtain⟨u,hu',hok⟩:=hall 0 cs[0] (by simp[h1])
  have :u=t:=by simpa using hu'.symm
  subst this
  unfold Cell.ok at hok
  rw[hu] at hok
  have hv:∃ m,cs[0] = .int .i64 m:=by
    cases hv:cs[0]<;>rw[hv] at hok<;>first|exact⟨_,by rw[hok.1]⟩|simp at hok
  obtain⟨m,hm⟩:=hv
  refine⟨m,u,(0,0),?_⟩
  show w.heap[g]? = _
  rw[hh]
  have e:cs = #[.int .i64 m]:=by
    apply Array.ext
    · simp;omega
    · intro i hi1 hi2
      have :i=0:=by simp at hi2;omega
      subst this
      simpa using hm
  rw[e]
theorem gtab_of {w:World} {g n:Nat} {name:String} {k:IntKind} {zs:List Int} {rest:List (String×DataW Unit)} {t e:TypeId} (hg:P.globalNamed name=some g) (hty:(P.globals[g]?).map (·.type)=some t) (ht:P.underlying t=some (.array n e)) (he:P.underlying e=some (.int k)) (hce:P.cellsOf e=1) (hct:P.cellsOf t=n)
    (h:laidMet P ((name,Lib.tabData k zs)::rest) w):∃ T fr,hp w g=some (.cells (zs.map (Value.int k)).toArray T fr):=by
  have hT:=Lib.tabIs_of_head hg hty ht he hce hct h
  unfold Lib.TabIs World.var? at hT
  rw[hg] at hT
  simp only[Option.bind_some] at hT
  split at hT
  · rename_i cs T fr hh
    cases hT
    exact⟨T,fr,hh⟩
  · cases hT
end
variable {P:Program}
theorem dat_slice {Ht:Type} {enc:TypeId×Value->Ht} {w:World} {base fuel:Nat} {spare:Nat->Bool} {held:Bool} {a:Option Addr} {l c:Nat} {x:DataW Ht×List MemPlace} {t e:TypeId} (ht:P.underlying t=some (.slice e))
    (h:DataW.trod enc P w base spare held fuel t [.slice a l c]=some x):x.1 = .nil/\l=0\/∃ el sp,x.1 = .slice el sp/\el.length=l:=by
  rcases Go.Deep.open_slice ht h with ⟨h1,h2⟩|⟨a',len,cap,m,nf,D,Pl,h1,_,hl,hm,hmm,hx,_⟩
  · cases h1;subst h2;exact .inl ⟨rfl,rfl⟩
  · cases h1;subst hx;exact .inr ⟨_,_,rfl,by simp⟩
theorem Xn_ {w:World} {r:Reach} {b0:Nat} {t e:TypeId} {v:Value} {a:Option Addr} {l c:Nat} (hs:P.underlying t=some (.slice e)) (hv:Value.okWide P w r b0 t v) (he:v.cells.toList=[.slice a l c]):v = .slice a l c:=by
  unfold Value.okWide at hv
  rw[hs] at hv
  simp only at hv
  unfold Cell.okWide at hv
  rw[hs] at hv
  cases v with
  |agg cs=>simp[Cell.ok,hs] at hv
  |_=>exact (List.cons.inj he).1
end Go.SW
namespace Go.SW
open Go.ChangeShapes Go.WideShapes Go.ChangeAt Go.RowKit
variable {P:Program}
def Rdv {α:Type} (P:Program) (t:TypeId) (en:α->List PV) (k:Nat):Prop:=
  ∀ (Ht:Type) (enc:TypeId×Value->Ht) (w:World) (base:Nat) (spare:Nat->Bool) (held:Bool) (fuel:Nat) (cs:List Value) (x:DataW Ht×List MemPlace),
    DataW.trod enc P w base spare held fuel t cs=some x->(∀ n∈x.1.weights P t,n<=reachBytes)->∃ r:α,RowE en k (hp w) r cs
theorem rowE1 {α:Type} {en:α->List PV} {H:Hp} {r:α} {p:PV} {v:Value} (he:en r=[p]) (h:Sim H p v) (ho:v.oneCell'=true):RowE en 1 H r [v]:=
  ⟨by rw[he];rfl,by rw[he];exact Sims.nil.cons h,fun u hu=>by rw[List.mem_singleton.1 hu];exact ho⟩
theorem Ep_ {k:IntKind} {t:TypeId} (ht:P.underlying t=some (.int k)):Rdv P t (fun z:Int=>[.int k z]) 1:=fun _ _ _ _ _ _ _ _ _ h _=>by
  obtain⟨z,rfl,h1,h2⟩:=rd_int ht h
  exact⟨z,rowE1 rfl (.int h1 h2) rfl⟩
theorem rdv_bool {t:TypeId} (ht:P.underlying t=some .bool):Rdv P t (fun z:Bool=>[.bool z]) 1:=fun _ _ _ _ _ _ _ _ _ h _=>by
  obtain⟨z,rfl⟩:=rd_bool ht h
  exact⟨z,rowE1 rfl .bool rfl⟩
theorem Hs_ {t:TypeId} (ht:P.underlying t=some .string):Rdv P t (fun s:Bs=>[.str s]) 1:=fun _ _ _ _ _ _ _ _ _ h _=>by
  obtain⟨s,rfl,h1⟩:=rd_str ht h
  exact⟨s,rowE1 rfl (.str h1) rfl⟩
theorem Nj_ {H:Type} {e:TypeId}:∀ {ds:List (DataW H)} {d:DataW H} {n:Nat},d∈ds->n∈d.weights P e->n∈DataW.weightsAll P e ds
  |[],_,_,h,_=>by cases h
  |d0::r,d,n,h,hn=>by
    simp only[DataW.weightsAll,List.mem_append]
    rcases List.mem_cons.1 h with rfl|q
    · exact .inl hn
    · exact .inr (Nj_ q hn)
theorem Mh_ {α:Type} {en:α->List PV} {k:Nat} {t e:TypeId} (ht:P.underlying t=some (.slice e)) (hk:P.cellsOf e=k) (h0:0<k) (hb:0<P.bytesOf e) (he:Rdv P e en k):Rdv P t (fun xs:List α=>[.sl en xs]) 1:=fun Ht enc w base spare held fuel cs x h hw=>by
  have hlen:∀ {a:Option Addr} {l c:Nat},cs=[.slice a l c]->l<=140737488355328:=fun {a l c} hcs=>by
    subst hcs
    rcases dat_slice ht h with ⟨_,rfl⟩|⟨el,sp,hx,rfl⟩
    · exact Nat.zero_le _
    · have :=hw ((el.length+sp.length)*P.bytesOf e) (by rw[hx];simp[DataW.weights,ht])
      have h1:el.length<=(el.length+sp.length)*P.bytesOf e:=Nat.le_trans (Nat.le_add_right _ _) (Nat.le_mul_of_pos_right _ hb)
      have h2:reachBytes=140737488351232:=by decide
      omega
  rcases Go.Deep.open_slice ht h with ⟨h1,_⟩|⟨a,len,cap,m,nf,D,Pl,h1,_,hl,hm,hmm,hx,hi⟩
  · subst h1
    exact⟨[],rowE1 rfl (Sim.of_slh (k:=0) Zm_ (by simp)) rfl⟩
  · have hs0:0<len->a=⟨a.block,a.off,none⟩:=by
      intro hl0
      obtain⟨cs',hc,hT⟩:=hi 0 (by rw[hmm];split<;>omega)
      rw[hk,Nat.zero_mul] at hc
      obtain⟨_,hcl,hat⟩:=World.cells?_some hc
      have ha0:=hat 0 h0
      rw[List.getElem?_eq_getElem (by omega)] at ha0
      obtain⟨ab,ao,asp⟩:=a
      cases asp with
      |none=>rfl
      |some z=>
        exfalso
        unfold World.cell? at ha0
        simp only[Addr.add] at ha0
        split at ha0<;>simp at ha0
    have hwD:∀ i,i<len->∀ n∈(D i).weights P e,n<=reachBytes:=fun i hil n hn=>by
      refine hw n ?_
      rw[hx]
      simp only[DataW.weights,ht,List.mem_cons,List.mem_append]
      exact .inr (.inl (Nj_ (List.mem_map.2 ⟨i,List.mem_range.2 hil,rfl⟩) hn))
    have key:∀ i,i<len->∃ r:α,∃ cs',RowE en k (hp w) r cs'/\SlAt (hp w) (.slice (some a) len cap) k i cs':=by
      intro i hil
      have ha:=hs0 (by omega)
      obtain⟨cs',hc,hT⟩:=hi i (by rw[hmm];split<;>omega)
      obtain⟨r,hr⟩:=he _ _ _ _ _ _ _ _ _ hT (hwD i hil)
      rw[hk] at hc
      obtain⟨_,hcl,hat⟩:=World.cells?_some hc
      refine⟨r,cs',hr,?_⟩
      generalize a.block=ab at ha
      generalize a.off=ao at ha
      subst ha
      simp only[Fl_] at hat
      have ha0:=hat 0 h0
      rw[List.getElem?_eq_getElem (by omega)] at ha0
      unfold World.cell? at ha0
      simp only at ha0
      split at ha0
      · rename_i c T fr hb
        refine⟨ab,ao,len,cap,c,T,fr,rfl,hb,hcl,fun j hj=>?_⟩
        have :=hat j hj
        unfold World.cell? at this
        simp only at this
        rw[hb] at this
        simpa using this
      · cases ha0
    obtain⟨rs,hlen',hr⟩:=list_of (Q:=fun i (r:α)=>∃ cs',RowE en k (hp w) r cs'/\SlAt (hp w) (.slice (some a) len cap) k i cs') len key
    have hs:SlH (RowE en k) k (hp w) (.slice (some a) rs.length cap) rs:=⟨⟨some a,cap,rfl,by omega⟩,fun i hi=>by rw[hlen'];exact hr i hi⟩
    subst h1
    have hle:=hlen (rfl :[Value.slice (some a) len cap]=_)
    refine⟨rs,rowE1 rfl (v:= .slice (some a) len cap) (by rw[<- hlen'];exact Sim.of_slh hs (by omega)) rfl⟩
theorem rows_app {ps qs:List PV} {H:Hp} {cs ds:List Value} {m n:Nat} (h:ps.length=m/\Sims H ps cs/\∀ u∈cs,u.oneCell'=true) (k:qs.length=n/\Sims H qs ds/\∀ u∈ds,u.oneCell'=true):(ps++qs).length=m+n/\Sims H (ps++qs) (cs++ds)/\∀ u∈cs++ds,u.oneCell'=true:=
  ⟨by simp[h.1,k.1],h.2.1.append k.2.1,fun u hu=>by rcases List.mem_append.1 hu with q|q;exact h.2.2 u q;exact k.2.2 u q⟩
theorem A2_ {Ht:Type} {enc:TypeId×Value->Ht} {w:World} {base:Nat} {spare:Nat->Bool} {held:Bool} {cs:List Value} {t:TypeId} {fs:Array Field} {xs:List (DataW Ht×List MemPlace)} {n i o k:Nat} {f:Field} {ft:TypeId} {α:Type} {en:α->List PV} (ht:P.underlying t=some (.struct fs))
    (hf:∀ (i:Nat) (f:Field),fs[i]? = some f->DataW.trod enc P w base spare held n f.type ((cs.drop f.offset).take (P.cellsOf f.type))=xs[i]?) (hl:xs.length=fs.size) (hw:∀ q∈(DataW.agg (xs.map (·.1)):DataW Ht).weights P t,q<=reachBytes)
    (hi:fs[i]? = some f) (ho:f.offset=o) (hft:f.type=ft) (hk:P.cellsOf ft=k) (hr:Rdv P ft en k):∃ r,RowE en k (hp w) r ((cs.drop o).take k):=by
  obtain⟨y,hy⟩:=rd_fld hf hl hi ho hft hk
  refine hr _ _ _ _ _ _ _ _ _ hy fun q hq=>hw q ?_
  have h:=hf i f hi
  rw[ho,hft,hk,hy] at h
  simp only[DataW.weights,ht]
  refine DataW.weights_mem_each (j:=i) (t:=ft) (d:=y.1) ?_ ?_ q hq
  · rw[List.getElem?_map,Array.getElem?_toList,hi];simp[hft]
  · rw[List.getElem?_map,<- h];rfl
theorem Bz_ {en:List PV} {H:Hp} {cs:List Value} {o k:Nat} {q:Nat} (h:en.length=k/\Sims H en ((cs.drop o).take k)/\∀ u∈(cs.drop o).take k,u.oneCell'=true) {es:List PV} (hr:es.length=q/\Sims H es (cs.drop (o+k))/\∀ u∈cs.drop (o+k),u.oneCell'=true):(en++es).length=k+q/\Sims H (en++es) (cs.drop o)/\∀ u∈cs.drop o,u.oneCell'=true:=by
  have :=rows_app h hr
  rw[<- List.drop_drop,List.take_append_drop] at this
  exact this
theorem Iq_ {en:List PV} {H:Hp} {cs:List Value} {o k:Nat} (hl:cs.length=o+k) (h:en.length=k/\Sims H en ((cs.drop o).take k)/\∀ u∈(cs.drop o).take k,u.oneCell'=true):en.length=k/\Sims H en (cs.drop o)/\∀ u∈cs.drop o,u.oneCell'=true:=by
  rw[List.take_of_length_le (by simp;omega)] at h
  exact h
section
variable {Ht:Type} {enc:TypeId×Value->Ht} {w:World} {r:Reach} {b0 base:Nat} {spare:Nat->Bool} {held:Bool} {t:TypeId} {v:Value} {d:DataW Ht} {p:List MemPlace}
theorem arg_int {k:IntKind} (hs:P.underlying t=some (.int k)) (hv:Value.okWide P w r b0 t v) (h:DataW.Trod enc P w base spare held t v d p):∃ z:Int,Sim (hp w) (.int k z) v:=by
  obtain⟨z,rfl,h1,h2⟩:=rd_one_int hs hv h
  exact⟨z, .int h1 h2⟩
theorem arg_rec {α:Type} {en:α->List PV} {k:Nat} {fs:Array Field} (hs:P.underlying t=some (.struct fs)) (hv:Value.okWide P w r b0 t v) (h:DataW.Trod enc P w base spare held t v d p) (hw:∀ q∈d.weights P t,q<=reachBytes) (hr:Rdv P t en k):∃ z:α,Sim (hp w) (.agg (en z)) v:=by
  obtain⟨l,fuel,rfl,h1⟩:=rd_agg hs hv h
  obtain⟨z,h2⟩:=hr _ _ _ _ _ _ _ _ _ h1 hw
  exact⟨z,Sim.toAgg h2.2.1⟩
theorem arg_sl {α:Type} {en:α->List PV} {e:TypeId} (hs:P.underlying t=some (.slice e)) (hv:Value.okWide P w r b0 t v) (h:DataW.Trod enc P w base spare held t v d p) (hw:∀ q∈d.weights P t,q<=reachBytes) (hr:Rdv P t (fun xs:List α=>[.sl en xs]) 1):∃ z:List α,Sim (hp w) (.sl en z) v:=by
  obtain⟨fuel,h1⟩:=h
  obtain⟨z,h2⟩:=hr _ _ _ _ _ _ _ _ _ h1 hw
  obtain⟨u,us,e1,h3,h4⟩:=h2.2.1.inv_cons
  cases h4.inv_nil
  have :∃ a l c,u = .slice a l c:=by cases h3;exact⟨_,_,_,rfl⟩
  obtain⟨a,l,c,rfl⟩:=this
  obtain rfl :=Xn_ hs hv e1
  exact⟨z,h3⟩
theorem wt_arg {ts:List TypeId} {ds:List (DataW Ht)} {j:Nat} (hw:(DataW.weightsEach P ts ds).all (· <= reachBytes)=true) (ht:ts[j]? = some t) (hd:ds[j]? = some d):∀ q∈d.weights P t,q<=reachBytes:=fun q hq=>by
  have :=List.all_eq_true.1 hw q (DataW.weights_mem_each ht hd q hq)
  simpa using this
end
theorem law_run {G:Gb} {f:FuncId} {args:List PV} {b:Bool} {vs:List Value} {W:World} (h:Fn P G f args (.bool b)) (hg:G.p (hp W)) (hs:Sims (hp W) args vs) (hb:b=true):Calls P f vs.toArray W fun e W'=>e = .returned (.bool true)/\Mem (rest0 W) (hp W) l0 W':=
  (h.run (rest0 W) (hp W) l0 W vs hg hs (mem0 W)).mono fun _ _ ⟨v,H',h1,h2,h3,h4⟩=>⟨by rw[h1,h2.inv_bool,hb],h4.le h3⟩
end Go.SW
namespace Go.SW.V
open Go.SW
variable {P:Program} {n m:Nat} {N:Rest} {H0:Env} {all rest:List Oper} {Q:Qs} {ks:List Kt} {fF gF:Nat->PV} {fL gL:Nat->Blk} {T ty d:Nat} {pos:String} {af:Array Edge} {x y z:Operand}
def deF (ts:List Nat) (G:Nat->PV):Nat->PV:=fun t=>bif memB ts t then G t else (match G t with
  | .osl _=> .junk
  |p=>p)
def arrU:Blk->Option Value
  | .arr u _ _ _ _=>some u
  |_=>none
def Yw_ (G:Nat->PV) (L L':Nat->Blk):List Nat->Prop
  |[]=>True
  | t::r=>(match G t with
    | .osl q=>arrU (L' q)=arrU (L q)
    |_=>True)/\Yw_ G L L' r
theorem Wd_ {G:Nat->PV} {L L':Nat->Blk}:∀ {ts:List Nat} {t q:Nat},Yw_ G L L' ts->t∈ts->G t = .osl q->arrU (L' q)=arrU (L q)
  |[],t,q,_,h,_=>by cases h
  |a::r,t,q,hk,h,hG=>by
    rcases List.mem_cons.1 h with rfl|h
    · have :=hk.1;rw[hG] at this;exact this
    · exact Wd_ hk.2 h hG
def inlK (P:Program) (n:Nat) (N:Rest) (H0:Env) (tb:Tb) (rs:List ResultVar) (ts:List Nat) (fF:Nat->PV) (fL:Nat->Blk) (Q:Qs) (all rest:List Oper) (ks:List Kt) (d:Nat):Qs:=fun e s=>(e = .normal\/e = .ret) /\
  ∃ ps as0 bs,Ha_ tb s rs=some (ps,as0,bs)/\as0=bs/\(tupP ps).noOsl=true/\Yw_ fF fL s.L ts/\Hd P n N H0 Q (.ops all rest) ks ⟨updp (deF ts fF) d (tupP ps),s.L⟩
theorem inlr {H1:Env} {tb:Tb} {rs:List ResultVar} {ts:List Nat} {ps:List PV} {as0 bs:List Nat} (h:Ha_ tb ⟨gF,gL⟩ rs=some (ps,as0,bs)) (he:as0=bs) (hno:(tupP ps).noOsl=true) (hk:Yw_ fF fL gL ts) (k:Hd P n N H0 Q (.ops all rest) ks ⟨updp (deF ts fF) d (tupP ps),gL⟩):Hd P m N H1 (inlK P n N H0 tb rs ts fF fL Q all rest ks d) (.ex .ret) [] ⟨gF,gL⟩:=⟨.inr rfl,ps,as0,bs,h,he,hno,hk,k⟩
theorem inln {H1:Env} {tb:Tb} {rs:List ResultVar} {ts:List Nat} {ps:List PV} {as0 bs:List Nat} (h:Ha_ tb ⟨gF,gL⟩ rs=some (ps,as0,bs)) (he:as0=bs) (hno:(tupP ps).noOsl=true) (hk:Yw_ fF fL gL ts) (k:Hd P n N H0 Q (.ops all rest) ks ⟨updp (deF ts fF) d (tupP ps),gL⟩):Hd P m N H1 (inlK P n N H0 tb rs ts fF fL Q all rest ks d) (.ex .normal) [] ⟨gF,gL⟩:=⟨.inl rfl,ps,as0,bs,h,he,hno,hk,k⟩
theorem deF_ok {ts:List Nat} {H:Hp} {F:Fr} (hf:∀ t,SimT fL H (fF t) (F t)) (hk:Yw_ fF fL gL ts) (t:Nat):SimT gL H (deF ts fF t) (F t):=by
  have h1:=hf t
  unfold deF
  cases e:memB ts t with
  |true=>
    simp only[cond_true]
    cases hp:fF t with
    |osl q=>
      have h2:=Wd_ hk (Ma_ e) hp
      rw[hp] at h1
      simp only[SimT] at h1 ⊢
      cases hg:gL q with
      |arr u' k' e' enc' xs'=>
        cases hl:fL q with
        |arr u k e enc xs=>rw[hg,hl] at h2;simp only[arrU,Option.some.injEq] at h2;rw[hl] at h1;rw[h2];exact h1
        |_=>rw[hg,hl] at h2;simp[arrU] at h2
      |_=>trivial
    |_=>rw[hp] at h1;exact h1
  |false=>
    simp only[cond_false]
    cases hp:fF t with
    |osl q=>exact Sim.junk
    |_=>rw[hp] at h1;exact h1
theorem hinl {tb:Tb} {f:FuncId} {fn:Func} {c:Code} {args:List PV} {xs:Array Operand} {ats:Array TypeId} (ts:List Nat) (ht:tbB P tb=true) (hf:P.funcs[f]? = some fn) (hb:fn.body=some c) (hn:fn.ntmps=m) (hcb:R_ P f) (ha:argsP fF x xs.toList=some (f,args)) (hs:Nat.ble args.length m=true) (hna:Bk_ args=true) (hd:Nat.blt d n=true)
    (h:∀ Hc,H0.g.p Hc->Hd P m N ⟨Hc,H0.g⟩ (inlK P n N H0 tb fn.results.toList ts fF fL Q all rest ks d) (.code c) [] ⟨M8_ args,fL⟩):Hd P n N H0 Q (.ops all (⟨some d, .call ⟨.value x,xs,ats⟩,ty,pos,af,none⟩::rest)) ks ⟨fF,fL⟩:=by
  intro F H L hab
  obtain⟨vs,h1,h2⟩:=Ho_ (ats:=ats) hab.f ha hcb
  refine ow1 fun a w hA hm=>?_
  rw[if_pos (by simp[Region.wanted])]
  unfold Oper.wp
  rw[hA.eval,h2]
  subst hn
  have h3:=h H hab.g (Iu_ vs.toArray) H L ⟨.refl H,hab.g,fun t=>Ka_ h1 hna t,hab.l⟩
  refine Gt_ (R:=fun v H' L'=>∃ (sL:Nat->Blk) (res:PV),Sim H' res v/\res.noOsl=true/\Yw_ fF fL sL ts/\(∀ i,SimB sL H' (sL i) (L' i))/\H0.g.p H'/\Hd P n N H0 Q (.ops all rest) ks ⟨updp (deF ts fF) d res,sL⟩) (H0:=H) hf hb (by have :=Nat.le_of_ble_eq_true hs;simp[h1.1];exact this) (Ic_ (fun e F' H' L' hq=>?_) h3) hm ?_
  · obtain⟨s',ha',he,ps,as0,bs,e1,e2,e3,e4,e5⟩:=hq
    obtain⟨_,v,hr,hv⟩:=Mk_ (N:=N) (res:=tupP ps) ht ha' (show rtK tb fn.results.toList (tupP ps) e s' from ⟨he,ps,as0,bs,e1,e2,ple rfl⟩)
    rcases he with rfl|rfl
    · exact⟨v,hr,ha'.le,s'.L,_,hv,e3,e4,ha'.l,ha'.g,e5⟩
    · exact⟨v,hr,ha'.le,s'.L,_,hv,e3,e4,ha'.l,ha'.g,e5⟩
  · intro v H' L' w' ⟨sL,res,e1,e2,e3,e4,e5,e6⟩ hl hm'
    refine⟨_,H',L',hA.put (by simpa using hd) v,hm',?_⟩
    exact e6 _ _ _ (Abs.put (p:=res) (s:=⟨deF ts fF,sL⟩) ⟨hab.le.trans hl,e5,deF_ok (fun t=>(hab.f t).mono hl) e3,e4⟩ d (e1.simT e2))
end Go.SW.V
namespace Go.SW.V
open Go.SW
variable {P:Program} {n:Nat} {N:Rest} {H0:Env} {all rest:List Oper} {Q:Qs} {ks:List Kt} {fF:Nat->PV} {fL:Nat->Blk} {T ty d:Nat} {pos:String} {af:Array Edge} {x y z:Operand} {K:St->Prop}
end Go.SW.V
namespace Go.SW.V
open Go.SW
variable {P:Program} {n:Nat} {N:Rest} {H0:Env} {all rest:List Oper} {Q:Qs} {ks:List Kt} {fF:Nat->PV} {fL:Nat->Blk} {T ty d:Nat} {pos:String} {af:Array Edge} {x y z:Operand} {K:St->Prop}
theorem lo_aidx {F:Fr} {H:Hp} {L:Ls} {kk:IntKind} {b off len k m:Nat} {i:Int} {e:TypeId} (hx:ev F x = .pointer (some ⟨b,off,none⟩)) (hy:ev F y = .int kk i) (hT:P.underlying T=some (.array len e)) (hk:Sz P e k) (hi:i=(m:Int)) (hm:m<len):SW.Lo P N (.indexAddr T x y) ty F H L (.pointer (some ⟨b,off+m*k,none⟩)):=fun d pos af gg w _=>by
  subst hi
  simp[execOp,hy,hx,Instr.indexAt,asIntOf,run_underlying hT,Instr.sureAddr,hk w,hm,Addr.add]
theorem qaia {kk:IntKind} {i b off len k:Nat} {z:Int} {e:TypeId} (m:Nat) (hx:evP fF x = .own i b off) (hy:evP fF y = .int kk z) (hT:P.underlying T=some (.array len e)) (hk:Sz P e k) (hi:z=(m:Int)) (hm:m<len):Qy P N H0 ⟨fF,fL⟩ (.indexAddr T x y) ty (.own i b (off+m*k)):=fun F H L ha=>by
  have h1:=(B6_ ha.f x).sim
  have h2:=(B6_ ha.f y).sim
  simp only at h1 h2
  rw[hx] at h1
  rw[hy] at h2
  exact⟨_,Sim.own,fun _ _ _=>lo_aidx h1.inv_own h2.inv_int.1 hT hk hi hm⟩
theorem oload1 {tb:Tb} {ti:TI} {i b b' off T0:Nat} {cs:List PV} (p:PV) (ht:tbB P tb=true) (hx:evP fF x = .own i b off) (hb:fL i = .box b' T0 cs) (hbb:b'=b) (hti:lkT tb T=some ti) (hag:ti.k.isAgg=false) (hc:cs[off]? = some p) (hd:Nat.blt d n=true) (k:p.wf->K ⟨updp fF d p,fL⟩):E1 P n N H0 all ⟨some d, .load T x,ty,pos,af,none⟩ none ⟨fF,fL⟩ K:=by
  intro F H L ha
  subst hbb
  have h1:=(B6_ ha.f x).sim
  simp only at h1
  rw[hx] at h1
  have h3:=ha.l i
  simp only[hb] at h3
  obtain⟨vs,hL,hs⟩:=h3
  obtain⟨v,hv,hsv⟩:=hs.get hc
  have hg:=(Dr_ ht hti).ag
  rw[hag] at hg
  exact Nb_ hd (Jg_ h1.inv_own hg hL hv) ⟨.refl H,fun _ _=>rfl,_,ha.put d hsv,k hsv.sim.wf⟩
theorem oloadA {tb:Tb} {ti:TI} {i b b' off T0:Nat} {cs:List PV} (ps:List PV) (ht:tbB P tb=true) (hx:evP fF x = .own i b off) (hb:fL i = .box b' T0 cs) (hbb:b'=b) (hti:lkT tb T=some ti) (hag:ti.k.isAgg=true) (hc:(cs.drop off).take ti.size=ps) (hl:off+ti.size<=cs.length) (hd:Nat.blt d n=true) (k:PV.wfs ps->K ⟨updp fF d (.agg ps),fL⟩):E1 P n N H0 all ⟨some d, .load T x,ty,pos,af,none⟩ none ⟨fF,fL⟩ K:=by
  intro F H L ha
  subst hbb
  have h1:=(B6_ ha.f x).sim
  simp only at h1
  rw[hx] at h1
  have h3:=ha.l i
  simp only[hb] at h3
  obtain⟨vs,hL,hs⟩:=h3
  have hg:=(Dr_ ht hti).ag
  rw[hag] at hg
  have hsv:Sims H ps ((vs.drop off).take ti.size):=by rw[<- hc];exact (hs.sims.drop off).take ti.size
  exact Nb_ hd (Qb_ (vs:=(vs.drop off).take ti.size) h1.inv_own hg (Dr_ ht hti).sz hL rfl (by simp[hs.1];omega)) ⟨.refl H,fun _ _=>rfl,_,ha.put (p:= .agg ps) d (Sim.toAgg hsv),k hsv.wf⟩
theorem ostore1 {tb:Tb} {ti:TI} {i b b' off T0:Nat} {cs:List PV} {p:PV} (cs':List PV) (ht:tbB P tb=true) (hx:evP fF x = .own i b off) (hb:fL i = .box b' T0 cs) (hti:lkT tb T=some ti) (hsz:ti.size=1) (hy:evS (evP fF y)=some p) (ho:p.one=true) (hl:off<cs.length) (hbb:b'=b) (hc:cs.set off p=cs')
    (k:K ⟨fF,lups fL i (.box b T0 cs')⟩):E1 P n N H0 all ⟨none, .store T x y,ty,pos,af,none⟩ (some i) ⟨fF,fL⟩ K:=
  SW.store1 (s:=⟨fF,fL⟩) ht hx hb hti hsz hy ho (by simpa [Nat.blt_eq] using hl) hbb (by rw[hc];simp only[evL,O2_]) k
theorem ostoreA {tb:Tb} {ti:TI} {i b b' off T0:Nat} {cs ps:List PV} (cs':List PV) (ht:tbB P tb=true) (hx:evP fF x = .own i b off) (hb:fL i = .box b' T0 cs) (hti:lkT tb T=some ti) (hy:evP fF y = .agg ps) (hn:Bk_ ps=true) (ho:all1 ps=true) (hsz:ps.length=ti.size) (hl:off+ti.size<=cs.length) (hbb:b'=b) (hc:cs.take off++(ps++cs.drop (off+ti.size))=cs')
    (k:K ⟨fF,lups fL i (.box b T0 cs')⟩):E1 P n N H0 all ⟨none, .store T x y,ty,pos,af,none⟩ (some i) ⟨fF,fL⟩ K:=
  SW.storeA (s:=⟨fF,fL⟩) ht hx hb hti hy hn ho hsz (by simpa using hl) hbb (by rw[hc];simp only[evL,O2_]) k
theorem oloadS1 {tb:Tb} {ti:TI} {i b b' off T0 len:Nat} {cs:List PV} (row:Nat->PV) (m base w o:Nat) (ht:tbB P tb=true) (hx:evP fF x = .own i b off) (hb:fL i = .box b' T0 cs) (hbb:b'=b) (hti:lkT tb T=some ti) (hag:ti.k.isAgg=false) (hoff:off=base+m*w+o) (hm:m<len) (hc:∀ q,q<len->cs[base+q*w+o]? = some (row q)) (hd:Nat.blt d n=true) (k:(row m).wf->K ⟨updp fF d (row m),fL⟩):E1 P n N H0 all ⟨some d, .load T x,ty,pos,af,none⟩ none ⟨fF,fL⟩ K:=
  oload1 (row m) ht hx hb hbb hti hag (by rw[hoff];exact hc m hm) hd k
theorem Mc_ {tb:Tb} {ti:TI} {i b b' off T0 len sz:Nat} {cs:List PV} (row:Nat->List PV) (m base w o:Nat) (ht:tbB P tb=true) (hx:evP fF x = .own i b off) (hb:fL i = .box b' T0 cs) (hbb:b'=b) (hti:lkT tb T=some ti) (hag:ti.k.isAgg=true) (hsz:ti.size=sz) (hoff:off=base+m*w+o) (hm:m<len) (hc:∀ q,q<len->(cs.drop (base+q*w+o)).take sz=row q) (hl:∀ q,q<len->Nat.ble (base+q*w+o+sz) cs.length=true) (hd:Nat.blt d n=true) (k:PV.wfs (row m)->K ⟨updp fF d (.agg (row m)),fL⟩):E1 P n N H0 all ⟨some d, .load T x,ty,pos,af,none⟩ none ⟨fF,fL⟩ K:=
  oloadA (row m) ht hx hb hbb hti hag (by rw[hoff,hsz];exact hc m hm) (by rw[hoff,hsz];simpa using hl m hm) hd k
theorem ostoreS1 {tb:Tb} {ti:TI} {i b b' off T0 len:Nat} {cs cs2:List PV} {p:PV} (cs':Nat->List PV) (m base w o:Nat) (ht:tbB P tb=true) (hx:evP fF x = .own i b off) (hb:fL i = .box b' T0 cs) (hti:lkT tb T=some ti) (hsz:ti.size=1) (hy:evS (evP fF y)=some p) (ho:p.one=true) (hoff:off=base+m*w+o) (hm:m<len) (hl:∀ q,q<len->Nat.blt (base+q*w+o) cs.length=true) (hbb:b'=b) (hc:∀ q,q<len->cs.set (base+q*w+o) p=cs' q) (he:evL (cs' m)=some cs2)
    (k:K ⟨fF,lups fL i (.box b T0 cs2)⟩):E1 P n N H0 all ⟨none, .store T x y,ty,pos,af,none⟩ (some i) ⟨fF,fL⟩ K:=
  ostore1 cs2 ht hx hb hti hsz hy ho (by rw[hoff];simpa [Nat.blt_eq] using hl m hm) hbb (by rw[hoff,hc m hm,<- V4_ he]) k
theorem Qe_ {tb:Tb} {ti:TI} {i b b' off T0 len sz:Nat} {cs ps cs2:List PV} (cs':Nat->List PV) (m base w o:Nat) (ht:tbB P tb=true) (hx:evP fF x = .own i b off) (hb:fL i = .box b' T0 cs) (hti:lkT tb T=some ti) (hsz:ti.size=sz) (hy:evP fF y = .agg ps) (hn:Bk_ ps=true) (ho:all1 ps=true) (hps:ps.length=sz) (hoff:off=base+m*w+o) (hm:m<len) (hl:∀ q,q<len->Nat.ble (base+q*w+o+sz) cs.length=true) (hbb:b'=b) (hc:∀ q,q<len->cs.take (base+q*w+o)++(ps++cs.drop (base+q*w+o+sz))=cs' q) (he:evL (cs' m)=some cs2)
    (k:K ⟨fF,lups fL i (.box b T0 cs2)⟩):E1 P n N H0 all ⟨none, .store T x y,ty,pos,af,none⟩ (some i) ⟨fF,fL⟩ K:=
  ostoreA cs2 ht hx hb hti hy hn ho (by rw[hps,hsz]) (by rw[hoff,hsz];simpa using hl m hm) hbb (by rw[hoff,hsz,hc m hm,<- V4_ he]) k
theorem bw8 {p:Nat->Prop} (h0:p 0) (h1:p 1) (h2:p 2) (h3:p 3) (h4:p 4) (h5:p 5) (h6:p 6) (h7:p 7):∀ m,m<8->p m
  |0,_=>h0|1,_=>h1|2,_=>h2|3,_=>h3|4,_=>h4|5,_=>h5|6,_=>h6|7,_=>h7
  |m+8,h=>absurd h (by omega)
theorem bw16 {p:Nat->Prop} (h0:p 0) (h1:p 1) (h2:p 2) (h3:p 3) (h4:p 4) (h5:p 5) (h6:p 6) (h7:p 7) (h8:p 8) (h9:p 9) (h10:p 10) (h11:p 11) (h12:p 12) (h13:p 13) (h14:p 14) (h15:p 15):∀ m,m<16->p m
  |0,_=>h0|1,_=>h1|2,_=>h2|3,_=>h3|4,_=>h4|5,_=>h5|6,_=>h6|7,_=>h7|8,_=>h8|9,_=>h9|10,_=>h10|11,_=>h11|12,_=>h12|13,_=>h13|14,_=>h14|15,_=>h15
  |m+16,h=>absurd h (by omega)
structure A5 (α:Type) where
  (e0 e1 e2 e3 e4:α)
deriving DecidableEq,Inhabited
structure A8 (α:Type) where
  (e0 e1 e2 e3 e4 e5 e6 e7:α)
deriving DecidableEq,Inhabited
structure A16 (α:Type) where
  (e0 e1 e2 e3 e4 e5 e6 e7 e8 e9 e10 e11 e12 e13 e14 e15:α)
deriving DecidableEq,Inhabited
def A5.get {α:Type} (a:A5 α):Nat->α
  |0=>a.e0|1=>a.e1|2=>a.e2|3=>a.e3|_=>a.e4
def A8.get {α:Type} (a:A8 α):Nat->α
  |0=>a.e0|1=>a.e1|2=>a.e2|3=>a.e3|4=>a.e4|5=>a.e5|6=>a.e6|_=>a.e7
def A16.get {α:Type} (a:A16 α):Nat->α
  |0=>a.e0|1=>a.e1|2=>a.e2|3=>a.e3|4=>a.e4|5=>a.e5|6=>a.e6|7=>a.e7|8=>a.e8|9=>a.e9|10=>a.e10|11=>a.e11|12=>a.e12|13=>a.e13|14=>a.e14|_=>a.e15
def A5.set {α:Type} (a:A5 α) (v:α):Nat->A5 α
  |0=>{a with e0:=v}|1=>{a with e1:=v}|2=>{a with e2:=v}|3=>{a with e3:=v}|_=>{a with e4:=v}
def A8.set {α:Type} (a:A8 α) (v:α):Nat->A8 α
  |0=>{a with e0:=v}|1=>{a with e1:=v}|2=>{a with e2:=v}|3=>{a with e3:=v}|4=>{a with e4:=v}|5=>{a with e5:=v}|6=>{a with e6:=v}|_=>{a with e7:=v}
def A16.set {α:Type} (a:A16 α) (v:α):Nat->A16 α
  |0=>{a with e0:=v}|1=>{a with e1:=v}|2=>{a with e2:=v}|3=>{a with e3:=v}|4=>{a with e4:=v}|5=>{a with e5:=v}|6=>{a with e6:=v}|7=>{a with e7:=v}|8=>{a with e8:=v}|9=>{a with e9:=v}|10=>{a with e10:=v}|11=>{a with e11:=v}|12=>{a with e12:=v}|13=>{a with e13:=v}|14=>{a with e14:=v}|_=>{a with e15:=v}
theorem A16.get_set {α:Type} (a:A16 α) (v:α) (m q:Nat) (hm:m<16) (hq:q<16):(a.set v m).get q = if q=m then v else a.get q:=by
  revert q
  refine bw16 (p:=fun m=>∀ q,q<16->(a.set v m).get q = if q=m then v else a.get q) ?_ ?_ ?_ ?_ ?_ ?_ ?_ ?_ ?_ ?_ ?_ ?_ ?_ ?_ ?_ ?_ m hm<;>exact bw16 rfl rfl rfl rfl rfl rfl rfl rfl rfl rfl rfl rfl rfl rfl rfl rfl
theorem A8.get_set {α:Type} (a:A8 α) (v:α) (m q:Nat) (hm:m<8) (hq:q<8):(a.set v m).get q = if q=m then v else a.get q:=by
  revert q
  refine bw8 (p:=fun m=>∀ q,q<8->(a.set v m).get q = if q=m then v else a.get q) ?_ ?_ ?_ ?_ ?_ ?_ ?_ ?_ m hm<;>exact bw8 rfl rfl rfl rfl rfl rfl rfl rfl
end Go.SW.V
namespace Go.SW
theorem rl_set1 {α:Type} {enc:α->List PV} {k:Nat} {H:Hp} {p:PV} {v:Value} {o:Nat} {y:α} (ho:o<k) (hp:Sim H p v) (h1:v.oneCell'=true):∀ {xs:List α} {cs:List Value} {m:Nat},Rl (RowE enc k) H xs cs->m<xs.length->(∀ a,xs[m]? = some a->enc y=(enc a).set o p)->Rl (RowE enc k) H (xs.set m y) (cs.set (m*k+o) v)
  |[],_,_,_,hm,_=>by cases hm
  |x::xs,_,0,⟨c1,c2,e,r1,r2⟩,_,he=>by
    have ex:=he x rfl
    obtain⟨q1,q2,q3⟩:=r1
    have hl:c1.length=k:=by rw[q2.1,q1]
    refine⟨c1.set o v,c2,?_,⟨by rw[ex,List.length_set,q1],?_,?_⟩,r2⟩
    · rw[e,Nat.zero_mul,Nat.zero_add,List.set_append_left _ _ (by omega)]
    · rw[ex]
      refine⟨by simp[q2.1],fun i q w hq hw=>?_⟩
      rw[List.getElem?_set] at hq hw
      by_cases z:o=i
      · subst z
        rw[if_pos rfl,if_pos (by omega)] at hq
        rw[if_pos rfl,if_pos (by omega)] at hw
        cases hq;cases hw;exact hp
      · rw[if_neg z] at hq hw
        exact q2.2 i q w hq hw
    · intro w hw
      rcases List.mem_or_eq_of_mem_set hw with z|z
      · exact q3 w z
      · rw[z];exact h1
  |x::xs,_,m+1,⟨c1,c2,e,r1,r2⟩,hm,he=>by
    have hl:c1.length=k:=by rw[r1.2.1.1,r1.1]
    refine⟨c1,c2.set (m*k+o) v,?_,r1,rl_set1 ho hp h1 r2 (by simpa using hm) (fun a ha=>he a (by simpa using ha))⟩
    rw[e,List.set_append_right _ _ (by rw[hl,Nat.add_mul];omega),hl,show (m+1)*k+o-k=m*k+o by rw[Nat.add_mul];omega]
theorem rl_setA {α:Type} {enc:α->List PV} {k:Nat} {H:Hp} {ps:List PV} {vs:List Value} {o:Nat} {y:α} (ho:o+ps.length<=k) (hp:Sims H ps vs) (h1:∀ v∈vs,v.oneCell'=true):∀ {xs:List α} {cs:List Value} {m:Nat},Rl (RowE enc k) H xs cs->m<xs.length->(∀ a,xs[m]? = some a->enc y=(enc a).take o++(ps++(enc a).drop (o+ps.length)))->Rl (RowE enc k) H (xs.set m y) (cs.take (m*k+o)++(vs++cs.drop (m*k+o+ps.length)))
  |[],_,_,_,hm,_=>by cases hm
  |x::xs,_,0,⟨c1,c2,e,r1,r2⟩,_,he=>by
    have ex:=he x rfl
    obtain⟨q1,q2,q3⟩:=r1
    have hl:c1.length=k:=by rw[q2.1,q1]
    have hv:=hp.1
    refine⟨c1.take o++(vs++c1.drop (o+ps.length)),c2,?_,⟨by rw[ex];simp;omega,?_,?_⟩,r2⟩
    · rw[e,Nat.zero_mul,Nat.zero_add,List.take_append_of_le_length (by omega),List.drop_append_of_le_length (by omega)]
      simp
    · rw[ex]
      exact Sims.append (Sims.take q2 o) (Sims.append hp (Sims.drop q2 (o+ps.length)))
    · intro w hw
      simp only[List.mem_append] at hw
      rcases hw with z|z|z
      · exact q3 w (List.mem_of_mem_take z)
      · exact h1 w z
      · exact q3 w (List.mem_of_mem_drop z)
  |x::xs,_,m+1,⟨c1,c2,e,r1,r2⟩,hm,he=>by
    have hl:c1.length=k:=by rw[r1.2.1.1,r1.1]
    refine⟨c1,c2.take (m*k+o)++(vs++c2.drop (m*k+o+ps.length)),?_,r1,rl_setA ho hp h1 r2 (by simpa using hm) (fun a ha=>he a (by simpa using ha))⟩
    rw[e,show (m+1)*k+o=c1.length+(m*k+o) by rw[hl,Nat.add_mul];omega,List.take_append,List.take_of_length_le (by omega),show c1.length+(m*k+o)-c1.length=m*k+o by omega,Nat.add_assoc,List.drop_append,List.drop_of_length_le (by omega),show c1.length+(m*k+o+ps.length)-c1.length=m*k+o+ps.length by omega]
    simp
theorem Abs.turnU {P:Program} {n:Nat} {N:Rest} {H0:Env} {s:St} {F:Fr} {H:Hp} {L:Ls} {α:Type} {u:Value} {k e:Nat} {enc:α->List PV} {xs xs':List α} (ha:Abs H0 s F H L) (i:Nat) (hb:s.L i = .arr u k e enc xs) {x:Option (Nat×Obj)} (hx:SimB s.L H (.arr u k e enc xs') x):Abs H0 ⟨s.F,lups s.L i (.arr u k e enc xs')⟩ F H (lupd L i x):=by
  have hshape:∀ {p v},SimT s.L H p v->SimT (lups s.L i (.arr u k e enc xs')) H p v:=fun {p v} h=>by
    cases p with
    |osl j=>
      by_cases e:j=i
      · subst e;simp only[SimT,Cs_,hb] at h ⊢;exact h
      · simp only[SimT,Fw_ _ _ _ _ e] at h ⊢;exact h
    |_=>exact h
  refine⟨ha.le,ha.g,fun t=>hshape (ha.f t),fun j=>?_⟩
  by_cases e:j=i
  · subst e;simp only[Cs_,Bi_];exact hx
  · simp only[Fw_ _ _ _ _ e,Bc_ _ _ _ _ e]
    have h1:=ha.l j
    generalize s.L j=C at *
    cases C with
    |box b T cs=>obtain⟨vs,h2,h3,h4⟩:=h1;exact⟨vs,h2,h3,fun a p v hp hv=>hshape (h4 a p v hp hv)⟩
    |no=>trivial
    |arr u k e enc xs=>exact h1
    |itr b s p=>exact h1
    |ob b o=>exact h1
end Go.SW
namespace Go.SW.V
open Go.SW
variable {P:Program} {n:Nat} {N:Rest} {H0:Env} {all rest:List Oper} {Q:Qs} {ks:List Kt} {fF:Nat->PV} {fL:Nat->Blk} {T ty d:Nat} {pos:String} {af:Array Edge} {x y z:Operand} {K:St->Prop}
theorem lo_sidx {F:Fr} {H:Hp} {L:Ls} {kk:IntKind} {k m b o len cap:Nat} {i:Int} {e:TypeId} (hx:ev F x = .slice (some ⟨b,o,none⟩) len cap) (hy:ev F y = .int kk i) (hT:P.underlying T=some (.slice e)) (hk:Sz P e k) (hi:i=m) (hm:m<len):SW.Lo P N (.indexAddr T x y) ty F H L (.pointer (some ⟨b,o+m*k,none⟩)):=fun d pos af g w _=>by
  subst hi
  simp[execOp,hx,hy,Instr.indexAt,asIntOf,run_underlying hT,hk w,hm,Fl_]
theorem Su_ {α:Type} {s:St} {F:Fr} {H:Hp} {L:Ls} {i k e:Nat} {u:Value} {enc:α->List PV} {xs:List α} (ha:Abs H0 s F H L) (hb:s.L i = .arr u k e enc xs) (h0:0<xs.length) :
    ∃ b cap c f,u = .slice (some ⟨b,f.length,none⟩) xs.length cap/\L i=some (b,bx e (f++c))/\cap*k<=c.length/\xs.length<=cap/\Rl (RowE enc k) H xs (c.take (xs.length*k))/\xs.length<=140737488355328/\(k=1->f=[]):=by
  have h3:=ha.l i
  rw[hb] at h3
  obtain⟨cs,⟨hl,⟨_,h0',_⟩|⟨b,cap,c,f,rfl,hL,hcl,hle,htk,hff⟩⟩,hr,hm⟩:=h3
  · omega
  · exact⟨b,cap,c,f,rfl,hL,hcl,hle,by rw[htk];exact hr,hm,hff⟩
theorem eidx {α:Type} {tb:Tb} {ti te:TI} {kk:IntKind} {i e k:Nat} {z:Int} {u:Value} {enc:α->List PV} {xs:List α} (m:Nat) (ht:tbB P tb=true) (hx:evP fF x = .osl i) (hb:fL i = .arr u k e enc xs) (hy:evP fF y = .int kk z) (hti:lkT tb T=some ti) (htk:ti.k = .slc e) (hte:lkT tb e=some te) (hk:te.size=k) (hi:z=(m:Int)) (hm:m<xs.length) :
    Qy P N H0 ⟨fF,fL⟩ (.indexAddr T x y) ty (.val (.pointer (some ⟨sBlk u,sOff u+m*k,none⟩))):=fun F H L ha=>by
  have h1:=B6_ ha.f x
  unfold Ok1 at h1
  simp only at h1
  rw[hx] at h1
  simp only[SimT,hb] at h1
  have h2:=(B6_ ha.f y).sim
  simp only at h2
  rw[hy] at h2
  obtain⟨b,cap,c,f,rfl,hL,_⟩:=Su_ ha (i:=i) hb (by omega)
  have hsz:=(Dr_ ht hte).sz
  rw[hk] at hsz
  exact⟨_,Sim.val,fun _ _ _=>lo_sidx h1 h2.inv_int.1 ((Dr_ ht hti).slc htk) hsz hi hm⟩
theorem efld {b off f o:Nat} (hx:evP fF x = .val (.pointer (some ⟨b,off,none⟩))) (hf:Fld P T f o):Qy P N H0 ⟨fF,fL⟩ (.fieldAddr T x f) ty (.val (.pointer (some ⟨b,off+o,none⟩))):=fun F H L ha=>by
  have h1:=(B6_ ha.f x).sim
  simp only at h1
  rw[hx] at h1
  exact⟨_,Sim.val,fun _ _ _=>D2_ h1.inv_val hf⟩
theorem row_at {α:Type} {H:Hp} {enc:α->List PV} {k m:Nat} {xs:List α} {a:α} {c:List Value} (hr:Rl (RowE enc k) H xs (c.take (xs.length*k))) (ha:xs[m]? = some a):∃ ds,RowE enc k H a ds/\∀ j,j<k->c[m*k+j]? = ds[j]? :=by
  obtain⟨hm,rfl⟩:=List.getElem?_eq_some_iff.1 ha
  obtain⟨ds,p,q⟩:=rl_at I2_ hr m hm
  refine⟨ds,p,fun j hj=>?_⟩
  have :(m+1)*k<=xs.length*k:=Nat.mul_le_mul_right k (by omega)
  rw[Nat.add_mul] at this
  rw[<- q j hj,List.getElem?_take,if_pos (by omega)]
theorem elod1 {α:Type} {tb:Tb} {ti:TI} {i e k off:Nat} {u:Value} {enc:α->List PV} {xs:List α} {a:α} (p:PV) (m o:Nat) (ht:tbB P tb=true) (hx:evP fF x = .val (.pointer (some ⟨sBlk u,off,none⟩))) (hb:fL i = .arr u k e enc xs) (hti:lkT tb T=some ti) (hag:ti.k.isAgg=false) (ha':xs[m]? = some a) (hoff:off=sOff u+m*k+o) (hp:(enc a)[o]? = some p) (hn:p.noOsl=true) (hd:Nat.blt d n=true) (kk:p.wf->K ⟨updp fF d p,fL⟩):E1 P n N H0 all ⟨some d, .load T x,ty,pos,af,none⟩ none ⟨fF,fL⟩ K:=by
  intro F H L ha
  have h1:=(B6_ ha.f x).sim
  simp only at h1
  rw[hx] at h1
  have hm:m<xs.length:=(List.getElem?_eq_some_iff.1 ha').1
  obtain⟨b,cap,c,f,rfl,hL,hcl,hle,hr,hbb,hff⟩:=Su_ ha (i:=i) hb (by omega)
  obtain⟨ds,⟨q1,q2,q3⟩,q4⟩:=row_at hr ha'
  have ho:o<k:=by rw[<- q1];exact (List.getElem?_eq_some_iff.1 hp).1
  obtain⟨v,hv⟩:∃ v,ds[o]? = some v:=⟨_,List.getElem?_eq_getElem (by rw[q2.1,q1];exact ho)⟩
  have hs:=q2.2 o p v hp hv
  have hg:=(Dr_ ht hti).ag
  rw[hag] at hg
  exact Nb_ hd (Jg_ h1.inv_val hg hL (by rw[hoff];show (f++c)[f.length+m*k+o]? = _;rw[Nat.add_assoc,List.getElem?_append_right (by omega),Nat.add_sub_cancel_left,q4 o ho];exact hv)) ⟨.refl H,fun _ _=>rfl,_,ha.put d (hs.simT hn),kk hs.wf⟩
theorem est1 {α:Type} {tb:Tb} {ti:TI} {i e k off:Nat} {u:Value} {enc:α->List PV} {xs:List α} {p:PV} (m o:Nat) (a':α) (ht:tbB P tb=true) (hx:evP fF x = .val (.pointer (some ⟨sBlk u,off,none⟩))) (hb:fL i = .arr u k e enc xs) (hti:lkT tb T=some ti) (hsz:ti.size=1) (hy:evS (evP fF y)=some p) (ho:p.one=true) (hm:m<xs.length) (hoff:off=sOff u+m*k+o) (hok:o<k) (he:∀ a,xs[m]? = some a->enc a'=(enc a).set o p)
    (kk:K ⟨fF,lups fL i (.arr u k e enc (xs.set m a'))⟩):E1 P n N H0 all ⟨none, .store T x y,ty,pos,af,none⟩ (some i) ⟨fF,fL⟩ K:=by
  intro F H L ha
  have hy:=evS_eq hy
  have h1:=(B6_ ha.f x).sim
  simp only at h1
  rw[hx] at h1
  have h2:=(B6_ ha.f y).sim
  simp only at h2
  rw[hy] at h2
  obtain⟨b,cap,c,f,rfl,hL,hcl,hle,hr,hbb,hff⟩:=Su_ ha (i:=i) hb (by omega)
  have hsz':=(Dr_ ht hti).sz
  rw[hsz] at hsz'
  have hlt:m*k+o<xs.length*k:=by
    have :(m+1)*k<=xs.length*k:=Nat.mul_le_mul_right k (by omega)
    rw[Nat.add_mul] at this;omega
  have hlc:xs.length*k<=c.length:=Nat.le_trans (Nat.mul_le_mul_right k hle) hcl
  subst hoff
  have hset:(f++c).set (sOff (.slice (some ⟨b,f.length,none⟩) xs.length cap)+m*k+o) (ev F y)=f++c.set (m*k+o) (ev F y):=by
    show (f++c).set (f.length+m*k+o) (ev F y)=_
    rw[Nat.add_assoc,List.set_append_right _ _ (by omega),Nat.add_sub_cancel_left]
  refine Jo_ h1.inv_val rfl (h2.one ho) hsz' hL (by simp[Nat.blt_eq,sOff];omega) ?_
  rw[hset]
  refine⟨.refl H,only,_,ha.turnU (n:=n) (N:=N) (P:=P) i hb ⟨(c.set (m*k+o) (ev F y)).take (xs.length*k),⟨by simp;omega, .inr ⟨b,cap,c.set (m*k+o) (ev F y),f,by simp,rfl,by simpa using hcl,by simpa using hle,by simp,hff⟩⟩,?_,by simpa using hbb⟩,kk⟩
  rw[List.take_set]
  exact rl_set1 hok h2 (h2.one ho) hr hm he
theorem elodA {α:Type} {tb:Tb} {ti:TI} {i e k off sz:Nat} {u:Value} {enc:α->List PV} {xs:List α} {a:α} (ps:List PV) (m o:Nat) (ht:tbB P tb=true) (hx:evP fF x = .val (.pointer (some ⟨sBlk u,off,none⟩))) (hb:fL i = .arr u k e enc xs) (hti:lkT tb T=some ti) (hag:ti.k.isAgg=true) (hsz:ti.size=sz) (ha':xs[m]? = some a) (hoff:off=sOff u+m*k+o) (hp:((enc a).drop o).take sz=ps) (hos:o+sz<=k) (hd:Nat.blt d n=true) (kk:PV.wfs ps->K ⟨updp fF d (.agg ps),fL⟩):E1 P n N H0 all ⟨some d, .load T x,ty,pos,af,none⟩ none ⟨fF,fL⟩ K:=by
  intro F H L ha
  have h1:=(B6_ ha.f x).sim
  simp only at h1
  rw[hx] at h1
  have hm:m<xs.length:=(List.getElem?_eq_some_iff.1 ha').1
  obtain⟨b,cap,c,f,rfl,hL,hcl,hle,hr,hbb,hff⟩:=Su_ ha (i:=i) hb (by omega)
  obtain⟨ds,⟨q1,q2,q3⟩,q4⟩:=row_at hr ha'
  have hdl:ds.length=k:=by rw[q2.1,q1]
  have hsub:sub (f++c) off sz=(ds.drop o).take sz:=by
    apply List.ext_getElem?
    intro j
    simp only[sub,List.getElem?_take,List.getElem?_drop]
    by_cases z:j<sz
    · rw[if_pos z,if_pos z,hoff]
      show (f++c)[f.length+m*k+o+j]? = _
      rw[Nat.add_assoc,Nat.add_assoc,List.getElem?_append_right (by omega),Nat.add_sub_cancel_left,q4 (o+j) (by omega)]
    · rw[if_neg z,if_neg z]
  have hsv:Sims H ps ((ds.drop o).take sz):=by rw[<- hp];exact Sims.take (Sims.drop q2 o) sz
  have hg:=(Dr_ ht hti).ag
  rw[hag] at hg
  have hk:=(Dr_ ht hti).sz
  rw[hsz] at hk
  exact Nb_ hd (Qb_ (vs:=(ds.drop o).take sz) h1.inv_val hg hk hL hsub (by simp;omega)) ⟨.refl H,fun _ _=>rfl,_,ha.put (p:= .agg ps) d (Sim.toAgg hsv),kk hsv.wf⟩
theorem estA {α:Type} {tb:Tb} {ti:TI} {i e k off:Nat} {u:Value} {enc:α->List PV} {xs:List α} {ps:List PV} (m o:Nat) (a':α) (ht:tbB P tb=true) (hx:evP fF x = .val (.pointer (some ⟨sBlk u,off,none⟩))) (hb:fL i = .arr u k e enc xs) (hti:lkT tb T=some ti) (hy:evP fF y = .agg ps) (ho:all1 ps=true) (hsz:ps.length=ti.size) (hm:m<xs.length) (hoff:off=sOff u+m*k+o) (hok:o+ps.length<=k) (he:∀ a,xs[m]? = some a->enc a'=(enc a).take o++(ps++(enc a).drop (o+ps.length)))
    (kk:K ⟨fF,lups fL i (.arr u k e enc (xs.set m a'))⟩):E1 P n N H0 all ⟨none, .store T x y,ty,pos,af,none⟩ (some i) ⟨fF,fL⟩ K:=by
  intro F H L ha
  have h1:=(B6_ ha.f x).sim
  simp only at h1
  rw[hx] at h1
  have h2:=(B6_ ha.f y).sim
  simp only at h2
  rw[hy] at h2
  obtain⟨vs,hv,hvs⟩:=h2.inv_agg
  obtain⟨b,cap,c,f,rfl,hL,hcl,hle,hr,hbb,hff⟩:=Su_ ha (i:=i) hb (by omega)
  have hsz':=(Dr_ ht hti).sz
  rw[<- hsz] at hsz'
  have hlt:m*k+o+ps.length<=xs.length*k:=by
    have :(m+1)*k<=xs.length*k:=Nat.mul_le_mul_right k (by omega)
    rw[Nat.add_mul] at this;omega
  have hlc:xs.length*k<=c.length:=Nat.le_trans (Nat.mul_le_mul_right k hle) hcl
  have hvl:vs.length=ps.length:=hvs.1
  have ha1:=Qk_ hvs ho
  subst hoff
  refine Rx_ (f++(c.take (m*k+o)++(vs++c.drop (m*k+o+ps.length)))) h1.inv_val hv ha1 hsz' hvl hL (by simp[Nat.ble_eq,sOff];omega) ?_ ?_
  · show (f++c).take (f.length+m*k+o)++(vs++(f++c).drop (f.length+m*k+o+ps.length))=_
    rw[Nat.add_assoc f.length,Nat.add_assoc f.length,List.take_append,List.drop_append,List.take_of_length_le (by omega),List.drop_of_length_le (by omega),Nat.add_sub_cancel_left,Nat.add_sub_cancel_left]
    simp
  refine⟨.refl H,only,_,ha.turnU (n:=n) (N:=N) (P:=P) i hb ⟨(c.take (m*k+o)++(vs++c.drop (m*k+o+ps.length))).take (xs.length*k),⟨by simp;omega, .inr ⟨b,cap,_,f,by simp,rfl,by simp;omega,by simpa using hle,by simp,hff⟩⟩,?_,by simpa using hbb⟩,kk⟩
  have e:(c.take (m*k+o)++(vs++c.drop (m*k+o+ps.length))).take (xs.length*k)=(c.take (xs.length*k)).take (m*k+o)++(vs++(c.take (xs.length*k)).drop (m*k+o+ps.length)):=by
    obtain⟨A,B,hA,hc,hAl⟩:∃ A B,c.take (xs.length*k)=A/\c=A++B/\A.length=xs.length*k:=⟨_,_,rfl,(List.take_append_drop _ _).symm,by simp;omega⟩
    rw[hA,hc,List.take_append_of_le_length (show m*k+o<=A.length by omega),List.drop_append_of_le_length (show m*k+o+ps.length<=A.length by omega),<- List.append_assoc vs,<- List.append_assoc]
    exact List.take_left' (by simp;omega)
  rw[e]
  exact rl_setA hok hvs (by simpa [List.all_eq_true] using ha1) hr hm he
theorem ecut1 {α:Type} {tb:Tb} {ti te:TI} {kk:IntKind} {i e k:Nat} {z:Int} {u:Value} {enc:α->List PV} {xs:List α} (ht:tbB P tb=true) (hx:evP fF x = .osl i) (hb:fL i = .arr u k e enc xs) (hy:evP fF y = .int kk z) (hti:lkT tb T=some ti) (htk:ti.k = .slc e) (hte:lkT tb e=some te) (hk:te.size=k) (h1:Nat.blt 1 k=true) (hi:z=1) (hm:0<xs.length) (hd:Nat.blt d n=true)
    (kk:∀ u',K ⟨updp (H6_ i fF) d (.osl i),lups (Gp_ i fL) i (.arr u' k e enc (xs.drop 1))⟩):E1 P n N H0 all ⟨some d, .slice T x (some y) none none,ty,pos,af,none⟩ (some i) ⟨fF,fL⟩ K:=by
  intro F H L ha
  have h1':=B6_ ha.f x
  unfold Ok1 at h1'
  simp only at h1'
  rw[hx] at h1'
  simp only[SimT,hb] at h1'
  have h2:=(B6_ ha.f y).sim
  simp only at h2
  rw[hy] at h2
  have hb':fL i = .arr u k e enc xs:=hb
  obtain⟨b,cap,c,f,rfl,hL,hcl,hle,hr,hbb,hff⟩:=Su_ (s:=⟨fF,fL⟩) ha (i:=i) hb' hm
  have hsz:=(Dr_ ht hte).sz
  rw[hk] at hsz
  have hk1:1<k:=by simpa [Nat.blt_eq] using h1
  refine Nb_ hd (L6_ 1 h1' h2.inv_int.1 ((Dr_ ht hti).slc htk) hsz (by omega) (by omega)) ?_
  have hLL:lupd L i (L i)=L:=by funext j;by_cases e:j=i;(subst e;exact Bi_ _ _ _);exact Bc_ _ _ _ _ e
  obtain⟨x0,xr,rfl⟩:∃ a r,xs=a::r:=by cases xs with|nil=>cases hm|cons a r=>exact⟨a,r,rfl⟩
  have hrl:=Xs_ I2_ hr
  have :=ha.turn i (B:= .arr (.slice (slA (some ⟨b,f.length,none⟩) cap 1 k) ((x0::xr).length-1) (cap-1)) k e enc ((x0::xr).drop 1)) (x:=L i) ?_
  · rw[hLL] at this
    exact⟨.refl H,fun _ _=>rfl,_,this.put d (by simp[SimT,Cs_]),kk _⟩
  · obtain⟨c1,c2,e1,r1,r2⟩:=hr
    have hc1:c1.length=k:=by rw[r1.2.1.1,r1.1]
    have hck:cap*k=(cap-1)*k+k:=by rw[<- Nat.succ_mul];congr 1;simp only[List.length_cons] at hle;omega
    have hkc:k<=c.length:=by omega
    have hc2:c2=(c.drop k).take (xr.length*k):=by
      have :(c.take ((x0::xr).length*k)).drop k=c2:=by rw[e1,<- hc1,List.drop_left]
      rw[<- this,List.length_cons,List.drop_take,Nat.succ_mul,Nat.add_sub_cancel]
    refine⟨c2,⟨?_,?_⟩,by simpa using r2,by simp at hbb ⊢;omega⟩
    · rw[Xs_ I2_ r2];simp
    · by_cases hc:cap=1
      · subst hc
        have :xr=[]:=List.length_eq_zero_iff.1 (by simp only[List.length_cons] at hle;omega)
        subst this
        refine .inr ⟨b,0,c,f,by simp[slA],hL,by simp,by simp,by simpa using hc2.symm,hff⟩
      · refine .inr ⟨b,cap-1,c.drop k,f++c.take k,?_,by rw[hL];simp,?_,by simp only[List.drop_one,List.tail_cons,List.length_cons] at hle ⊢;omega,?_,fun q=>by omega⟩
        · have :c.length>=k:=by omega
          simp[slA,Fl_,Nat.min_eq_left this,show ¬cap<=1 by simp only[List.length_cons] at hle;omega]
          intro q;simp only[List.length_cons] at hle;omega
        · rw[List.length_drop];omega
        · rw[hc2];simp
end Go.SW.V
namespace Go.SW
variable {P:Program} {n:Nat} {N:Rest} {H0:Env} {Q:Qs} {ks:List Kt} {s:St}
theorem N6_ {α:Type} {i o b T0 k e:Nat} {cs:List PV} {c:Code} (j:Nat) (enc:α->List PV) (hb:Gp_ j s.L i = .box b T0 cs) (hne:i≠j) (ho:cs[o]? = some (.val (.slice none 0 0))) (hno:s.L j = .no)
    (kk:Hd P n N H0 Q (.code c) ks ⟨H6_ j s.F,lups (lups (Gp_ j s.L) j (.arr (.slice none 0 0) k e enc [])) i (.box b T0 (cs.set o (.osl j)))⟩):Hd P n N H0 Q (.code c) ks s:=fun F H L ha=>by
  have hL0:Abs H0 s F H (lupd L j none):=⟨ha.le,ha.g,ha.f,fun q=>by
    by_cases e:q=j
    · subst e;rw[hno];trivial
    · rw[Bc_ _ _ _ _ e];exact ha.l q⟩
  have h2:=hL0.turn j (B:= .arr (.slice none 0 0) k e enc []) (x:=none) ⟨[],Oo_,rl_nil,by simp⟩
  have e2:lupd (lupd L j none) j none=lupd L j none:=by funext q;simp only[lupd];cases Nat.beq q j<;>rfl
  rw[e2] at h2
  have h3:=h2.l i
  simp only[Fw_ _ _ _ _ hne,hb] at h3
  obtain⟨vs,hL,hs1,hs2⟩:=h3
  have h4:=h2.turnB i (B:= .box b T0 (cs.set o (.osl j))) trivial (x:=lupd L j none i) ⟨vs,hL,by simpa using hs1,fun a p v hp hv=>by
    rw[List.getElem?_set] at hp
    by_cases z:o=a
    · subst z
      rw[if_pos rfl] at hp
      split at hp
      · cases hp
        have h5:=(hs2 o _ v ho hv).sim.inv_val
        simp only[SimT,Fw_ _ _ _ _ hne.symm,Cs_]
        exact h5
      · cases hp
    · rw[if_neg z] at hp
      have h5:=hs2 a p v hp hv
      exact Qg_ (b:=b) (T:=T0) (cs:=cs) (by simp only[Fw_ _ _ _ _ hne,hb]) h5⟩
  have e3:lupd (lupd L j none) i (lupd L j none i)=lupd L j none:=by funext q;by_cases e:q=i;(subst e;exact Bi_ _ _ _);exact Bc_ _ _ _ _ e
  rw[e3] at h4
  exact Vw_ (fun w hm=>hm.clear j) (kk F H _ h4)
theorem Im_ {α:Type} {all:List Oper} {T ty i j b b' off T0 k e:Nat} {pos:String} {af:Array Edge} {x y:Operand} {K:St->Prop} {tb:Tb} {ti:TI} {cs cs':List PV} {u:Value} {enc:α->List PV} {xs:List α} (ht:tbB P tb=true) (hx:evP s.F x = .own i b off) (hb:s.L i = .box b' T0 cs) (hti:lkT tb T=some ti) (hsz:ti.size=1) (hy:evP s.F y = .osl j) (hj:s.L j = .arr u k e enc xs) (hl:Nat.blt off cs.length=true) (hbb:b'=b) (hc:cs.set off (.osl j)=cs')
    (kk:K ⟨s.F,lups s.L i (.box b T0 cs')⟩):E1 P n N H0 all ⟨none, .store T x y,ty,pos,af,none⟩ (some i) s K:=by
  intro F H L ha
  subst hbb hc
  have h1:=(B6_ ha.f x).sim
  rw[hx] at h1
  have h2:=B6_ ha.f y
  unfold Ok1 at h2
  rw[hy] at h2
  have h2':=h2
  simp only[SimT,hj] at h2'
  have h3:=ha.l i
  rw[hb] at h3
  obtain⟨vs,hL,hs⟩:=h3
  have h5:=ha.l j
  rw[hj] at h5
  obtain⟨cs0,ho,_,_⟩:=h5
  have hone:(ev F y).oneCell'=true:=by
    rw[h2']
    obtain⟨_,⟨rfl,_,_⟩|⟨_,_,_,_,rfl,_⟩⟩:=ho<;>rfl
  have hsz':=(Dr_ ht hti).sz
  rw[hsz] at hsz'
  refine Jo_ h1.inv_own rfl hone hsz' hL (by rw[hs.1];exact hl) ?_
  refine⟨.refl H,only,_,ha.turnB (B:= .box _ T0 (cs.set off (.osl j))) i trivial ⟨_,rfl,?_⟩,kk⟩
  have h4:=hs.set off h2
  exact⟨h4.1,fun q p v hq hv=>Qg_ hb (h4.2 q p v hq hv)⟩
end Go.SW
namespace Go.SW
variable {P:Program} {n:Nat} {N:Rest} {H0:Env} {all:List Oper} {Q:Qs} {ks:List Kt} {s:St}
end Go.SW
namespace Go.SW.V
open Go.SW
variable {P:Program} {n:Nat} {N:Rest} {H0:Env} {all:List Oper} {Q:Qs} {ks:List Kt} {fF:Nat->PV} {fL:Nat->Blk}
end Go.SW.V
namespace Go.SW
variable {P:Program} {n:Nat} {N:Rest} {H0:Env} {all:List Oper} {Q:Qs} {ks:List Kt} {s:St}
theorem vw_l {ops:List Oper} {Lk:Ls} {Q:Qt} {fuel:Nat} {listed:Array Bool} {F:Fr} {H:Hp} {L:Ls} (i0:Nat) (r:List Nat) (hr:Region.ready .any ops.toArray listed=i0::r)
    (h:∀ i∈i0::r,∃ o,ops[i]? = some o/\Op1 P n N ops o (fun F' H' L'=>(HLe H H'/\LLe Lk L')/\Vw P n N ops Lk Q fuel (listed.setIfInBounds i true) F' H' L') F H L):Vw P n N ops Lk Q (fuel+1) listed F H L:=by
  refine⟨fun q=>(by rw[hr] at q;cases q),fun j hj a w ha hm=>?_⟩
  rw[hr] at hj
  obtain⟨o,ho,h1⟩:=h j hj
  exact wpOp_mono (fun a' w' ⟨F',H',L',x,y,z1,z2⟩=>⟨F',H',L',x,y, .inl ⟨z1.1, .inl z1.2⟩,z2⟩) (Qd_ ho h1 a w ha hm)
def Ej (P:Program) (n:Nat) (N:Rest) (H0:Env) (all:List Oper) (o:Oper) (xs:List Nat) (s:St) (K:St->Prop):Prop:=∃ j:Option Nat,(match j with|none=>true|some j=>memB xs j)=true/\E1 P n N H0 all o j s K
theorem ej {o:Oper} {xs:List Nat} {K:St->Prop} {j:Option Nat} (hj:(match j with|none=>true|some j=>memB xs j)=true) (h:E1 P n N H0 all o j s K):Ej P n N H0 all o xs s K:=⟨j,hj,h⟩
def AllE (P:Program) (n:Nat) (N:Rest) (H0:Env) (all:List Oper) (Q:Qs) (xs:List Nat) (fuel:Nat) (listed:Array Bool) (ks:List Kt) (s:St):List Nat->Prop
  |[]=>True
  |i::r=>(∃ o,nth all i=some o/\Ej P n N H0 all o xs s (fun s'=>Hv P n N H0 Q (some xs) all fuel (listed.setIfInBounds i true) ks s'))/\AllE P n N H0 all Q xs fuel listed ks s r
theorem Zv_ {xs:List Nat} {fuel:Nat} {listed:Array Bool}:∀ {r:List Nat} {i:Nat},AllE P n N H0 all Q xs fuel listed ks s r->i∈r->∃ o,nth all i=some o/\Ej P n N H0 all o xs s (fun s'=>Hv P n N H0 Q (some xs) all fuel (listed.setIfInBounds i true) ks s')
  |[],i,_,h=>by cases h
  |a::r,i,h,hm=>by
    rcases List.mem_cons.1 hm with e|q
    · subst e;exact h.1
    · exact Zv_ h.2 q
theorem veL {xs:List Nat} {fuel:Nat} {listed:Array Bool} (i0:Nat) (r:List Nat) (hr:Region.ready .any all.toArray listed=i0::r) (h:AllE P n N H0 all Q xs fuel listed ks s (i0::r)):Hv P n N H0 Q (some xs) all (fuel+1) listed ks s:=by
  intro F H L Lk ha hL
  refine vw_l i0 r hr fun i hi=>?_
  obtain⟨o,ho,j,hj,he⟩:=Zv_ h hi
  rw[Iw_] at ho
  have hle:∀ L':Ls,(∀ i,j≠some i->L' i=L i)->LkR (some xs) Lk L':=fun L' hL' i=>by
    rw[hL i]
    cases e:memB xs i with
    |true=>rfl
    |false=>
      refine (hL' i fun z=>?_).symm
      subst z
      simp only at hj
      rw[e] at hj;cases hj
  have hlle:∀ L':Ls,(∀ i,j≠some i->L' i=L i)->LLe Lk L':=fun L' hL' i x hx=>by
    have :=hle L' hL' i
    rw[this] at hx
    cases e:memB xs i with
    |true=>rw[e] at hx;cases hx
    |false=>rw[e] at hx;exact hx
  exact⟨o,ho,(he F H L ha).imp fun F' H' L' ⟨h1,h2,s',h3,h4⟩=>⟨⟨h1,hlle L' h2⟩,h4 F' H' L' Lk h3 (hle L' h2)⟩⟩
end Go.SW
namespace Go.SW.V
open Go.SW
variable {P:Program} {n:Nat} {N:Rest} {H0:Env} {all:List Oper} {Q:Qs} {ks:List Kt} {fF:Nat->PV} {fL:Nat->Blk}
theorem roN {α:Type} {tb:Tb} {rs:List ResultVar} {ps:List PV} {res:Value->PV} {k e j:Nat} {enc:α->List PV} {xs xs':List α} {as0 bs:List Nat} {u0:Value} (u:Value) (h:Ha_ tb ⟨fF,fL⟩ rs=some (ps,as0,bs)) (he:as0=bs) (hL:fL j = .arr u0 k e enc xs') (hu:u0=u) (hx:xs'=xs) (hp:PLe (tupP ps) (res u)):Hd P n N H0 (foK tb rs res k e enc xs) (.ex .ret) [] ⟨fF,fL⟩:=
  ⟨u,j,⟨.inr rfl,_,as0,bs,h,he,hp⟩,by show fL j=_;rw[hL,hx,hu]⟩
end Go.SW.V
namespace Go.SW.V
open Go.SW
variable {P:Program} {n:Nat} {N:Rest} {H0:Env} {all:List Oper} {Q:Qs} {ks:List Kt} {fF:Nat->PV} {fL:Nat->Blk} {T ty:Nat} {x y:Operand}
theorem lo_aidxA {F:Fr} {H:Hp} {L:Ls} {kk:IntKind} {len k m:Nat} {i:Int} {e:TypeId} {cs vs:List Value} (hx:ev F x = .agg cs.toArray) (hy:ev F y = .int kk i) (hT:P.underlying T=some (.array len e)) (hg:Ag P e true) (hk:Sz P e k) (hi:i=(m:Int)) (hm:m<len) (hv:sub cs (m*k) k=vs):SW.Lo P N (.index T x y) ty F H L (.agg vs.toArray):=fun d pos af gg w _=>by
  subst hi
  simp[execOp,hy,hx,Instr.index,asIntOf,run_underlying hT,hk w,hm,part_A hg hk hv]
theorem lo_aidx1 {F:Fr} {H:Hp} {L:Ls} {kk:IntKind} {len k m:Nat} {i:Int} {e:TypeId} {cs:List Value} {v:Value} (hx:ev F x = .agg cs.toArray) (hy:ev F y = .int kk i) (hT:P.underlying T=some (.array len e)) (hg:Ag P e false) (hk:Sz P e k) (hi:i=(m:Int)) (hm:m<len) (hv:cs[m*k]? = some v):SW.Lo P N (.index T x y) ty F H L v:=fun d pos af gg w _=>by
  subst hi
  simp[execOp,hy,hx,Instr.index,asIntOf,run_underlying hT,hk w,hm,Xj_ hg hv]
theorem qaivA {tb:Tb} {te:TI} {kk:IntKind} {len k:Nat} {e:TypeId} {z:Int} {cs:List PV} (row:Nat->List PV) (m:Nat) (ht:tbB P tb=true) (hx:evP fF x = .agg cs) (hy:evP fF y = .int kk z) (hT:P.underlying T=some (.array len e)) (hte:lkT tb e=some te) (hag:te.k.isAgg=true) (hsz:te.size=k) (hi:z=(m:Int)) (hm:m<len) (hc:∀ q,q<len->(cs.drop (q*k)).take k=row q):Qy P N H0 ⟨fF,fL⟩ (.index T x y) ty (.agg (row m)):=fun F H L ha=>by
  have h1:=(B6_ ha.f x).sim
  have h2:=(B6_ ha.f y).sim
  simp only at h1 h2
  rw[hx] at h1
  rw[hy] at h2
  obtain⟨vs,e1,h3⟩:=h1.inv_agg
  have hg:=(Dr_ ht hte).ag
  rw[hag] at hg
  have hk:=(Dr_ ht hte).sz
  rw[hsz] at hk
  exact⟨_,Sim.toAgg (by rw[<- hc m hm];exact (h3.drop _).take _),fun _ _ _=>lo_aidxA e1 h2.inv_int.1 hT hg hk hi hm rfl⟩
theorem qaiv1 {tb:Tb} {te:TI} {kk:IntKind} {len k:Nat} {e:TypeId} {z:Int} {cs:List PV} (row:Nat->PV) (m:Nat) (ht:tbB P tb=true) (hx:evP fF x = .agg cs) (hy:evP fF y = .int kk z) (hT:P.underlying T=some (.array len e)) (hte:lkT tb e=some te) (hag:te.k.isAgg=false) (hsz:te.size=k) (hi:z=(m:Int)) (hm:m<len) (hno:∀ q,(row q).noOsl=true) (hc:∀ q,q<len->cs[q*k]? = some (row q)):Qy P N H0 ⟨fF,fL⟩ (.index T x y) ty (row m):=fun F H L ha=>by
  have h1:=(B6_ ha.f x).sim
  have h2:=(B6_ ha.f y).sim
  simp only at h1 h2
  rw[hx] at h1
  rw[hy] at h2
  obtain⟨vs,e1,h3⟩:=h1.inv_agg
  have hg:=(Dr_ ht hte).ag
  rw[hag] at hg
  have hk:=(Dr_ ht hte).sz
  rw[hsz] at hk
  obtain⟨v,hv,hsv⟩:=h3.get (hc m hm)
  exact⟨v,hsv.simT (hno m),fun _ _ _=>lo_aidx1 e1 h2.inv_int.1 hT hg hk hi hm hv⟩
end Go.SW.V
namespace Go.SW
variable {P:Program} {n:Nat} {N:Rest} {H0:Env} {all rest:List Oper} {Q:Qs} {ks:List Kt} {s:St} {T ty d:Nat} {pos:String} {af:Array Edge} {x y:Operand} {K:St->Prop} {op:Op} {p:PV}
end Go.SW
namespace Go.SW.V
open Go.SW
variable {P:Program} {n:Nat} {N:Rest} {H0:Env} {ks:List Kt} {fF:Nat->PV} {fL:Nat->Blk} {tb:Tb} {rs:List ResultVar} {res p q r t u:PV} {as0 bs:List Nat}
theorem rt4 (h:Ha_ tb ⟨fF,fL⟩ rs=some ([p,q,r,t],as0,bs)) (he:as0=bs) (hp:PLe (.tup [p,q,r,t]) res):Hd P n N H0 (rtK tb rs res) (.ex .ret) [] ⟨fF,fL⟩:=rt h he hp
end Go.SW.V
namespace Go.SW.V
open Go.SW
variable {P:Program} {n:Nat} {N:Rest} {H0:Env} {all rest:List Oper} {Q:Qs} {ks:List Kt} {fF:Nat->PV} {fL:Nat->Blk} {T ty d:Nat} {pos:String} {af:Array Edge} {x y z:Operand} {K:St->Prop}
structure EfR where
  F:Nat->PV
  L:Nat->Blk
  eq:Option (Nat×Nat)
def mkE (tb:Tb) (n:Nat) (i b:Nat) (F:Nat->PV) (L:Nat->Blk) (o:Oper):Option EfR:=
  match o.guard with
  |some _=>none
  |none=>match o.dst with
    |none=>none
    |some d=>match Nat.blt d n with
      |false=>none
      |true=>match o.op with
        | .alloc T=>match lkT tb T with
          |some ti=>match evL ti.zero with
            |some zs=>match Bk_ zs with
              |true=>some ⟨updp F d (.own i b 0),lups L i (.box b T zs),none⟩
              |false=>none
            |none=>none
          |none=>none
        | .box T x=>match evP F x with
          | .agg cs=>match Bk_ cs with
            |true=>some ⟨updp F d (.own i b 0),lups L i (.box b T cs),none⟩
            |false=>none
          |v=>match evS v with
            |some p=>match p.one with
              |true=>some ⟨updp F d (.own i b 0),lups L i (.box b T [p]),none⟩
              |false=>none
            |none=>none
        |_=>none
def stE (tb:Tb) (F:Nat->PV) (L:Nat->Blk) (o:Oper):Option EfR:=
  match o.guard with
  |some _=>none
  |none=>match o.dst with
    |some _=>none
    |none=>match o.op with
      | .store T x y=>match evP F x with
        | .own i b off=>match L i with
          | .box b' T0 cs=>match lkT tb T with
            |some ti=>match evP F y with
              | .agg ps=>match Bk_ ps with
                |true=>match all1 ps with
                  |true=>match Nat.beq ps.length ti.size with
                    |true=>match Nat.ble (off+ti.size) cs.length with
                      |true=>match evL (cs.take off++(ps++cs.drop (off+ti.size))) with
                        |some cs'=>some ⟨F,lups L i (.box b T0 cs'),some (b',b)⟩
                        |none=>none
                      |false=>none
                    |false=>none
                  |false=>none
                |false=>none
              |v=>match Nat.beq ti.size 1 with
                |true=>match evS v with
                  |some p=>match p.one with
                    |true=>match Nat.blt off cs.length with
                      |true=>match evL (cs.set off p) with
                        |some cs'=>some ⟨F,lups L i (.box b T0 cs'),some (b',b)⟩
                        |none=>none
                      |false=>none
                    |false=>none
                  |none=>none
                |false=>none
            |none=>none
          |_=>none
        |_=>none
      |_=>none
def kindE (o:Op):Nat:=
  match o with
  | .alloc _=>0
  | .box _ _=>0
  | .store _ _ _=>1
  |_=>2
def runE (tb:Tb) (n:Nat):Nat->List Nat->(Nat->Nat)->Cf->List Kt->(Nat->PV)->(Nat->Blk)->List Prop->List Nat->List Nat->Option RR
  |0,_,_,c,ks,F,L,ps,as0,bs=>frcP ps fun ps=>frcN as0 fun as0=>frcN bs fun bs=>some ⟨c,ks,F,L,ps,as0,bs⟩
  |k+1,is,B,c,ks,F,L,ps,as0,bs=>
    match c with
    | .ops all (o::rest)=>match kindE o.op with
      |0=>match is with
        |[]=>none
        |i::is=>match mkE tb n i (B 0) F L o with
          |some ⟨F,L,_⟩=>runE tb n k is (fun i=>B (i+1)) (.ops all rest) ks F L ps as0 bs
          |none=>none
      |1=>match stE tb F L o with
        |some ⟨F,L,e⟩=>match e with
          |some (a,b)=>runE tb n k is B (.ops all rest) ks F L ps (a::as0) (b::bs)
          |none=>none
        |none=>none
      |_=>match run tb n 1 (.ops all (o::rest)) ks F L ps as0 bs with
        |some ⟨c,ks,F,L,ps,as0,bs⟩=>runE tb n k is B c ks F L ps as0 bs
        |none=>none
    |c=>match run tb n 1 c ks F L ps as0 bs with
      |some ⟨c,ks,F,L,ps,as0,bs⟩=>runE tb n k is B c ks F L ps as0 bs
      |none=>none
theorem mkE_ok {tb:Tb} (ht:tbB P tb=true) {i:Nat} {F:Nat->PV} {L:Nat->Blk} {o:Oper} (h:∀ b,∃ r,mkE tb n i b F L o=some r/\Hd P n N H0 Q (.ops all rest) ks ⟨r.F,r.L⟩):Hd P n N H0 Q (.ops all (o::rest)) ks ⟨F,L⟩:=by
  obtain⟨dst,op,ty,pos,af,g⟩:=o
  have h0:=h 0
  cases g with
  |some q=>obtain⟨r,h1,_⟩:=h0;simp[mkE] at h1
  |none=>
    cases dst with
    |none=>obtain⟨r,h1,_⟩:=h0;simp[mkE] at h1
    |some d=>
      cases hd:Nat.blt d n with
      |false=>obtain⟨r,h1,_⟩:=h0;simp[mkE,hd] at h1
      |true=>
        cases op with
        |alloc T=>
          simp only[mkE,hd] at h
          cases hti:lkT tb T with
          |none=>rw[hti] at h;obtain⟨r,h1,_⟩:=h 0;simp at h1
          |some ti=>
            rw[hti] at h
            simp only at h
            cases hz:evL ti.zero with
            |none=>rw[hz] at h;obtain⟨r,h1,_⟩:=h 0;simp at h1
            |some zs=>
              rw[hz] at h
              simp only at h
              cases hn:Bk_ zs with
              |false=>rw[hn] at h;obtain⟨r,h1,_⟩:=h 0;simp at h1
              |true=>
                rw[hn] at h
                refine ef (alloc ht i hti hz hn hd fun b=>?_)
                obtain⟨r,h1,h2⟩:=h b
                simp only[Option.some.injEq] at h1
                subst h1;exact h2
        |box T x=>
          simp only[mkE,hd] at h
          split at h
          · rename_i cs hx
            cases hn:Bk_ cs with
            |false=>rw[hn] at h;obtain⟨r,h1,_⟩:=h 0;simp at h1
            |true=>
              rw[hn] at h
              refine ef (boxA i hx hn hd fun b=>?_)
              obtain⟨r,h1,h2⟩:=h b
              simp only[Option.some.injEq] at h1
              subst h1;exact h2
          · cases hs:evS (evP F x) with
            |none=>rw[hs] at h;obtain⟨r,h1,_⟩:=h 0;simp at h1
            |some p=>
              rw[hs] at h
              simp only at h
              cases ho:p.one with
              |false=>rw[ho] at h;obtain⟨r,h1,_⟩:=h 0;simp at h1
              |true=>
                rw[ho] at h
                refine ef (box1 i hs ho hd fun b=>?_)
                obtain⟨r,h1,h2⟩:=h b
                simp only[Option.some.injEq] at h1
                subst h1;exact h2
        |_=>obtain⟨r,h1,_⟩:=h0;simp[mkE,hd] at h1
theorem stE_ok {tb:Tb} (ht:tbB P tb=true) {F:Nat->PV} {L:Nat->Blk} {o:Oper} {r:EfR} (h:stE tb F L o=some r) (he:∀ q,r.eq=some q->q.1=q.2) (k:Hd P n N H0 Q (.ops all rest) ks ⟨r.F,r.L⟩):Hd P n N H0 Q (.ops all (o::rest)) ks ⟨F,L⟩:=by
  obtain⟨dst,op,ty,pos,af,g⟩:=o
  cases g with
  |some q=>simp[stE] at h
  |none=>
    cases dst with
    |some d=>simp[stE] at h
    |none=>
      cases op with
      |store T x y=>
        simp only[stE] at h
        split at h
        · rename_i i b off hx
          split at h
          · rename_i b' T0 cs hb
            split at h
            · rename_i ti hti
              split at h
              · rename_i ps hy
                split at h
                · rename_i hn
                  split at h
                  · rename_i ho
                    split at h
                    · rename_i hsz
                      split at h
                      · rename_i hl
                        split at h
                        · rename_i cs' hc
                          simp only[Option.some.injEq] at h
                          subst h
                          exact ef (storeA ht hx hb hti hy hn ho (Nat.eq_of_beq_eq_true hsz) hl (he _ rfl) hc k)
                        · cases h
                      · cases h
                    · cases h
                  · cases h
                · cases h
              · split at h
                · rename_i hsz
                  split at h
                  · rename_i p hs
                    split at h
                    · rename_i ho
                      split at h
                      · rename_i hl
                        split at h
                        · rename_i cs' hc
                          simp only[Option.some.injEq] at h
                          subst h
                          exact ef (store1 ht hx hb hti (Nat.eq_of_beq_eq_true hsz) hs ho hl (he _ rfl) hc k)
                        · cases h
                      · cases h
                    · cases h
                  · cases h
                · cases h
            · cases h
          · cases h
        · cases h
      |_=>simp[stE] at h
def okR (P:Program) (n:Nat) (N:Rest) (H0:Env) (Q:Qs) (r:RR):Prop:=AllP r.ps/\r.as0=r.bs/\Hd P n N H0 Q r.c r.ks ⟨r.F,r.L⟩
theorem runE_ok {tb:Tb} (ht:tbB P tb=true):∀ (k:Nat) (is:List Nat) (c:Cf) (ks:List Kt) (F:Nat->PV) (L:Nat->Blk) (ps:List Prop) (as0 bs:List Nat),(∀ B:Nat->Nat,∃ r,runE tb n k is B c ks F L ps as0 bs=some r/\okR P n N H0 Q r)->AllP ps/\as0=bs/\Hd P n N H0 Q c ks ⟨F,L⟩:=by
  intro k
  induction k with
  |zero=>
    intro is c ks F L ps as0 bs h
    obtain⟨r,h1,h2,h3,h4⟩:=h (fun _=>0)
    simp only[runE,Qv_,Uh_,Option.some.injEq] at h1
    subst h1
    exact⟨h2,h3,h4⟩
  |succ k ih=>
    intro is c ks F L ps as0 bs h
    have one:(∀ B:Nat->Nat,∃ r,(match run tb n 1 c ks F L ps as0 bs with
        |some ⟨c,ks,F,L,ps,as0,bs⟩=>runE tb n k is B c ks F L ps as0 bs
        |none=>none)=some r/\okR P n N H0 Q r)->AllP ps/\as0=bs/\Hd P n N H0 Q c ks ⟨F,L⟩:=by
      intro h
      cases hr:run tb n 1 c ks F L ps as0 bs with
      |none=>obtain⟨r,h1,_⟩:=h (fun _=>0);rw[hr] at h1;cases h1
      |some q=>
        obtain⟨c',ks',F',L',ps',as',bs'⟩:=q
        obtain⟨i1,i2,i3⟩:=ih is c' ks' F' L' ps' as' bs' (fun B=>by obtain⟨r,h1,h2⟩:=h B;rw[hr] at h1;exact⟨r,h1,h2⟩)
        obtain⟨j1,j2,j3⟩:=run_ok ht (Q:=Q) (N:=N) (H0:=H0) 1 c ks F L ps as0 bs _ hr i1 i2
        exact⟨j1,j2,j3 i3⟩
    cases c with
    |code c=>exact one h
    |ex e=>exact one h
    |ops all l=>
      cases l with
      |nil=>exact one h
      |cons o rest=>
        simp only[runE] at h
        split at h
        · cases is with
          |nil=>obtain⟨r,h1,_⟩:=h (fun _=>0);cases h1
          |cons i is=>
            have hb:∀ b,∃ r,mkE tb n i b F L o=some r/\AllP ps/\as0=bs/\Hd P n N H0 Q (.ops all rest) ks ⟨r.F,r.L⟩:=by
              intro b
              cases hm:mkE tb n i b F L o with
              |none=>obtain⟨r,h1,_⟩:=h (fun _=>b);simp only[hm] at h1;cases h1
              |some q=>
                obtain⟨F',L',e⟩:=q
                refine⟨_,rfl,ih is (.ops all rest) ks F' L' ps as0 bs fun B=>?_⟩
                obtain⟨r,h1,h2⟩:=h (fun j=>match j with|0=>b|j+1=>B j)
                simp only[hm] at h1
                exact⟨r,h1,h2⟩
            obtain⟨_,_,q1,q2,_⟩:=hb 0
            exact⟨q1,q2,mkE_ok ht fun b=>by obtain⟨r,h1,_,_,h2⟩:=hb b;exact⟨r,h1,h2⟩⟩
        · cases hs:stE tb F L o with
          |none=>obtain⟨r,h1,_⟩:=h (fun _=>0);rw[hs] at h1;cases h1
          |some q=>
            obtain⟨F',L',e⟩:=q
            cases e with
            |none=>obtain⟨r,h1,_⟩:=h (fun _=>0);rw[hs] at h1;cases h1
            |some ab=>
              obtain⟨a,b⟩:=ab
              obtain⟨i1,i2,i3⟩:=ih is (.ops all rest) ks F' L' ps (a::as0) (b::bs) (fun B=>by obtain⟨r,h1,h2⟩:=h B;rw[hs] at h1;exact⟨r,h1,h2⟩)
              simp only[List.cons.injEq] at i2
              exact⟨i1,i2.2,stE_ok ht hs (fun q hq=>by cases hq;exact i2.1) i3⟩
        · exact one h
theorem gmp {tb:Tb} (ht:tbB P tb=true) (k:Nat) (is:List Nat) {c c':Cf} {ks':List Kt} {F':(Nat->Nat)->Nat->PV} {L':(Nat->Nat)->Nat->Blk} {ps:(Nat->Nat)->List Prop} {as0 bs:(Nat->Nat)->List Nat} (h:∀ B,runE tb n k is B c ks fF fL [] [] []=some ⟨c',ks',F' B,L' B,ps B,as0 B,bs B⟩) (he:∀ B,as0 B=bs B) (hp:∀ B,AllP (ps B)) (next :∀ B:Nat->Nat,Hd P n N H0 Q c' ks' ⟨F' B,L' B⟩):Hd P n N H0 Q c ks ⟨fF,fL⟩:=
  (runE_ok ht k is c ks fF fL [] [] [] fun B=>⟨_,h B,hp B,he B,next B⟩).2.2
theorem gx {tb:Tb} (ht:tbB P tb=true) (k:Nat) {c c':Cf} {ks':List Kt} {F':Nat->PV} {L':Nat->Blk} {as0 bs:List Nat} (next :Hd P n N H0 Q c' ks' ⟨F',L'⟩) (h:run tb n k c ks fF fL [] [] []=some ⟨c',ks',F',L',[],as0,bs⟩:=by exact rfl) (he:as0=bs:=by exact rfl):Hd P n N H0 Q c ks ⟨fF,fL⟩:=go ht k h he trivial next
theorem gm {tb:Tb} (ht:tbB P tb=true) (k:Nat) (is:List Nat) {c c':Cf} {ks':List Kt} {F':(Nat->Nat)->Nat->PV} {L':(Nat->Nat)->Nat->Blk} {as0 bs:(Nat->Nat)->List Nat} (next :∀ B:Nat->Nat,Hd P n N H0 Q c' ks' ⟨F' B,L' B⟩) (h:∀ B,runE tb n k is B c ks fF fL [] [] []=some ⟨c',ks',F' B,L' B,[],as0 B,bs B⟩:=by exact fun _=>rfl) (he:∀ B,as0 B=bs B:=by exact fun _=>rfl):Hd P n N H0 Q c ks ⟨fF,fL⟩:=gmp ht k is h he (fun _=>trivial) next
abbrev jIn (xs:List Nat) (j:Option Nat):Bool:=match j with|none=>true|some j=>memB xs j
theorem sA {tb:Tb} {ti:TI} {i b b' off T0:Nat} {cs ps cs':List PV} (ht:tbB P tb=true) (k:K ⟨fF,lups fL i (.box b T0 cs')⟩) (hx:evP fF x = .own i b off:=by exact rfl) (hb:fL i = .box b' T0 cs:=by exact rfl) (hti:lkT tb T=some ti:=by exact rfl) (hy:evP fF y = .agg ps:=by exact rfl) (hn:Bk_ ps=true:=by exact rfl) (ho:all1 ps=true:=by exact rfl) (hsz:ps.length=ti.size:=by exact rfl) (hl:Nat.ble (off+ti.size) cs.length=true:=by exact rfl) (hbb:b'=b:=by exact rfl) (hc:evL (cs.take off++(ps++cs.drop (off+ti.size)))=some cs':=by exact rfl):E1 P n N H0 all ⟨none, .store T x y,ty,pos,af,none⟩ (some i) ⟨fF,fL⟩ K:=storeA ht hx hb hti hy hn ho hsz hl hbb hc k
theorem sO {tb:Tb} {ti:TI} {i b b' off T0:Nat} {cs cs':List PV} {p:PV} (ht:tbB P tb=true) (k:K ⟨fF,lups fL i (.box b T0 cs')⟩) (hx:evP fF x = .own i b off:=by exact rfl) (hb:fL i = .box b' T0 cs:=by exact rfl) (hti:lkT tb T=some ti:=by exact rfl) (hsz:ti.size=1:=by exact rfl) (hy:evS (evP fF y)=some p:=by exact rfl) (ho:p.one=true:=by exact rfl) (hl:Nat.blt off cs.length=true:=by exact rfl) (hbb:b'=b:=by exact rfl) (hc:evL (cs.set off p)=some cs':=by exact rfl):E1 P n N H0 all ⟨none, .store T x y,ty,pos,af,none⟩ (some i) ⟨fF,fL⟩ K:=store1 ht hx hb hti hsz hy ho hl hbb hc k
theorem aL {tb:Tb} {ti:TI} {zs:List PV} (ht:tbB P tb=true) (i:Nat) (k:∀ b,K ⟨updp fF d (.own i b 0),lups fL i (.box b T zs)⟩) (hti:lkT tb T=some ti:=by exact rfl) (hz:evL ti.zero=some zs:=by exact rfl) (hn:Bk_ zs=true:=by exact rfl) (hd:Nat.blt d n=true:=by exact rfl):E1 P n N H0 all ⟨some d, .alloc T,ty,pos,af,none⟩ (some i) ⟨fF,fL⟩ K:=alloc ht i hti hz hn hd k
theorem eC {f:FuncId} {args:List PV} {res:PV} {as0:Array Operand} {ats:Array TypeId} (h:Fn P H0.g f args res) (ha:argsP fF x as0.toList=some (f,args)) (k:res.wf->K ⟨updp fF d res,fL⟩) (hd:Nat.blt d n=true:=by exact rfl):E1 P n N H0 all ⟨some d, .call ⟨.value x,as0,ats⟩,ty,pos,af,none⟩ none ⟨fF,fL⟩ K:=ecall h ha hd k
theorem vE {xs:List Nat} {fuel:Nat} {listed:Array Bool} {o:Oper} {j:Option Nat} (i:Nat) (hi:nth all i=some o) (h:E1 P n N H0 all o j ⟨fF,fL⟩ (fun s'=>Hv P n N H0 Q (some xs) all fuel (listed.setIfInBounds i true) ks s')) (hr:Region.ready .any all.toArray listed=[i]:=by kernel_rfl) (hj:jIn xs j=true:=by exact rfl):Hv P n N H0 Q (some xs) all (fuel+1) listed ks ⟨fF,fL⟩:=ve i hi hr hj h
theorem vT {xs:Option (List Nat)} {fuel:Nat} {listed:Array Bool} {o:Oper} {j:Option Nat} (i:Nat) (hi:nth all i=some o) (h:E1 P n N H0 all o j ⟨fF,fL⟩ (fun s'=>Hv P n N H0 Q none all fuel (listed.setIfInBounds i true) ks s')) (hr:Region.ready .any all.toArray listed=[i]:=by kernel_rfl) (ht:tailB all listed i=true:=by kernel_rfl):Hv P n N H0 Q xs all (fuel+1) listed ks ⟨fF,fL⟩:=vt i hi hr ht h
theorem vD {xs:Option (List Nat)} {fuel:Nat} {listed:Array Bool} (k:Hd P n N H0 Q (.ex .normal) ks ⟨fF,fL⟩) (h:Region.ready .any all.toArray listed=[]:=by kernel_rfl):Hv P n N H0 Q xs all fuel listed ks ⟨fF,fL⟩:=vdone h k
theorem aN (xs:List Nat) (m:Nat) {id:Nat} {ops:Array Oper} (hmx:P.follows .mixedOrders=true) (h:Hv P n N H0 Q (some xs) ops.toList m (Array.replicate m false) ks ⟨fF,fL⟩) (hm:ops.toList.length=m:=by exact rfl):Hd P n N H0 Q (.code (.region id ops true)) ks ⟨fF,fL⟩:=any xs m hmx hm h
theorem gX {tb:Tb} (ht:tbB P tb=true) (order:List Nat) (f:Nat) {xs:Option (List Nat)} {fuel:Nat} {listed:Array Bool} {F':Nat->PV} {L':Nat->Blk} {as0 bs:List Nat} (next :Hv P n N H0 Q xs all f (lst listed order) ks ⟨F',L'⟩) (hf:fuel=f+order.length:=by exact rfl) (hc:chkV n all order listed=true:=by kernel_rfl) (h:runV tb xs all order fF fL [] [] []=some ⟨F',L',[],as0,bs⟩:=by exact rfl) (he:as0=bs:=by exact rfl):Hv P n N H0 Q xs all fuel listed ks ⟨fF,fL⟩:=gov ht order f hf hc h he trivial next
theorem vC {xs:Option (List Nat)} {fuel:Nat} {listed:Array Bool} {f:FuncId} {args:List PV} {res:PV} {as0:Array Operand} {ats:Array TypeId} (i:Nat) (hi:nth all i=some ⟨some d, .call ⟨.value x,as0,ats⟩,ty,pos,af,none⟩) (h:Fn P H0.g f args res) (ha:argsP fF x as0.toList=some (f,args)) (k:res.wf->Hv P n N H0 Q xs all fuel (listed.setIfInBounds i true) ks ⟨updp fF d res,fL⟩) (hck:(rdB all listed i&&apB n all listed i ⟨some d, .call ⟨.value x,as0,ats⟩,ty,pos,af,none⟩&&Nat.blt d n&&nosB (.call ⟨.value x,as0,ats⟩))=true:=by kernel_rfl) (hf:res.flat=true:=by exact rfl):Hv P n N H0 Q xs all (fuel+1) listed ks ⟨fF,fL⟩:=vcall i hi hck h hf ha k
theorem nX {ι:Type _} {keep kL:List Nat} {G:Nat->PV} {GL:Nat->Blk} {lv:ι->List (Nat×PV)} {lL:ι->List (Nat×Blk)} {Φ:ι->Prop} {μ:ι->Nat} {m:Nat} {ks:List Kt} {Q:Qs} (x':ι) (hΦ:Φ x') (h3:AllF fF (lv x')) (h4:AllL fL (lL x')) (h1:keep.map fF=keep.map G:=by exact rfl) (h2:kL.map fL=kL.map GL:=by exact rfl) (hm:μ x'<m:=by decide):Hd P n N H0 Q (.ex .normal) (.lp (LJ (fun x=>⟨mkF (lv x) keep G,mkL (lL x) kL GL⟩) Φ μ m)::ks) ⟨fF,fL⟩:=next x' h1 h2 h3 h4 hm hΦ
theorem cE {α:Type} {v a b:α} {c:Operand} {p q:Code} {t:Bool} (e:v = bif t then a else b) (ht:t=true->v=a->Hd P n N H0 Q (.code p) ks ⟨fF,fL⟩) (hf:t=false->v=b->Hd P n N H0 Q (.code q) ks ⟨fF,fL⟩) (hc:evP fF c = .bool t:=by exact rfl):Hd P n N H0 Q (.code (.cond c p q)) ks ⟨fF,fL⟩:=cnd hc (fun h=>ht h (e.trans (by rw[h];rfl))) (fun h=>hf h (e.trans (by rw[h];rfl)))
theorem cD {α:Type} {v a b:α} {c:Operand} {p q:Code} {t:Prop} [Decidable t] (e:v = bif decide t then a else b) (ht:t->v=a->Hd P n N H0 Q (.code p) ks ⟨fF,fL⟩) (hf:¬t->v=b->Hd P n N H0 Q (.code q) ks ⟨fF,fL⟩) (hc:evP fF c = .bool (decide t):=by exact rfl):Hd P n N H0 Q (.code (.cond c p q)) ks ⟨fF,fL⟩:=cE e (fun h=>ht (of_decide_eq_true h)) (fun h=>hf (of_decide_eq_false h)) hc
theorem cN {α:Type} {v a b:α} {c:Operand} {p q:Code} {t:Prop} [Decidable t] (e:v = bif !decide t then a else b) (ht:¬t->v=a->Hd P n N H0 Q (.code p) ks ⟨fF,fL⟩) (hf:t->v=b->Hd P n N H0 Q (.code q) ks ⟨fF,fL⟩) (hc:evP fF c = .bool (!decide t):=by exact rfl):Hd P n N H0 Q (.code (.cond c p q)) ks ⟨fF,fL⟩:=cE e (fun h=>ht (by simpa using h)) (fun h=>hf (by simpa using h)) hc
theorem fC {tb:Tb} {G:Gb} {m:Nat} {f:FuncId} {fn:Func} {c:Code} {args:List PV} {res:PV} (hf:P.funcs[f]? = some fn) (ht:tbB P tb=true) (hn:fn.ntmps=m) (h:PV.wfs args->∀ N H,G.p H->Hd P m N ⟨H,G⟩ (rtK tb fn.results.toList res) (.code c) [] ⟨M8_ args,fun _=> .no⟩) (hb:fn.body=some c:=by exact rfl) (hs:Nat.ble args.length m=true:=by exact rfl) (h1:(fn.name == "runtime.NumGoroutine")=false:=by kernel_rfl) (h2:fn.body.isNone=false:=by kernel_rfl) (hno:res.noOsl=true:=by exact rfl) (hna:Bk_ args=true:=by exact rfl):Fn P G f args res:=fn_cw ht hf hb hn hs (L_ hf h1 h2) hno hna h
variable {tb:Tb} {rs:List ResultVar} {as0 bs:List Nat} {res q0 q1 q2 q3:PV}
theorem qr1 (h:Ha_ tb ⟨fF,fL⟩ rs=some ([q0],as0,bs):=by exact rfl) (he:as0=bs:=by exact rfl) (hp:PLe q0 res:=by exact ple rfl):Hd P n N H0 (rtK tb rs res) (.ex .ret) [] ⟨fF,fL⟩:=rt1 h he hp
theorem qr2 (h:Ha_ tb ⟨fF,fL⟩ rs=some ([q0,q1],as0,bs):=by exact rfl) (he:as0=bs:=by exact rfl) (hp:PLe (.tup [q0,q1]) res:=by exact ple rfl):Hd P n N H0 (rtK tb rs res) (.ex .ret) [] ⟨fF,fL⟩:=rt2 h he hp
theorem qr3 (h:Ha_ tb ⟨fF,fL⟩ rs=some ([q0,q1,q2],as0,bs):=by exact rfl) (he:as0=bs:=by exact rfl) (hp:PLe (.tup [q0,q1,q2]) res:=by exact ple rfl):Hd P n N H0 (rtK tb rs res) (.ex .ret) [] ⟨fF,fL⟩:=rt3 h he hp
theorem qr4 (h:Ha_ tb ⟨fF,fL⟩ rs=some ([q0,q1,q2,q3],as0,bs):=by exact rfl) (he:as0=bs:=by exact rfl) (hp:PLe (.tup [q0,q1,q2,q3]) res:=by exact ple rfl):Hd P n N H0 (rtK tb rs res) (.ex .ret) [] ⟨fF,fL⟩:=rt4 h he hp
theorem cV {α β:Type} {v:β} {g:α} {kf:α->β} {f:FuncId} {args:List PV} {xs:Array Operand} {ats:Array TypeId} (e:v=lt g kf) (enc:α->PV) (h:Fn P H0.g f args (enc g)) (ha:argsP fF x xs.toList=some (f,args)) (k:∀ r,r=g->v=kf r->(enc r).wf->Hd P n N H0 Q (.ops all rest) ks ⟨updp fF d (enc r),fL⟩) (hd:Nat.blt d n=true:=by exact rfl):Hd P n N H0 Q (.ops all (⟨some d, .call ⟨.value x,xs,ats⟩,ty,pos,af,none⟩::rest)) ks ⟨fF,fL⟩:=
  callv g enc h ha hd fun r hr w=>k r hr (e.trans (Co_ hr)) w
theorem gy {tb:Tb} (ht:tbB P tb=true) (k:Nat) {c c':Cf} {ks':List Kt} {F':Nat->PV} {L':Nat->Blk} {ps:List Prop} {as0 bs:List Nat} (next :Hd P n N H0 Q c' ks' ⟨F',L'⟩) (h:run tb n k c ks fF fL [] [] []=some ⟨c',ks',F',L',ps,as0,bs⟩:=by exact rfl) (he:as0=bs:=by exact rfl) (hp:AllP ps:=by repeat' (first|exact trivial|refine And.intro ?_ ?_|exact fun hc=>hc|exact rfl|exact fun hc=>rfl|omega|(intro hc;omega)|(intro hc;rw[hc];rfl))):Hd P n N H0 Q c ks ⟨fF,fL⟩:=go ht k h he hp next
theorem gmy {tb:Tb} (ht:tbB P tb=true) (k:Nat) (is:List Nat) {c c':Cf} {ks':List Kt} {F':(Nat->Nat)->Nat->PV} {L':(Nat->Nat)->Nat->Blk} {ps:(Nat->Nat)->List Prop} {as0 bs:(Nat->Nat)->List Nat} (next :∀ B:Nat->Nat,Hd P n N H0 Q c' ks' ⟨F' B,L' B⟩) (h:∀ B,runE tb n k is B c ks fF fL [] [] []=some ⟨c',ks',F' B,L' B,ps B,as0 B,bs B⟩:=by exact fun _=>rfl) (he:∀ B,as0 B=bs B:=by exact fun _=>rfl) (hp:∀ B,AllP (ps B):=by intro B;repeat' (first|exact trivial|refine And.intro ?_ ?_|exact fun hc=>hc|exact rfl|exact fun hc=>rfl|omega|(intro hc;omega)|(intro hc;rw[hc];rfl))):Hd P n N H0 Q c ks ⟨fF,fL⟩:=gmp ht k is h he hp next
theorem gXy {tb:Tb} (ht:tbB P tb=true) (order:List Nat) (f:Nat) {xs:Option (List Nat)} {fuel:Nat} {listed:Array Bool} {F':Nat->PV} {L':Nat->Blk} {ps:List Prop} {as0 bs:List Nat} (next :Hv P n N H0 Q xs all f (lst listed order) ks ⟨F',L'⟩) (hf:fuel=f+order.length:=by exact rfl) (hc:chkV n all order listed=true:=by kernel_rfl) (h:runV tb xs all order fF fL [] [] []=some ⟨F',L',ps,as0,bs⟩:=by exact rfl) (he:as0=bs:=by exact rfl) (hp:AllP ps:=by repeat' (first|exact trivial|refine And.intro ?_ ?_|exact fun hc=>hc|exact rfl|exact fun hc=>rfl|omega|(intro hc;omega)|(intro hc;rw[hc];rfl))):Hv P n N H0 Q xs all fuel listed ks ⟨fF,fL⟩:=gov ht order f hf hc h he hp next
end Go.SW.V
namespace Go.SW.V
open Go.SW
variable {P:Program} {n:Nat} {N:Rest} {H0:Env} {Q:Qs} {ks:List Kt} {fF:Nat->PV} {fL:Nat->Blk}
theorem junk_le {i o b T0:Nat} {cs:List PV} (hb:fL i = .box b T0 cs):StLe ⟨fF,fL⟩ ⟨fF,lups fL i (.box b T0 (cs.set o .junk))⟩:=by
  intro H0 F H L ha
  have hp:∀ {p v},SimT fL H p v->SimT (lups fL i (.box b T0 (cs.set o .junk))) H p v:=fun {p v} h=>by
    cases p with
    |osl q=>
      simp only[SimT] at h ⊢
      by_cases hq:q=i
      · subst hq;simp only[hb] at h
        simp only[lups,Nat.beq_refl,cond_true]
      · rw[Fw_ _ _ _ _ hq];exact h
    |_=>exact h
  refine⟨ha.le,ha.g,fun t=>hp (ha.f t),fun q=>?_⟩
  have hq:SimB fL H (fL q) (L q):=ha.l q
  by_cases e:q=i
  · subst e
    show SimB _ H (lups fL q _ q) (L q)
    rw[Cs_]
    rw[hb] at hq
    obtain⟨vs,h1,h2,h3⟩:=hq
    refine⟨vs,h1,by simp[h2],fun m p v hm hv=>?_⟩
    rw[List.getElem?_set] at hm
    split at hm
    · split at hm
      · cases hm;exact Sim.junk
      · cases hm
    · exact hp (h3 m p v hm hv)
  · show SimB _ H (lups fL i _ q) (L q)
    rw[Fw_ _ _ _ _ e]
    have hq':SimB fL H (fL q) (L q):=hq
    generalize fL q=B at hq' ⊢
    cases B with
    |box b' T' cs'=>obtain⟨vs,h1,h2,h3⟩:=hq';exact⟨vs,h1,h2,fun m p v hm hv=>hp (h3 m p v hm hv)⟩
    |_=>exact hq'
theorem bx_junk {i b T0:Nat} {cs:List PV} {c:Code} (o:Nat) (hb:fL i = .box b T0 cs) (kk:Hd P n N H0 Q (.code c) ks ⟨fF,lups fL i (.box b T0 (cs.set o .junk))⟩):Hd P n N H0 Q (.code c) ks ⟨fF,fL⟩:=
  SW.hd_le (junk_le hb) (fun _ h=>by cases h) kk
theorem rm2 {tb:Tb} {rs:List ResultVar} {res p1 p2:PV} {b b' T:Nat} {post q:List PV} {as0 bs:List Nat} (h:Ha_ tb ⟨fF,fL⟩ rs=some ([p1,p2],as0,bs)) (he:as0=bs) (hp:PLe (.tup [p1,p2]) res) (hb:fL 0 = .box b' T q) (hbb:b'=b) (hn:Bk_ q=true) (hq:PLes q post):Hd P n N H0 (rmK tb rs res b T post) (.ex .ret) [] ⟨fF,fL⟩:=SW.rm h he hp hb hbb hn hq
end Go.SW.V
namespace Go.SW
structure SlotR where
  chan:ChanR
  isopen:Bool
deriving DecidableEq,Inhabited
def SlotR.pc (x:SlotR):List PV:=[.int .i64 x.chan.credit, .sl Gb_.pc x.chan.takers, .sl LentR.pc x.chan.lent, .bool x.chan.sure, .bool x.chan.drafts, .int .u64 x.chan.puts, .sl DeedR.pc x.chan.held.l, .bool x.isopen]
abbrev A5_SlotR:=V.A5 SlotR
def A5_SlotR.pc (x:A5_SlotR):List PV:=[.int .i64 x.e0.chan.credit, .sl Gb_.pc x.e0.chan.takers, .sl LentR.pc x.e0.chan.lent, .bool x.e0.chan.sure, .bool x.e0.chan.drafts, .int .u64 x.e0.chan.puts, .sl DeedR.pc x.e0.chan.held.l, .bool x.e0.isopen, .int .i64 x.e1.chan.credit, .sl Gb_.pc x.e1.chan.takers, .sl LentR.pc x.e1.chan.lent, .bool x.e1.chan.sure, .bool x.e1.chan.drafts, .int .u64 x.e1.chan.puts, .sl DeedR.pc x.e1.chan.held.l, .bool x.e1.isopen, .int .i64 x.e2.chan.credit, .sl Gb_.pc x.e2.chan.takers, .sl LentR.pc x.e2.chan.lent, .bool x.e2.chan.sure, .bool x.e2.chan.drafts, .int .u64 x.e2.chan.puts, .sl DeedR.pc x.e2.chan.held.l, .bool x.e2.isopen, .int .i64 x.e3.chan.credit, .sl Gb_.pc x.e3.chan.takers, .sl LentR.pc x.e3.chan.lent, .bool x.e3.chan.sure, .bool x.e3.chan.drafts, .int .u64 x.e3.chan.puts, .sl DeedR.pc x.e3.chan.held.l, .bool x.e3.isopen, .int .i64 x.e4.chan.credit, .sl Gb_.pc x.e4.chan.takers, .sl LentR.pc x.e4.chan.lent, .bool x.e4.chan.sure, .bool x.e4.chan.drafts, .int .u64 x.e4.chan.puts, .sl DeedR.pc x.e4.chan.held.l, .bool x.e4.isopen]
structure Zu_ where
  place:Bs
  feed:Feed
  begun:Bool
  over:Bool
  slots:A5_SlotR
deriving Inhabited
def Zu_.pc (x:Zu_):List PV:=[.str x.place, .str x.feed.rest, .int .i64 x.feed.err, .bool x.begun, .bool x.over, .int .i64 x.slots.e0.chan.credit, .sl Gb_.pc x.slots.e0.chan.takers, .sl LentR.pc x.slots.e0.chan.lent, .bool x.slots.e0.chan.sure, .bool x.slots.e0.chan.drafts, .int .u64 x.slots.e0.chan.puts, .sl DeedR.pc x.slots.e0.chan.held.l, .bool x.slots.e0.isopen, .int .i64 x.slots.e1.chan.credit, .sl Gb_.pc x.slots.e1.chan.takers, .sl LentR.pc x.slots.e1.chan.lent, .bool x.slots.e1.chan.sure, .bool x.slots.e1.chan.drafts, .int .u64 x.slots.e1.chan.puts, .sl DeedR.pc x.slots.e1.chan.held.l, .bool x.slots.e1.isopen, .int .i64 x.slots.e2.chan.credit, .sl Gb_.pc x.slots.e2.chan.takers, .sl LentR.pc x.slots.e2.chan.lent, .bool x.slots.e2.chan.sure, .bool x.slots.e2.chan.drafts, .int .u64 x.slots.e2.chan.puts, .sl DeedR.pc x.slots.e2.chan.held.l, .bool x.slots.e2.isopen, .int .i64 x.slots.e3.chan.credit, .sl Gb_.pc x.slots.e3.chan.takers, .sl LentR.pc x.slots.e3.chan.lent, .bool x.slots.e3.chan.sure, .bool x.slots.e3.chan.drafts, .int .u64 x.slots.e3.chan.puts, .sl DeedR.pc x.slots.e3.chan.held.l, .bool x.slots.e3.isopen, .int .i64 x.slots.e4.chan.credit, .sl Gb_.pc x.slots.e4.chan.takers, .sl LentR.pc x.slots.e4.chan.lent, .bool x.slots.e4.chan.sure, .bool x.slots.e4.chan.drafts, .int .u64 x.slots.e4.chan.puts, .sl DeedR.pc x.slots.e4.chan.held.l, .bool x.slots.e4.isopen]
structure TakerS where
  channel:Int
  tag:Int
  queue:Bs
deriving DecidableEq,Inhabited
def TakerS.pc (x:TakerS):List PV:=[.int .u8 x.channel, .int .u64 x.tag, .str x.queue]
structure ItemR where
  mail:Mail
  lent:Bool
  again:Bool
deriving DecidableEq,Inhabited
def ItemR.pc (x:ItemR):List PV:=[.int .u64 x.mail.id, .str x.mail.shop, .str x.mail.key, .sl Pair.pc x.mail.head, .str x.mail.body, .int .u64 x.mail.due, .int .u8 x.mail.hops, .bool x.lent, .bool x.again]
structure Ae_ where
  item:ItemR
  count:Int
  lost:Int
deriving DecidableEq,Inhabited
def Ae_.pc (x:Ae_):List PV:=[.int .u64 x.item.mail.id, .str x.item.mail.shop, .str x.item.mail.key, .sl Pair.pc x.item.mail.head, .str x.item.mail.body, .int .u64 x.item.mail.due, .int .u8 x.item.mail.hops, .bool x.item.lent, .bool x.item.again, .int .i64 x.count, .int .i64 x.lost]
abbrev A5_bool:=V.A5 Bool
def A5_bool.pc (x:A5_bool):List PV:=[.bool x.e0, .bool x.e1, .bool x.e2, .bool x.e3, .bool x.e4]
abbrev A5_ChanR:=V.A5 ChanR
def A5_ChanR.pc (x:A5_ChanR):List PV:=[.int .i64 x.e0.credit, .sl Gb_.pc x.e0.takers, .sl LentR.pc x.e0.lent, .bool x.e0.sure, .bool x.e0.drafts, .int .u64 x.e0.puts, .sl DeedR.pc x.e0.held.l, .int .i64 x.e1.credit, .sl Gb_.pc x.e1.takers, .sl LentR.pc x.e1.lent, .bool x.e1.sure, .bool x.e1.drafts, .int .u64 x.e1.puts, .sl DeedR.pc x.e1.held.l, .int .i64 x.e2.credit, .sl Gb_.pc x.e2.takers, .sl LentR.pc x.e2.lent, .bool x.e2.sure, .bool x.e2.drafts, .int .u64 x.e2.puts, .sl DeedR.pc x.e2.held.l, .int .i64 x.e3.credit, .sl Gb_.pc x.e3.takers, .sl LentR.pc x.e3.lent, .bool x.e3.sure, .bool x.e3.drafts, .int .u64 x.e3.puts, .sl DeedR.pc x.e3.held.l, .int .i64 x.e4.credit, .sl Gb_.pc x.e4.takers, .sl LentR.pc x.e4.lent, .bool x.e4.sure, .bool x.e4.drafts, .int .u64 x.e4.puts, .sl DeedR.pc x.e4.held.l]
structure SessR where
  place:Bs
  rest:Bs
  bad:Int
  begun:Bool
  over:Bool
  opens:A5_bool
  chans:A5_ChanR
deriving DecidableEq,Inhabited
def SessR.pc (x:SessR):List PV:=[.str x.place, .str x.rest, .int .i64 x.bad, .bool x.begun, .bool x.over, .bool x.opens.e0, .bool x.opens.e1, .bool x.opens.e2, .bool x.opens.e3, .bool x.opens.e4, .int .i64 x.chans.e0.credit, .sl Gb_.pc x.chans.e0.takers, .sl LentR.pc x.chans.e0.lent, .bool x.chans.e0.sure, .bool x.chans.e0.drafts, .int .u64 x.chans.e0.puts, .sl DeedR.pc x.chans.e0.held.l, .int .i64 x.chans.e1.credit, .sl Gb_.pc x.chans.e1.takers, .sl LentR.pc x.chans.e1.lent, .bool x.chans.e1.sure, .bool x.chans.e1.drafts, .int .u64 x.chans.e1.puts, .sl DeedR.pc x.chans.e1.held.l, .int .i64 x.chans.e2.credit, .sl Gb_.pc x.chans.e2.takers, .sl LentR.pc x.chans.e2.lent, .bool x.chans.e2.sure, .bool x.chans.e2.drafts, .int .u64 x.chans.e2.puts, .sl DeedR.pc x.chans.e2.held.l, .int .i64 x.chans.e3.credit, .sl Gb_.pc x.chans.e3.takers, .sl LentR.pc x.chans.e3.lent, .bool x.chans.e3.sure, .bool x.chans.e3.drafts, .int .u64 x.chans.e3.puts, .sl DeedR.pc x.chans.e3.held.l, .int .i64 x.chans.e4.credit, .sl Gb_.pc x.chans.e4.takers, .sl LentR.pc x.chans.e4.lent, .bool x.chans.e4.sure, .bool x.chans.e4.drafts, .int .u64 x.chans.e4.puts, .sl DeedR.pc x.chans.e4.held.l]
structure Act28R where
  dow:Int
  m:Method
  chunk:Bs
  tick:Int
  err:Int
  item:ItemR
  at_:Int
deriving DecidableEq,Inhabited
def Act28R.pc (x:Act28R):List PV:=[.int .u8 x.dow, .int .u8 x.m.channel, .int .u8 x.m.kind, .str x.m.name, .str x.m.other, .str x.m.key, .sl Pair.pc x.m.head, .str x.m.body, .int .u64 x.m.n, .int .u64 x.m.m, .bool x.m.yes, .str x.chunk, .int .u64 x.tick, .int .u8 x.err, .int .u64 x.item.mail.id, .str x.item.mail.shop, .str x.item.mail.key, .sl Pair.pc x.item.mail.head, .str x.item.mail.body, .int .u64 x.item.mail.due, .int .u8 x.item.mail.hops, .bool x.item.lent, .bool x.item.again, .int .u8 x.at_]
structure LabelR where
  level:Int
  set_:Int
deriving DecidableEq,Inhabited
def LabelR.pc (x:LabelR):List PV:=[.int .u8 x.level, .int .u32 x.set_]
structure PlaceR where
  name:Bs
  label:LabelR
  bytes:Int
  base:Int
deriving DecidableEq,Inhabited
def PlaceR.pc (x:PlaceR):List PV:=[.str x.name, .int .u8 x.label.level, .int .u32 x.label.set_, .int .i64 x.bytes, .int .u64 x.base]
structure GrantR where
  frm:Int
  to':Int
  budget:Int
deriving DecidableEq,Inhabited
def GrantR.pc (x:GrantR):List PV:=[.int .i64 x.frm, .int .i64 x.to', .int .i64 x.budget]
structure PolicyR where
  work:Int
  give:Int
  places:List PlaceR
  slots:List Int
  grants:List GrantR
deriving DecidableEq,Inhabited
def PolicyR.pc (x:PolicyR):List PV:=[.int .i64 x.work, .int .i64 x.give, .sl PlaceR.pc x.places, .sl i64c x.slots, .sl GrantR.pc x.grants]
structure NoteR where
  tick:Int
  kind:Int
  text:Bs
deriving DecidableEq,Inhabited
def NoteR.pc (x:NoteR):List PV:=[.int .u64 x.tick, .int .u8 x.kind, .str x.text]
structure A4_ where
  total:Int
  kept:List NoteR
deriving DecidableEq,Inhabited
def A4_.pc (x:A4_):List PV:=[.int .u64 x.total, .sl NoteR.pc x.kept]
structure LineR where
  items:List ItemR
deriving DecidableEq,Inhabited
def LineR.pc (x:LineR):List PV:=[.sl ItemR.pc x.items]
structure RowR where
  q:QueueR
  l:LineR
deriving DecidableEq,Inhabited
def RowR.pc (x:RowR):List PV:=[.str x.q.name, .int .u64 x.q.most, .int .u64 x.q.life, .str x.q.dead, .sl ItemR.pc x.l.items]
structure RRowR where
  q:QueueR
  l:List ItemR
deriving DecidableEq,Inhabited
def RRowR.pc (x:RRowR):List PV:=[.str x.q.name, .int .u64 x.q.most, .int .u64 x.q.life, .str x.q.dead, .sl ItemR.pc x.l]
structure RiseR where
  total:Int
  kept:List Mail
deriving DecidableEq,Inhabited
def RiseR.pc (x:RiseR):List PV:=[.int .u64 x.total, .sl Mail.pc x.kept]
abbrev A16_RiseR:=V.A16 RiseR
def A16_RiseR.pc (x:A16_RiseR):List PV:=[.int .u64 x.e0.total, .sl Mail.pc x.e0.kept, .int .u64 x.e1.total, .sl Mail.pc x.e1.kept, .int .u64 x.e2.total, .sl Mail.pc x.e2.kept, .int .u64 x.e3.total, .sl Mail.pc x.e3.kept, .int .u64 x.e4.total, .sl Mail.pc x.e4.kept, .int .u64 x.e5.total, .sl Mail.pc x.e5.kept, .int .u64 x.e6.total, .sl Mail.pc x.e6.kept, .int .u64 x.e7.total, .sl Mail.pc x.e7.kept, .int .u64 x.e8.total, .sl Mail.pc x.e8.kept, .int .u64 x.e9.total, .sl Mail.pc x.e9.kept, .int .u64 x.e10.total, .sl Mail.pc x.e10.kept, .int .u64 x.e11.total, .sl Mail.pc x.e11.kept, .int .u64 x.e12.total, .sl Mail.pc x.e12.kept, .int .u64 x.e13.total, .sl Mail.pc x.e13.kept, .int .u64 x.e14.total, .sl Mail.pc x.e14.kept, .int .u64 x.e15.total, .sl Mail.pc x.e15.kept]
abbrev A16_u64:=V.A16 Int
def A16_u64.pc (x:A16_u64):List PV:=[.int .u64 x.e0, .int .u64 x.e1, .int .u64 x.e2, .int .u64 x.e3, .int .u64 x.e4, .int .u64 x.e5, .int .u64 x.e6, .int .u64 x.e7, .int .u64 x.e8, .int .u64 x.e9, .int .u64 x.e10, .int .u64 x.e11, .int .u64 x.e12, .int .u64 x.e13, .int .u64 x.e14, .int .u64 x.e15]
structure O_ where
  round:Int
  count:Int
deriving DecidableEq,Inhabited
def O_.pc (x:O_):List PV:=[.int .u64 x.round, .int .i64 x.count]
abbrev A8_SpentR:=V.A8 O_
def A8_SpentR.pc (x:A8_SpentR):List PV:=[.int .u64 x.e0.round, .int .i64 x.e0.count, .int .u64 x.e1.round, .int .i64 x.e1.count, .int .u64 x.e2.round, .int .i64 x.e2.count, .int .u64 x.e3.round, .int .i64 x.e3.count, .int .u64 x.e4.round, .int .i64 x.e4.count, .int .u64 x.e5.round, .int .i64 x.e5.count, .int .u64 x.e6.round, .int .i64 x.e6.count, .int .u64 x.e7.round, .int .i64 x.e7.count]
abbrev A16_i64:=V.A16 Int
def A16_i64.pc (x:A16_i64):List PV:=[.int .i64 x.e0, .int .i64 x.e1, .int .i64 x.e2, .int .i64 x.e3, .int .i64 x.e4, .int .i64 x.e5, .int .i64 x.e6, .int .i64 x.e7, .int .i64 x.e8, .int .i64 x.e9, .int .i64 x.e10, .int .i64 x.e11, .int .i64 x.e12, .int .i64 x.e13, .int .i64 x.e14, .int .i64 x.e15]
structure E_ where
  next :Int
  bytes:Int
  rows:List RowR
  rises:A16_RiseR
deriving DecidableEq,Inhabited
def E_.pc (x:E_):List PV:=[.int .u64 x.next, .int .i64 x.bytes, .sl RowR.pc x.rows, .int .u64 x.rises.e0.total, .sl Mail.pc x.rises.e0.kept, .int .u64 x.rises.e1.total, .sl Mail.pc x.rises.e1.kept, .int .u64 x.rises.e2.total, .sl Mail.pc x.rises.e2.kept, .int .u64 x.rises.e3.total, .sl Mail.pc x.rises.e3.kept, .int .u64 x.rises.e4.total, .sl Mail.pc x.rises.e4.kept, .int .u64 x.rises.e5.total, .sl Mail.pc x.rises.e5.kept, .int .u64 x.rises.e6.total, .sl Mail.pc x.rises.e6.kept, .int .u64 x.rises.e7.total, .sl Mail.pc x.rises.e7.kept, .int .u64 x.rises.e8.total, .sl Mail.pc x.rises.e8.kept, .int .u64 x.rises.e9.total, .sl Mail.pc x.rises.e9.kept, .int .u64 x.rises.e10.total, .sl Mail.pc x.rises.e10.kept, .int .u64 x.rises.e11.total, .sl Mail.pc x.rises.e11.kept, .int .u64 x.rises.e12.total, .sl Mail.pc x.rises.e12.kept, .int .u64 x.rises.e13.total, .sl Mail.pc x.rises.e13.kept, .int .u64 x.rises.e14.total, .sl Mail.pc x.rises.e14.kept, .int .u64 x.rises.e15.total, .sl Mail.pc x.rises.e15.kept]
structure Ya_ where
  next :Int
  most:Int
  rows:List RRowR
  rises:A16_RiseR
deriving DecidableEq,Inhabited
def Ya_.pc (x:Ya_):List PV:=[.int .u64 x.next, .int .i64 x.most, .sl RRowR.pc x.rows, .int .u64 x.rises.e0.total, .sl Mail.pc x.rises.e0.kept, .int .u64 x.rises.e1.total, .sl Mail.pc x.rises.e1.kept, .int .u64 x.rises.e2.total, .sl Mail.pc x.rises.e2.kept, .int .u64 x.rises.e3.total, .sl Mail.pc x.rises.e3.kept, .int .u64 x.rises.e4.total, .sl Mail.pc x.rises.e4.kept, .int .u64 x.rises.e5.total, .sl Mail.pc x.rises.e5.kept, .int .u64 x.rises.e6.total, .sl Mail.pc x.rises.e6.kept, .int .u64 x.rises.e7.total, .sl Mail.pc x.rises.e7.kept, .int .u64 x.rises.e8.total, .sl Mail.pc x.rises.e8.kept, .int .u64 x.rises.e9.total, .sl Mail.pc x.rises.e9.kept, .int .u64 x.rises.e10.total, .sl Mail.pc x.rises.e10.kept, .int .u64 x.rises.e11.total, .sl Mail.pc x.rises.e11.kept, .int .u64 x.rises.e12.total, .sl Mail.pc x.rises.e12.kept, .int .u64 x.rises.e13.total, .sl Mail.pc x.rises.e13.kept, .int .u64 x.rises.e14.total, .sl Mail.pc x.rises.e14.kept, .int .u64 x.rises.e15.total, .sl Mail.pc x.rises.e15.kept]
structure K_ where
  book:BookR
  stock:E_
  notes:A4_
  seen:A16_u64
  spent:A8_SpentR
deriving DecidableEq,Inhabited
def K_.pc (x:K_):List PV:=[.sl ShopR.pc x.book.shops, .sl BindR.pc x.book.binds, .int .u64 x.stock.next, .int .i64 x.stock.bytes, .sl RowR.pc x.stock.rows, .int .u64 x.stock.rises.e0.total, .sl Mail.pc x.stock.rises.e0.kept, .int .u64 x.stock.rises.e1.total, .sl Mail.pc x.stock.rises.e1.kept, .int .u64 x.stock.rises.e2.total, .sl Mail.pc x.stock.rises.e2.kept, .int .u64 x.stock.rises.e3.total, .sl Mail.pc x.stock.rises.e3.kept, .int .u64 x.stock.rises.e4.total, .sl Mail.pc x.stock.rises.e4.kept, .int .u64 x.stock.rises.e5.total, .sl Mail.pc x.stock.rises.e5.kept, .int .u64 x.stock.rises.e6.total, .sl Mail.pc x.stock.rises.e6.kept, .int .u64 x.stock.rises.e7.total, .sl Mail.pc x.stock.rises.e7.kept, .int .u64 x.stock.rises.e8.total, .sl Mail.pc x.stock.rises.e8.kept, .int .u64 x.stock.rises.e9.total, .sl Mail.pc x.stock.rises.e9.kept, .int .u64 x.stock.rises.e10.total, .sl Mail.pc x.stock.rises.e10.kept, .int .u64 x.stock.rises.e11.total, .sl Mail.pc x.stock.rises.e11.kept, .int .u64 x.stock.rises.e12.total, .sl Mail.pc x.stock.rises.e12.kept, .int .u64 x.stock.rises.e13.total, .sl Mail.pc x.stock.rises.e13.kept, .int .u64 x.stock.rises.e14.total, .sl Mail.pc x.stock.rises.e14.kept, .int .u64 x.stock.rises.e15.total, .sl Mail.pc x.stock.rises.e15.kept, .int .u64 x.notes.total, .sl NoteR.pc x.notes.kept, .int .u64 x.seen.e0, .int .u64 x.seen.e1, .int .u64 x.seen.e2, .int .u64 x.seen.e3, .int .u64 x.seen.e4, .int .u64 x.seen.e5, .int .u64 x.seen.e6, .int .u64 x.seen.e7, .int .u64 x.seen.e8, .int .u64 x.seen.e9, .int .u64 x.seen.e10, .int .u64 x.seen.e11, .int .u64 x.seen.e12, .int .u64 x.seen.e13, .int .u64 x.seen.e14, .int .u64 x.seen.e15, .int .u64 x.spent.e0.round, .int .i64 x.spent.e0.count, .int .u64 x.spent.e1.round, .int .i64 x.spent.e1.count, .int .u64 x.spent.e2.round, .int .i64 x.spent.e2.count, .int .u64 x.spent.e3.round, .int .i64 x.spent.e3.count, .int .u64 x.spent.e4.round, .int .i64 x.spent.e4.count, .int .u64 x.spent.e5.round, .int .i64 x.spent.e5.count, .int .u64 x.spent.e6.round, .int .i64 x.spent.e6.count, .int .u64 x.spent.e7.round, .int .i64 x.spent.e7.count]
structure C_ where
  x:K_
  policy:PolicyR
  place:Int
deriving DecidableEq,Inhabited
def C_.pc (x:C_):List PV:=[.sl ShopR.pc x.x.book.shops, .sl BindR.pc x.x.book.binds, .int .u64 x.x.stock.next, .int .i64 x.x.stock.bytes, .sl RowR.pc x.x.stock.rows, .int .u64 x.x.stock.rises.e0.total, .sl Mail.pc x.x.stock.rises.e0.kept, .int .u64 x.x.stock.rises.e1.total, .sl Mail.pc x.x.stock.rises.e1.kept, .int .u64 x.x.stock.rises.e2.total, .sl Mail.pc x.x.stock.rises.e2.kept, .int .u64 x.x.stock.rises.e3.total, .sl Mail.pc x.x.stock.rises.e3.kept, .int .u64 x.x.stock.rises.e4.total, .sl Mail.pc x.x.stock.rises.e4.kept, .int .u64 x.x.stock.rises.e5.total, .sl Mail.pc x.x.stock.rises.e5.kept, .int .u64 x.x.stock.rises.e6.total, .sl Mail.pc x.x.stock.rises.e6.kept, .int .u64 x.x.stock.rises.e7.total, .sl Mail.pc x.x.stock.rises.e7.kept, .int .u64 x.x.stock.rises.e8.total, .sl Mail.pc x.x.stock.rises.e8.kept, .int .u64 x.x.stock.rises.e9.total, .sl Mail.pc x.x.stock.rises.e9.kept, .int .u64 x.x.stock.rises.e10.total, .sl Mail.pc x.x.stock.rises.e10.kept, .int .u64 x.x.stock.rises.e11.total, .sl Mail.pc x.x.stock.rises.e11.kept, .int .u64 x.x.stock.rises.e12.total, .sl Mail.pc x.x.stock.rises.e12.kept, .int .u64 x.x.stock.rises.e13.total, .sl Mail.pc x.x.stock.rises.e13.kept, .int .u64 x.x.stock.rises.e14.total, .sl Mail.pc x.x.stock.rises.e14.kept, .int .u64 x.x.stock.rises.e15.total, .sl Mail.pc x.x.stock.rises.e15.kept, .int .u64 x.x.notes.total, .sl NoteR.pc x.x.notes.kept, .int .u64 x.x.seen.e0, .int .u64 x.x.seen.e1, .int .u64 x.x.seen.e2, .int .u64 x.x.seen.e3, .int .u64 x.x.seen.e4, .int .u64 x.x.seen.e5, .int .u64 x.x.seen.e6, .int .u64 x.x.seen.e7, .int .u64 x.x.seen.e8, .int .u64 x.x.seen.e9, .int .u64 x.x.seen.e10, .int .u64 x.x.seen.e11, .int .u64 x.x.seen.e12, .int .u64 x.x.seen.e13, .int .u64 x.x.seen.e14, .int .u64 x.x.seen.e15, .int .u64 x.x.spent.e0.round, .int .i64 x.x.spent.e0.count, .int .u64 x.x.spent.e1.round, .int .i64 x.x.spent.e1.count, .int .u64 x.x.spent.e2.round, .int .i64 x.x.spent.e2.count, .int .u64 x.x.spent.e3.round, .int .i64 x.x.spent.e3.count, .int .u64 x.x.spent.e4.round, .int .i64 x.x.spent.e4.count, .int .u64 x.x.spent.e5.round, .int .i64 x.x.spent.e5.count, .int .u64 x.x.spent.e6.round, .int .i64 x.x.spent.e6.count, .int .u64 x.x.spent.e7.round, .int .i64 x.x.spent.e7.count, .int .i64 x.policy.work, .int .i64 x.policy.give, .sl PlaceR.pc x.policy.places, .sl i64c x.policy.slots, .sl GrantR.pc x.policy.grants, .int .i64 x.place]
structure RStoreR where
  p:PolicyR
  at_:Int
  book:BookR
  stock:Ya_
  notes:A4_
  seen:A16_u64
  spent:A8_SpentR
deriving DecidableEq,Inhabited
def RStoreR.pc (x:RStoreR):List PV:=[.int .i64 x.p.work, .int .i64 x.p.give, .sl PlaceR.pc x.p.places, .sl i64c x.p.slots, .sl GrantR.pc x.p.grants, .int .i64 x.at_, .sl ShopR.pc x.book.shops, .sl BindR.pc x.book.binds, .int .u64 x.stock.next, .int .i64 x.stock.most, .sl RRowR.pc x.stock.rows, .int .u64 x.stock.rises.e0.total, .sl Mail.pc x.stock.rises.e0.kept, .int .u64 x.stock.rises.e1.total, .sl Mail.pc x.stock.rises.e1.kept, .int .u64 x.stock.rises.e2.total, .sl Mail.pc x.stock.rises.e2.kept, .int .u64 x.stock.rises.e3.total, .sl Mail.pc x.stock.rises.e3.kept, .int .u64 x.stock.rises.e4.total, .sl Mail.pc x.stock.rises.e4.kept, .int .u64 x.stock.rises.e5.total, .sl Mail.pc x.stock.rises.e5.kept, .int .u64 x.stock.rises.e6.total, .sl Mail.pc x.stock.rises.e6.kept, .int .u64 x.stock.rises.e7.total, .sl Mail.pc x.stock.rises.e7.kept, .int .u64 x.stock.rises.e8.total, .sl Mail.pc x.stock.rises.e8.kept, .int .u64 x.stock.rises.e9.total, .sl Mail.pc x.stock.rises.e9.kept, .int .u64 x.stock.rises.e10.total, .sl Mail.pc x.stock.rises.e10.kept, .int .u64 x.stock.rises.e11.total, .sl Mail.pc x.stock.rises.e11.kept, .int .u64 x.stock.rises.e12.total, .sl Mail.pc x.stock.rises.e12.kept, .int .u64 x.stock.rises.e13.total, .sl Mail.pc x.stock.rises.e13.kept, .int .u64 x.stock.rises.e14.total, .sl Mail.pc x.stock.rises.e14.kept, .int .u64 x.stock.rises.e15.total, .sl Mail.pc x.stock.rises.e15.kept, .int .u64 x.notes.total, .sl NoteR.pc x.notes.kept, .int .u64 x.seen.e0, .int .u64 x.seen.e1, .int .u64 x.seen.e2, .int .u64 x.seen.e3, .int .u64 x.seen.e4, .int .u64 x.seen.e5, .int .u64 x.seen.e6, .int .u64 x.seen.e7, .int .u64 x.seen.e8, .int .u64 x.seen.e9, .int .u64 x.seen.e10, .int .u64 x.seen.e11, .int .u64 x.seen.e12, .int .u64 x.seen.e13, .int .u64 x.seen.e14, .int .u64 x.seen.e15, .int .u64 x.spent.e0.round, .int .i64 x.spent.e0.count, .int .u64 x.spent.e1.round, .int .i64 x.spent.e1.count, .int .u64 x.spent.e2.round, .int .i64 x.spent.e2.count, .int .u64 x.spent.e3.round, .int .i64 x.spent.e3.count, .int .u64 x.spent.e4.round, .int .i64 x.spent.e4.count, .int .u64 x.spent.e5.round, .int .i64 x.spent.e5.count, .int .u64 x.spent.e6.round, .int .i64 x.spent.e6.count, .int .u64 x.spent.e7.round, .int .i64 x.spent.e7.count]
structure OutR where
  queue:Bs
  mail:Mail
deriving DecidableEq,Inhabited
def OutR.pc (x:OutR):List PV:=[.str x.queue, .int .u64 x.mail.id, .str x.mail.shop, .str x.mail.key, .sl Pair.pc x.mail.head, .str x.mail.body, .int .u64 x.mail.due, .int .u8 x.mail.hops]
structure TellerR where
  l:List Bs
deriving DecidableEq,Inhabited
def TellerR.pc (x:TellerR):List PV:=[.sl strc x.l]
structure RdR where
  p:Unit
  deeds:List DeedR
deriving DecidableEq,Inhabited
def RdR.pc (x:RdR):List PV:=[.junk, .sl DeedR.pc x.deeds]
variable {P:Program} {n:Nat} {N:Rest} {H0:Env} {all rest:List Oper} {Q:Qs} {ks:List Kt} {s:St} {T ty d:Nat} {pos:String} {af:Array Edge} {x:Operand} {K:St->Prop}
structure Fy (P:Program) (G:Gb) (f:FuncId) (arg:PV) (args:List PV) (T:TypeId) (pre:List PV) (res:PV) (post:List PV):Prop where
  cb:R_ P f
  no:res.noOsl=true
  np:Bk_ post=true
  run:∀ (N:Rest) (H:Hp) (L:Ls) (w:World) (b i:Nat) (v0:Value) (vs vc:List Value),G.p H->Sim H arg v0->Sims H args vs->L i=some (b,bx T vc)->Sims H pre vc->Mem N H L w ->
    Calls P f (v0::Value.pointer (some ⟨b,0,none⟩)::vs).toArray w fun e w'=>∃ v H' vc',e = .returned v/\Sim H' res v/\Sims H' post vc'/\HLe H H'/\Mem N H' (lupd L i (some (b,bx T vc'))) w'
theorem fy_cw {tb:Tb} {G:Gb} {m:Nat} {f:FuncId} {fn:Func} {c:Code} {arg:PV} {args pre post:List PV} {res:PV} {T:Nat} (ht:tbB P tb=true) (hf:P.funcs[f]? = some fn) (hb:fn.body=some c) (hn:fn.ntmps=m) (hs:Nat.ble (args.length+2) m=true) (hcb:R_ P f) (hno:res.noOsl=true) (hna:Bk_ (arg::args)=true) (hnp:Bk_ pre=true) (hnq:Bk_ post=true)
    (h:PV.wfs (arg::args)->PV.wfs pre->∀ b N H,G.p H->Hd P m N ⟨H,G⟩ (rmK tb fn.results.toList res b T post) (.code c) [] ⟨M8_ (arg :: .own 0 b 0::args),lups (fun _=> .no) 0 (.box b T pre)⟩):Fy P G f arg args T pre res post:=by
  refine⟨hcb,hno,hnq,fun N H L w b i v0 vs vc hg hs0 hsim hL hpre hm=>?_⟩
  subst hn
  simp only[Bk_,Bool.and_eq_true] at hna
  have hs':Sims H (arg :: .own 0 b 0::args) (v0::Value.pointer (some ⟨b,0,none⟩)::vs):=(hsim.cons Sim.own).cons hs0
  have key:Pm P f (v0::Value.pointer (some ⟨b,0,none⟩)::vs).toArray H b (bx T vc) (fun v H' o'=>∃ vc',o'=bx T vc'/\Sim H' res v/\Sims H' post vc'):=by
    refine pm_of_cw hf hb (by have :=Nat.le_of_ble_eq_true hs;simp[hsim.1];omega) fun N=>?_
    have h1:=h (hsim.cons hs0).wf hpre.wf b N H hg (Iu_ (v0::Value.pointer (some ⟨b,0,none⟩)::vs).toArray) H (ofL [(b,bx T vc)]) ⟨.refl H,hg,fun t=>Ka_ hs' (by simp only [Bk_,Bool.and_eq_true];exact ⟨hna.1,rfl,hna.2⟩) t,fun j=>by
      by_cases e:j=0
      · subst e;simp only[Cs_];exact⟨vc,rfl,Gk_ hpre hnp⟩
      · simp only[Fw_ _ _ _ _ e];trivial⟩
    refine Ic_ (fun e F' H' L' hq=>?_) h1
    obtain⟨s',ha',hq',q,hq1,hq2,hq3⟩:=hq
    obtain⟨he,v,hr,hv⟩:=Mk_ (N:=N) ht ha' hq'
    have h3:=ha'.l 0
    rw[hq1] at h3
    obtain⟨vc',hL',hsv⟩:=h3
    rcases he with rfl|rfl
    · exact⟨v,hr,ha'.le,_,hL',vc',rfl,hv,hq3 _ _ hsv.sims⟩
    · exact⟨v,hr,ha'.le,_,hL',vc',rfl,hv,hq3 _ _ hsv.sims⟩
  exact (key N L w i hL hm).mono fun _ _ ⟨v,H',o',h1,⟨vc',h5,h6,h7⟩,h3,h4⟩=>⟨v,H',vc',h1,h6,h7,h3,by rw[<- h5];exact h4⟩
theorem ecally {f:FuncId} {arg:PV} {args pre post:List PV} {res:PV} {as0:Array Operand} {ats:Array TypeId} {i b b' T0 off:Nat} (h:Fy P H0.g f arg args T0 pre res post) (ha:argsP s.F x as0.toList=some (f,arg :: .own i b off::args)) (hoff:off=0) (hb:s.L i = .box b' T0 pre) (hbb:b'=b) (hd:Nat.blt d n=true) (k:res.wf->PV.wfs post->K ⟨updp s.F d res,lups s.L i (.box b T0 post)⟩):E1 P n N H0 all ⟨some d, .call ⟨.value x,as0,ats⟩,ty,pos,af,none⟩ (some i) s K:=by
  intro F H L hab
  subst hoff;subst hbb
  obtain⟨us,h1,h2⟩:=Ho_ (ats:=ats) hab.f ha h.cb
  obtain⟨v1,us1,rfl,g3,g4⟩:=h1.inv_cons
  obtain⟨v0,vs,rfl,h3,h4⟩:=g4.inv_cons
  have h5:=h3.inv_own
  subst h5
  have h6:=hab.l i
  rw[hb] at h6
  obtain⟨vc,hL,hsv⟩:=h6
  intro a w hA hm
  rw[if_pos (by simp[Region.wanted])]
  unfold Oper.wp
  rw[hA.eval,h2]
  refine (h.run N H L w b' i v1 vs vc hab.g g3 h4 hL hsv.sims hm).mono fun e' w' ⟨v,H',vc',he,hv,hp,hl,hm'⟩=>?_
  subst he
  refine⟨_,H',_,hA.put (by simpa using hd) v,hm',hl,only,_,Abs.put (p:=res) ((hab.mono hl).turnB (B:= .box b' T0 post) i trivial ⟨vc',rfl,Gk_ hp h.np⟩) d (hv.simT h.no),k hv.wf hp.wf⟩
end Go.SW
namespace Go.SW.V
open Go.SW
variable {P:Program} {n:Nat} {N:Rest} {H0:Env} {all rest:List Oper} {Q:Qs} {ks:List Kt} {fF:Nat->PV} {fL:Nat->Blk} {T ty d:Nat} {pos:String} {af:Array Edge} {x:Operand} {K:St->Prop}
theorem ecally {f:FuncId} {arg:PV} {args pre post:List PV} {res:PV} {as0:Array Operand} {ats:Array TypeId} {i b b' T0 off:Nat} (h:Fy P H0.g f arg args T0 pre res post) (ha:argsP fF x as0.toList=some (f,arg :: .own i b off::args)) (hoff:off=0) (hb:fL i = .box b' T0 pre) (hbb:b'=b) (hd:Nat.blt d n=true) (k:res.wf->PV.wfs post->K ⟨updp fF d res,lups fL i (.box b T0 post)⟩):E1 P n N H0 all ⟨some d, .call ⟨.value x,as0,ats⟩,ty,pos,af,none⟩ (some i) ⟨fF,fL⟩ K:=SW.ecally (s:=⟨fF,fL⟩) h ha hoff hb hbb hd k
end Go.SW.V
namespace Go.SW
structure ActR where
  dow:Int
  n:Int
  how:Int
  queue:Bs
  upto:Bool
  l:List DeedR
deriving DecidableEq,Inhabited
def ActR.pc (x:ActR):List PV:=[.int .u8 x.dow, .int .u64 x.n, .int .u64 x.how, .str x.queue, .bool x.upto, .sl DeedR.pc x.l]
end Go.SW
namespace Go.SW
open Go.MapKept
variable {P:Program} {n:Nat} {N:Rest} {ops:List Oper} {F:Fr} {H:Hp} {L:Ls} {K:Fr->Hp->Ls->Prop} {T ty d:Nat} {pos:String} {af:Array Edge} {x y z:Operand} {κ ν:Type}
end Go.SW
namespace Go.SW.V
open Go.SW
variable {P:Program} {n:Nat} {N:Rest} {H0:Env} {all rest:List Oper} {Q:Qs} {ks:List Kt} {fF:Nat->PV} {fL:Nat->Blk} {T ty d:Nat} {pos:String} {af:Array Edge} {x y z:Operand} {K:St->Prop} {κ ν:Type}
end Go.SW.V
namespace Go.SW
variable {P:Program} {n:Nat} {N:Rest} {H0:Env} {all rest:List Oper} {Q:Qs} {ks:List Kt} {s:St} {T T' T2 ty d:Nat} {pos:String} {af:Array Edge} {x y z:Operand} {K:St->Prop} {op:Op} {p:PV}
structure Fx {α:Type} (P:Program) (G:Gb) (f:FuncId) (a0:PV) (args:List PV) (res:PV) (k e:Nat) (enc:α->List PV) (xs:List α):Prop where
  cb:R_ P f
  no:res.noOsl=true
  run:∀ (N:Rest) (H:Hp) (L:Ls) (w:World) (i:Nat) (v0 u:Value) (vs:List Value),G.p H->SimB (fun _=> .no) H (.arr u k e enc xs) (L i)->Sims H (a0::args) (v0::vs)->Mem N H L w ->
    Calls P f (v0::u::vs).toArray w fun e' w'=>∃ v H',e' = .returned v/\Sim H' res v/\HLe H H'/\Mem N H' (lupd L i none) w'
theorem fx_cw {α:Type} {tb:Tb} {G:Gb} {m:Nat} {f:FuncId} {fn:Func} {c:Code} {a0:PV} {args:List PV} {res:PV} {k e:Nat} {enc:α->List PV} {xs:List α} (ht:tbB P tb=true) (hf:P.funcs[f]? = some fn) (hb:fn.body=some c) (hn:fn.ntmps=m) (hs:Nat.ble (args.length+2) m=true) (hcb:R_ P f) (hno:res.noOsl=true) (hna:Bk_ (a0::args)=true)
    (h:PV.wfs (a0::args)->xs.length<=140737488355328->∀ u N H,G.p H->Hd P m N ⟨H,G⟩ (rtK tb fn.results.toList res) (.code c) [] ⟨M8_ (a0 :: .osl 0::args),lups (fun _=> .no) 0 (.arr u k e enc xs)⟩):Fx P G f a0 args res k e enc xs:=by
  refine⟨hcb,hno,fun N H L w i v0 u vs hg hB hsim hm=>?_⟩
  subst hn
  have key:Pl P f (v0::u::vs).toArray H (L i) (fun v H' _=>Sim H' res v):=by
    refine pl_of_cw hf hb (by have :=Nat.le_of_ble_eq_true hs;have :=hsim.1;simp at this ⊢;omega) fun N=>?_
    have hlen:xs.length<=140737488355328:=by obtain⟨_,_,_,q⟩:=hB;exact q
    have h1:=h hsim.wf hlen u N H hg (Iu_ (v0::u::vs).toArray) H (ofE (L i)) ⟨.refl H,hg,fun t=>?_,fun j=>?_⟩
    · refine Ic_ (fun e' F' H' L' hq=>?_) h1
      obtain⟨s',ha',hq'⟩:=hq
      obtain⟨he,v,hr,hv⟩:=Mk_ (N:=N) ht ha' hq'
      rcases he with rfl|rfl
      · exact⟨v,hr,ha'.le,0,hv⟩
      · exact⟨v,hr,ha'.le,0,hv⟩
    · have hi:=Ka_ (sL:=lups (fun _=> .no) 0 (.arr u k e enc xs)) hsim hna
      match t with
      |0=>simpa [M8_,nth,Iu_] using hi 0
      |1=>simp[M8_,nth,SimT,Cs_,Iu_]
      |t+2=>simpa [M8_,nth,Iu_] using hi (t+1)
    · by_cases e1:j=0
      · subst e1
        simp only[Cs_]
        have :ofE (L i) 0=L i:=by cases L i<;>rfl
        rw[this];exact hB
      · simp only[Fw_ _ _ _ _ e1];trivial
  refine (key N L w i rfl hm).mono fun _ _ ⟨v,H',en,h1,h5,h3,h4⟩=>⟨v,H',h1,h5,h3,?_⟩
  have h6:=h4.clear i
  have heq:lupd (lupd L i en) i none=lupd L i none:=funext fun j=>by
    by_cases q:j=i
    · subst q;rw[Bi_,Bi_]
    · rw[Bc_ _ _ _ _ q,Bc_ _ _ _ _ q,Bc_ _ _ _ _ q]
  rwa [heq] at h6
theorem ecallx' {α:Type} {f:FuncId} {a0:PV} {args:List PV} {res:PV} {i k e k2 e2:Nat} {enc:α->List PV} {xs:List α} {u:Value} {as0:Array Operand} {ats:Array TypeId} (h:Fx P H0.g f a0 args res k e enc xs) (hx:evP s.F x = .fn f [] []) (ha:evPs s.F as0.toList=a0 :: .osl i::args) (hna:Bk_ (a0::args)=true) (hb:s.L i = .arr u k2 e2 enc xs) (hk:k2=k) (he2:e2=e) (hd:Nat.blt d n=true)
    (kk:res.wf->K ⟨updp (H6_ i s.F) d res,lups (Gp_ i s.L) i .no⟩):E1 P n N H0 all ⟨some d, .call ⟨.value x,as0,ats⟩,ty,pos,af,none⟩ (some i) s K:=by
  intro F H L hab
  subst hk;subst he2
  have h1:=(B6_ hab.f x).sim
  rw[hx] at h1
  obtain⟨v1,v2,ex,h2,h3⟩:=h1.inv_fn
  cases h2.inv_nil
  cases h3.inv_nil
  have hsT:=Uc_ (Ls:=s.L) (H:=H) (F:=F) (G:=s.F) (xs:=as0.toList) fun y _=>B6_ hab.f y
  rw[ha] at hsT
  have hB:=hab.l i
  rw[hb] at hB
  cases hev:evs F as0.toList with
  |nil=>have :=hsT.1;rw[hev] at this;simp at this
  |cons v0 vs1=>cases vs1 with
    |nil=>have :=hsT.1;rw[hev] at this;simp at this
    |cons v1 vs=>
    rw[hev] at hsT
    have h4:=hsT.2 1 _ _ rfl rfl
    simp only[SimT,hb] at h4
    subst h4
    have h5:Sims H (a0::args) (v0::vs):=by
      obtain⟨q,r,e3,q1,q2⟩:=hsT.sims.inv_cons
      cases e3
      obtain⟨q',r',e4,_,q4⟩:=q2.inv_cons
      cases e4
      exact q4.cons q1
    have hen:En P (.call ⟨.value x,as0,ats⟩) F f (v0::v1::vs).toArray:=by
      have :=en_any (ats:=ats) (xs:=as0) ex h.cb
      rw[hev] at this
      simpa using this
    intro a w hA hm
    rw[if_pos (by simp[Region.wanted])]
    unfold Oper.wp
    rw[hA.eval,hen]
    refine (h.run N H L w i v0 v1 vs hab.g hB h5 hm).mono fun e' w' ⟨v,H',he,hv,hl,hm'⟩=>?_
    subst he
    exact⟨_,H',_,hA.put (by simpa using hd) v,hm',hl,only,_,Abs.put (p:=res) ((hab.mono hl).turn i (B:= .no) (x:=none) trivial) d (hv.simT h.no),kk hv.wf⟩
end Go.SW
namespace Go.SW.V
open Go.SW
variable {P:Program} {n:Nat} {N:Rest} {H0:Env} {all rest:List Oper} {Q:Qs} {ks:List Kt} {fF:Nat->PV} {fL:Nat->Blk} {T T' T2 ty d:Nat} {pos:String} {af:Array Edge} {x y z:Operand} {K:St->Prop} {op:Op} {p:PV}
theorem Z6_ {α:Type} {f:FuncId} {a0:PV} {args:List PV} {res:PV} {i k e k2 e2:Nat} {enc:α->List PV} {xs:List α} {u:Value} {as0:Array Operand} {ats:Array TypeId} (h:Fx P H0.g f a0 args res k e enc xs) (hx:evP fF x = .fn f [] []) (ha:evPs fF as0.toList=a0 :: .osl i::args) (hna:Bk_ (a0::args)=true) (hb:fL i = .arr u k2 e2 enc xs) (hk:k2=k) (he2:e2=e) (hd:Nat.blt d n=true)
    (kk:res.wf->K ⟨updp (H6_ i fF) d res,lups (Gp_ i fL) i .no⟩):E1 P n N H0 all ⟨some d, .call ⟨.value x,as0,ats⟩,ty,pos,af,none⟩ (some i) ⟨fF,fL⟩ K:=
  SW.ecallx' (s:=⟨fF,fL⟩) h hx ha hna hb hk he2 hd kk
end Go.SW.V
namespace Go.SW
variable {P:Program} {n:Nat} {N:Rest} {H0:Env}
end Go.SW
namespace Go.SW.V
open Go.SW
variable {P:Program} {n:Nat} {N:Rest} {H0:Env} {fF:Nat->PV} {fL:Nat->Blk}
end Go.SW.V
namespace Go.SW
variable {P:Program}
def EqI (P:Program) (d:Nat) (e:TypeId) (k:Nat) (xs ys:List Value) (is:List Nat) (r:Bool):Prop:=∀ w,(Op.eqItems d e k xs.toArray ys.toArray is).run P w = .ok r w
theorem eqv_arr {d n k:Nat} {t e:TypeId} {xs ys:List Value} {r:Bool} (is:List Nat) (hu:P.underlying t=some (.array n e)) {de:TypeDesc} (he:P.underlying e=some de) (hk:P.cellsOf e=k) (hr:List.range n=is) (h:EqI P d e k xs ys is r):EqV P (d+1) t (.agg xs.toArray) (.agg ys.toArray) r:=fun w=>by
  obtain⟨i,hi⟩:=info_of_underlying he
  rw[run_equalIn_array w d xs.toArray ys.toArray hu hi,hk,hr]
  exact h w
theorem eqi_nil {d k:Nat} {e:TypeId} {xs ys:List Value}:EqI P d e k xs ys [] true:=fun w=>by simp[Op.eqItems]
theorem Z7_ {d k i:Nat} {e:TypeId} {xs ys:List Value} {is:List Nat} {a b:Value} {r r':Bool} (ha:∀ w,(part e xs.toArray (i*k)).run P w = .ok a w) (hb:∀ w,(part e ys.toArray (i*k)).run P w = .ok b w) (h:EqV P d e a b r) (kk:EqI P d e k xs ys is r'):EqI P d e k xs ys (i::is) (r&&r'):=fun w=>by
  simp only[Op.eqItems,Sem.run_bind,ha w,Result.andThen_ok,hb w,h w]
  cases r
  · simp
  · simpa using kk w
theorem M7_ {d k i:Nat} {e:TypeId} {xs ys:List Value} {is:List Nat} {a b:Value} {r r':Bool} (hg:Ag P e false) (hx:xs[i*k]? = some a) (hy:ys[i*k]? = some b) (h:EqV P d e a b r) (kk:EqI P d e k xs ys is r'):EqI P d e k xs ys (i::is) (r&&r'):=Z7_ (Xj_ hg hx) (Xj_ hg hy) h kk
theorem V3_ {d k i:Nat} {e:TypeId} {xs ys vs us:List Value} {is:List Nat} {r r':Bool} (hg:Ag P e true) (hk:Sz P e k) (hx:sub xs (i*k) k=vs) (hy:sub ys (i*k) k=us) (h:EqV P d e (.agg vs.toArray) (.agg us.toArray) r) (kk:EqI P d e k xs ys is r'):EqI P d e k xs ys (i::is) (r&&r'):=Z7_ (part_A hg hk hx) (part_A hg hk hy) h kk
end Go.SW
namespace Go.SW
variable {P:Program} {n:Nat} {N:Rest} {H0:Env}
theorem callgF' {all rest:List Oper} {Q:Qs} {ks:List Kt} {s:St} {f:FuncId} {args:List PV} {res:PV} {x:Operand} {xs:Array Operand} {ats:Array TypeId} {ty d j:Nat} {want g:Bool} {pos:String} {af:Array Edge} (hg:gOp s all j want=some g) (h:g=true->Fn P H0.g f args res) (ha:argsP (strG (Hb_ (x::xs.toList)) s.F) x xs.toList=some (f,args)) (hc:AllP (Kr_ s.F g (Hb_ (x::xs.toList)) [])) (hno:H3_ s.F (Hb_ (x::xs.toList))=true) (hd:Nat.blt d n=true)
    (k:(g=true->res.wf)->Hd P n N H0 Q (.ops all rest) ks ⟨updp s.F d (.gv g res),s.L⟩):Hd P n N H0 Q (.ops all (⟨some d, .call ⟨.value x,xs,ats⟩,ty,pos,af,some (j,want)⟩::rest)) ks s:=by
  intro F H L hab
  obtain⟨c,b,hy,hge⟩:=Pm_ hab hg
  refine ow_gd hy hd (fun e=>?_) (fun e=>?_)
  · have hgt:=hge.trans e
    have hF:=h hgt
    obtain⟨vs,h1,h2⟩:=Ho_ (ats:=ats) (Mp_ hab.f (fun t ht c v e=>(Io_ hc).2 t ht c v e hgt) (H4_ hno)) ha hF.cb
    refine Xi_ (hF.ph hab.g h1) h2 hd fun v H' hv hl=>?_
    refine k (fun _=>hv.wf) _ _ _ ((hab.mono hl).put d ?_)
    rw[hgt]
    exact Sim.gvt hv
  · have hgf:=hge.trans e
    refine k (fun e=>by rw[hgf] at e;cases e) _ _ _ (hab.put d ?_)
    rw[hgf]
    exact Sim.gvf
end Go.SW
namespace Go.SW.V
open Go.SW
variable {P:Program} {n:Nat} {N:Rest} {H0:Env} {fF:Nat->PV} {fL:Nat->Blk}
theorem callgF {all rest:List Oper} {Q:Qs} {ks:List Kt} {f:FuncId} {args:List PV} {res:PV} {x:Operand} {xs:Array Operand} {ats:Array TypeId} {ty d j:Nat} {want g:Bool} {pos:String} {af:Array Edge} (hg:gOp ⟨fF,fL⟩ all j want=some g) (h:g=true->Fn P H0.g f args res) (ha:argsP (strG (Hb_ (x::xs.toList)) fF) x xs.toList=some (f,args)) (hc:AllP (Kr_ fF g (Hb_ (x::xs.toList)) [])) (hno:H3_ fF (Hb_ (x::xs.toList))=true) (hd:Nat.blt d n=true)
    (k:(g=true->res.wf)->Hd P n N H0 Q (.ops all rest) ks ⟨updp fF d (.gv g res),fL⟩):Hd P n N H0 Q (.ops all (⟨some d, .call ⟨.value x,xs,ats⟩,ty,pos,af,some (j,want)⟩::rest)) ks ⟨fF,fL⟩:=SW.callgF' (s:=⟨fF,fL⟩) hg h ha hc hno hd k
end Go.SW.V
namespace Go.SW
def MlOk (m:Mail):Prop:=m.head.length<=8/\0<=m.hops/\m.hops<=4/\m.key.length<=64
def Pi_ (l:List ItemR):Prop:=(l.map fun x=>x.mail.id).Pairwise (· < ·)
def LnOk (l:LineR):Prop:=l.items.length<=64/\(∀ x∈l.items,MlOk x.mail)/\Pi_ l.items
def RiOk (x:RiseR):Prop:=x.kept.length<=16/\∀ m∈x.kept,m.head.length<=8
def RwsOk (l:List RowR):Prop:=l.length<=8/\(∀ r∈l,LnOk r.l)/\(l.map (·.q.name)).Nodup
def StkOk (s:E_):Prop:=RwsOk s.rows/\(∀ i,i<16->RiOk (s.rises.get i))/\0<=s.bytes/\s.bytes<=1000000
def BkOk (b:BookR):Prop:=b.shops.length<=8/\b.binds.length<=32/\∀ y∈b.binds,y.key.length<=1000
def PoOk (p:PolicyR):Prop:=0<p.places.length/\p.places.length<=16/\0<p.slots.length/\p.slots.length<=32/\p.grants.length<=8/\(∀ g∈p.grants,0<=g.frm/\g.frm<p.places.length/\0<=g.to'/\g.to'<p.places.length/\0<=g.budget/\g.budget<=16)/\∀ x∈p.places,0<=x.bytes/\x.bytes<=65536
def PrOk (x:K_):Prop:=BkOk x.book/\StkOk x.stock/\x.notes.kept.length<=32/\∀ i,i<8->0<=(x.spent.get i).count/\(x.spent.get i).count<=16
def DdOk (d:DeedR):Prop:=d.bind.key.length<=1000/\d.bind.want.length<=1000/\d.mail.head.length<=1000/\d.mail.key.length<=1000
def StOk (s:C_):Prop:=PrOk s.x/\PoOk s.policy/\0<=s.place/\s.place<s.policy.places.length
theorem Ok_:LnOk ⟨[]⟩:=⟨Nat.zero_le _,(fun _ h=>by cases h),List.Pairwise.nil⟩
theorem LnOk.sub {l m:LineR} (h:LnOk l) (hs:m.items.Sublist l.items):LnOk m:=⟨Nat.le_trans hs.length_le h.1,fun x hx=>h.2.1 x (hs.subset hx),h.2.2.sublist (hs.map _)⟩
theorem RwsOk.at {l:List RowR} (h:RwsOk l) {k:Nat} {x:RowR} (hx:l[k]? = some x):LnOk x.l:=h.2.1 x (List.mem_of_getElem? hx)
theorem L9_ {α β:Type} (f:α->β):∀ (l:List α) (k:Nat) (x y:α),l[k]? = some x->f y=f x->(l.set k y).map f=l.map f
  |[],_,_,_,h,_=>by cases h
  |a::r,0,x,y,h,e=>by simp at h;subst h;simp[e]
  |a::r,k+1,x,y,h,e=>by simpa using L9_ f r k x y (by simpa using h) e
theorem RwsOk.set {l:List RowR} (h:RwsOk l) {k:Nat} {x y:RowR} (hx:l[k]? = some x) (hn:y.q.name=x.q.name) (hy:LnOk y.l):RwsOk (l.set k y):=by
  refine⟨by simpa using h.1,fun r hr=>?_,?_⟩
  · rcases List.mem_or_eq_of_mem_set hr with q|q
    · exact h.2.1 r q
    · exact q ▸ hy
  · rw[L9_ (fun r:RowR=>r.q.name) l k x y hx hn];exact h.2.2
theorem RwsOk.sub {l m:List RowR} (h:RwsOk l) (hs:m.Sublist l):RwsOk m:=⟨Nat.le_trans hs.length_le h.1,fun r hr=>h.2.1 r (hs.subset hr),(hs.map _).nodup h.2.2⟩
theorem StkOk.set {s:E_} (h:StkOk s) {v:RiseR} (m:Nat) (hm:m<16) (hv:RiOk v):StkOk {s with rises:=s.rises.set v m}:=by
  refine⟨h.1,fun i hi=>?_,h.2.2⟩
  show RiOk ((s.rises.set v m).get i)
  rw[V.A16.get_set _ _ _ _ hm hi]
  split
  · exact hv
  · exact h.2.1 i hi
theorem StOk.stk {s:C_} (h:StOk s):StkOk s.x.stock:=h.1.2.1
end Go.SW
namespace Go.SW.V
open Go.SW
def Gg_ (l:List Bs) (s:Bs):(List Bs):=
 (bif decide (s∈l) then
 l
 else (l++[s]))
def By_ (b:BookR) (x:ShopR):BookR×Int:=
 (bif !decide ((Lo_ x)=0) then
 (b,Lo_ x)
 else (bif (((Ft_ b.shops x.name).isSome)&&(decide (x=((Ft_ b.shops x.name).getD ShopR.zero)))) then
 (b,0)
 else (bif (Ft_ b.shops x.name).isSome then
 (b,9)
 else (bif decide (8<=(b.shops.length:Int)) then
 (b,12)
 else ((⟨[b.shops,[x]].flatten,b.binds⟩:BookR),0)))))
def Dg_ (b:BookR) (x:BindR):Int:=
 (idxP (fun z_4:BindR=>decide (x=z_4)) b.binds)
theorem put_len (l:List Bs) (s:Bs):(Gg_ l s).length<=l.length+1:=by
  unfold Gg_
  cases decide (s∈l)<;>simp
theorem there_r (b:BookR) (x:BindR):-1<=Dg_ b x/\Dg_ b x<b.binds.length:=Hw_ _ _
def Ay_ (b:BookR) (x:BindR):BookR×Int:=
 (bif !((Ft_ b.shops x.shop).isSome) then
 (b,10)
 else (bif decide ((((Ft_ b.shops x.shop).getD ShopR.zero).sort)=4) then
 (b,8)
 else (bif !decide ((En_ x.to')=0) then
 (b,En_ x.to')
 else (bif !decide ((Se_ (J8_ x (((Ft_ b.shops x.shop).getD ShopR.zero).sort)))=0) then
 (b,Se_ (J8_ x (((Ft_ b.shops x.shop).getD ShopR.zero).sort)))
 else lt (Dg_ b x) fun r=>
 (bif decide (0<=r) then
 (b,0)
 else (bif decide (32<=(b.binds.length:Int)) then
 (b,12)
 else ((⟨b.shops,[b.binds,[x]].flatten⟩:BookR),0)))))))
def Al_ (b:BookR) (shop:Bs) (key:Bs) (h:List Pair):List BindR->List Bs->List Bs->(List Bs)×(List Bs)×Int
  |[],queues,places=>(queues,places,0)
  | x::t,queues,places=>(lt1 ((bif !decide ((x.shop)=shop) then
 (!decide ((x.shop)=shop))
 else (!(O3_ (J8_ x (((Ft_ b.shops shop).getD ShopR.zero).sort)) key h)))) (fun v=>
 (bif v then
 Al_ b shop key h t queues places
 else (bif x.up then
 lt (Gg_ places (x.to')) fun r=>
 Al_ b shop key h t queues r
 else lt (Gg_ queues (x.to')) fun r1=>
 Al_ b shop key h t r1 places))))
def A9_ (b:BookR) (shop:Bs) (key:Bs) (h:List Pair):(List Bs)×(List Bs)×Int:=
 (bif !((Ft_ b.shops shop).isSome) then
 ([],[],10)
 else (bif decide ((((Ft_ b.shops shop).getD ShopR.zero).sort)=4) then
 ([],[((Ft_ b.shops shop).getD ShopR.zero).to'],0)
 else Al_ b shop key h b.binds [] []))
def D1_ (l:List DeedR):List DeedR->Bool
  |[]=>(decide ((l.length:Int)<=40))
  | x::t=>(bif !(Oe_ x) then
 false
 else D1_ l t)
def Ju_ (l:List DeedR):Bool:=
 D1_ l l
def Cl_ (n:Int) (least:Int) (most:Int):Bool:=
 ((decide (least<=n))&&(decide (n<=most)))
def F7_ (a:LabelR) (b:LabelR):Bool:=
 ((decide (a.level<=b.level))&&(decide ((IntKind.wrap .u32 ((BitVec.ofInt (IntKind.bits .u32) a.set_ &&& ~~~ BitVec.ofInt (IntKind.bits .u32) b.set_).toNat))=0)))
def Ar_ (p:PolicyR) (i:Int):Bool:=
 (Cl_ i 0 ((p.places.length:Int)-1))
def Iy_ (x:PlaceR) (x1:Bs):Bool:=
 (decide (x.name=x1))
def G8_ (x:GrantR) (x1:Int) (x2:Int):Bool:=
 ((decide (x.frm=x1))&&(decide (x.to'=x2)))
def Ij_ (n:A4_):Int:=
 n.total
def Nq_ (p:PolicyR) (tick:Int):Int:=
 (tick/(p.slots.length:Int))
def H_ (m:Mail):Mail:=
 m
def Gz_ (m:Mail):Int:=
 ((B3_ m).length:Int)
def B7_ (x:ItemR):ItemR:=
 lt (H_ x.mail) fun r=>
 (⟨r,x.lent,x.again⟩:ItemR)
def U0_ (x0:Mail):Bool:=
 true
def Oh_ (x:ItemR) (x1:Int):Bool:=
 (decide (x.mail.id=x1))
def Eb_ (l:LineR):Int:=
 (l.items.length:Int)
def O7_ (m:Mail) (x1:Int):Bool:=
 ((!decide (m.due=0))&&(decide (m.due<=x1)))
def Gw_ (x:ItemR):Bool:=
 ((!x.lent)&&(U0_ x.mail))
def Gd_ (x:ItemR) (x1:Int):Bool:=
 ((!x.lent)&&(O7_ x.mail x1))
theorem To_ (m:Mail):0<=Gz_ m/\Gz_ m<=3000:=by
  have :=Ex_ m
  simp only[Gz_];omega
def Fd_ (p:PolicyR) (from_:Int) (to_:Int):Bool:=
 ((((!decide (from_=to_))&&(Ar_ p from_))&&(Ar_ p to_))&&(F7_ ((gt p.places ((from_).toNat)).label) ((gt p.places ((to_).toNat)).label)))
def Bo_ (p:PolicyR) (name:Bs):Int:=
 (idxP (fun z_4:PlaceR=>(Iy_ z_4 name)) p.places)
def Aj_ (p:PolicyR) (from_:Int) (to_:Int):Int:=
 (idxP (fun z_5:GrantR=>(G8_ z_5 from_ to_)) p.grants)
def Cu_ (n:A4_) (x:NoteR):A4_×Int:=
 (bif decide (64<(x.text.length:Int)) then
 (n,5)
 else (bif decide (n.total=18446744073709551615) then
 (n,18)
 else ((⟨(IntKind.wrap .u64 (n.total+1)),(([n.kept,[x]].flatten).drop ((max 0 ((([n.kept,[x]].flatten).length:Int)-32))).toNat)⟩:A4_),0)))
def F1_ (n:A4_) (number:Int):NoteR×Bool:=
 (bif ((decide (number<=(IntKind.wrap .u64 (n.total-(n.kept.length:Int)))))||(decide (n.total<number))) then
 ((⟨0,0,[]⟩:NoteR),false)
 else ((gt n.kept (((IntKind.wrap .u64 ((IntKind.wrap .u64 (number-(IntKind.wrap .u64 (n.total-(n.kept.length:Int)))))-1))).toNat)),true))
def Dn_ (l:LineR) (id:Int):Int:=
 (idxP (fun z_4:ItemR=>(Oh_ z_4 id)) l.items)
def Fb_ (l:LineR) (m:Mail):Int:=
 (bif !decide ((Gy_ m)=0) then
 (Gy_ m)
 else (bif ((decide (0<(l.items.length:Int)))&&(decide (m.id<=((gt l.items ((((l.items.length:Int)-1)).toNat)).mail.id)))) then
 13
 else (bif decide (64<=(l.items.length:Int)) then
 12
 else 0)))
def Dt_ (l:LineR):Int:=
 (idxP (fun z_4:ItemR=>(Gw_ z_4)) l.items)
def Ef_ (l:LineR) (so:Int):Int:=
 (idxP (fun z_4:ItemR=>(Gd_ z_4 so)) l.items)
theorem Ys_ {α:Type} [Inhabited α] {p:α->Bool} {l:List α} (h:0<=idxP p l):p (gt l (idxP p l).toNat)=true:=by
  have hb:=Hw_ p l
  exact (idxP_get (by omega) (getG (xs:=l) (k:=(idxP p l).toNat) (by omega))).1
theorem find_b (p:PolicyR) (n:Bs):-1<=Bo_ p n/\Bo_ p n<p.places.length:=Hw_ _ _
theorem Uk_ (p:PolicyR) (a b:Int):-1<=Aj_ p a b/\Aj_ p a b<p.grants.length:=Hw_ _ _
theorem grant_to {p:PolicyR} {a b:Int} (h:0<=Aj_ p a b):(gt p.grants (Aj_ p a b).toNat).frm=a/\(gt p.grants (Aj_ p a b).toNat).to'=b:=by
  have :=Ys_ h
  simp only[G8_,Bool.and_eq_true] at this
  exact⟨of_decide_eq_true this.1,of_decide_eq_true this.2⟩
theorem lof_b (l:LineR) (id:Int):-1<=Dn_ l id/\Dn_ l id<l.items.length:=Hw_ _ _
theorem lof_at {l:LineR} {id:Int} (h:0<=Dn_ l id):(gt l.items (Dn_ l id).toNat).mail.id=id:=by
  have :=Ys_ h
  exact of_decide_eq_true this
theorem Qc_ (l:LineR):-1<=Dt_ l/\Dt_ l<l.items.length:=Hw_ _ _
theorem Y3_ (l:LineR) (t:Int):-1<=Ef_ l t/\Ef_ l t<l.items.length:=Hw_ _ _
theorem W3_ {l:LineR} {m:Mail} (h:Fb_ l m=0):Gy_ m=0/\l.items.length<64/\(l.items.length=0\/(gt l.items ((l.items.length:Int)-1).toNat).mail.id<m.id):=by
  unfold Fb_ at h
  cases e1:decide (Gy_ m=0) with
  |false=>rw[e1] at h;simp at h;simp[h] at e1
  |true=>
    rw[e1] at h
    simp only[Bool.not_true,cond_false] at h
    cases e2:((decide (0<(l.items.length:Int)))&&(decide (m.id<=((gt l.items ((((l.items.length:Int)-1)).toNat)).mail.id)))) with
    |true=>rw[e2] at h;cases h
    |false=>
      rw[e2] at h
      cases e3:decide (64<=(l.items.length:Int)) with
      |true=>rw[e3] at h;cases h
      |false=>
        simp only[Bool.and_eq_false_iff,decide_eq_false_iff_not] at e2
        simp at e3 e1
        exact⟨e1,by omega,by omega⟩
theorem mlOk_of {m:Mail} (h:Gy_ m=0) (h0:0<=m.hops):MlOk m:=by
  obtain⟨_,h2,h3,_,h5⟩:=G6_ h
  exact⟨(La_ h3).1,h0,h5,h2⟩
theorem U6_ {n:A4_} {x:NoteR} (h:n.kept.length<=32):(Cu_ n x).1.kept.length<=32:=by
  unfold Cu_
  cases decide (64<(x.text.length:Int)) with
  |true=>exact h
  |false=>
    cases decide (n.total=18446744073709551615) with
    |true=>exact h
    |false=>simp;omega
end Go.SW.V
namespace Go.SW.V
open Go.SW
theorem V7_ {α:Type} [Inhabited α] {xs:List α} {k:Nat} {y:α} (h:k<xs.length):gt (xs.set k y) k=y:=by
  simp[gt,h]
end Go.SW.V
namespace Go.SW.V
open Go.SW
theorem Ul_ {p:PolicyR} (h:PoOk p) (a b:Int):0<=Aj_ p a b->0<=b/\b<p.places.length/\0<=(gt p.grants (Aj_ p a b).toNat).budget/\(gt p.grants (Aj_ p a b).toNat).budget<=16:=fun h0=>by
  have hb:=Uk_ p a b
  have ht:=grant_to h0
  have hg:=h.2.2.2.2.2.1 _ (List.mem_of_getElem? (getG (xs:=p.grants) (k:=(Aj_ p a b).toNat) (by omega)))
  omega
def Ew_ (l:LineR) (x:ItemR):LineR×Int:=
 lt (Fb_ l x.mail) fun r=>
 (bif !decide (r=0) then
 (l,r)
 else lt (B7_ x) fun r1=>
 ((⟨[l.items,[r1]].flatten⟩:LineR),0))
def De_ (l:LineR) (m:Mail):LineR×Int:=
 lt (Ew_ l (⟨m,false,false⟩:ItemR)) fun r=>
 (r.1,r.2)
def A1_ (l:LineR) (id:Int):LineR×ItemR×Int:=
 lt (Dn_ l id) fun r=>
 (bif decide (r<0) then
 (l,(⟨(⟨0,[],[],[],[],0,0⟩:Mail),false,false⟩:ItemR),10)
 else lt (B7_ (gt l.items ((r).toNat))) fun r1=>
 ((⟨[(l.items.take (r).toNat),(l.items.drop ((r+1)).toNat)].flatten⟩:LineR),r1,0))
def Cz_ (l:LineR) (k:Int):Mail×Bool:=
 (bif decide (k<0) then
 ((⟨0,[],[],[],[],0,0⟩:Mail),false)
 else lt (H_ ((gt l.items ((k).toNat)).mail)) fun r=>
 (r,true))
def Bv_:List ItemR->Int->Int
  |[],n=>n
  |x::t,n=>lt (Gz_ (x.mail)) fun r=>
 Bv_ t (n+r)
def E5_ (l:LineR):Int:=
 Bv_ l.items 0
def Db_ (l:LineR):LineR×ItemR×Bool:=
 lt (Dt_ l) fun r=>
 (bif decide (r<0) then
 (l,(⟨(⟨0,[],[],[],[],0,0⟩:Mail),false,false⟩:ItemR),false)
 else lt (B7_ (gt (l.items.set ((r).toNat) (⟨(gt l.items ((r).toNat)).mail,true,(gt l.items ((r).toNat)).again⟩:ItemR)) ((r).toNat))) fun r1=>
 ((⟨(l.items.set ((r).toNat) (⟨(gt l.items ((r).toNat)).mail,true,(gt l.items ((r).toNat)).again⟩:ItemR))⟩:LineR),r1,true))
def E3_ (l:LineR) (id:Int):LineR×Int:=
 lt (Dn_ l id) fun r=>
 (bif decide (r<0) then
 (l,10)
 else (bif !((gt l.items ((r).toNat)).lent) then
 (l,13)
 else ((⟨((l.items.set ((r).toNat) (⟨(gt l.items ((r).toNat)).mail,false,(gt l.items ((r).toNat)).again⟩:ItemR)).set ((r).toNat) (⟨(gt (l.items.set ((r).toNat) (⟨(gt l.items ((r).toNat)).mail,false,(gt l.items ((r).toNat)).again⟩:ItemR)) ((r).toNat)).mail,(gt (l.items.set ((r).toNat) (⟨(gt l.items ((r).toNat)).mail,false,(gt l.items ((r).toNat)).again⟩:ItemR)) ((r).toNat)).lent,true⟩:ItemR))⟩:LineR),0)))
def Ce_:List ItemR->Nat->LineR->LineR
  |[],k,x=>x
  | x1::t,k,x=>(bif x1.lent then
 Ce_ t (k+1) (⟨((x.items.set k (⟨(gt x.items k).mail,false,(gt x.items k).again⟩:ItemR)).set k (⟨(gt (x.items.set k (⟨(gt x.items k).mail,false,(gt x.items k).again⟩:ItemR)) k).mail,(gt (x.items.set k (⟨(gt x.items k).mail,false,(gt x.items k).again⟩:ItemR)) k).lent,true⟩:ItemR))⟩:LineR)
 else Ce_ t (k+1) x)
def Gj_ (l:LineR):LineR:=
 Ce_ l.items 0 l
def Ee_ (l:LineR):Mail×Bool:=
 lt (Cz_ l (Dt_ l)) fun r=>
 (r.1,r.2)
def E4_ (l:LineR) (tick:Int):Mail×Bool:=
 lt (Cz_ l (Ef_ l tick)) fun r=>
 (r.1,r.2)
def Df_:List ItemR->List ItemR->(List ItemR)
  |[],out=>out
  |x::t,out=>lt (B7_ x) fun r=>
 Df_ t (out++[r])
def Ea_ (l:LineR):(List ItemR):=
 Df_ l.items []
def Bp_ (x:RiseR) (m:Mail):RiseR×Int:=
 (bif !decide ((Gy_ m)=0) then
 (x,Gy_ m)
 else (bif decide (x.total=18446744073709551615) then
 (x,18)
 else lt (H_ m) fun r=>
 ((⟨(IntKind.wrap .u64 (x.total+1)),(([x.kept,[r]].flatten).drop ((max 0 ((([x.kept,[r]].flatten).length:Int)-16))).toNat)⟩:RiseR),0)))
def Ff_ (x:RiseR) (number:Int):Int×Mail×Bool:=
 (bif decide (x.total<=number) then
 (0,(⟨0,[],[],[],[],0,0⟩:Mail),false)
 else lt (H_ (gt x.kept (((IntKind.wrap .u64 ((max (IntKind.wrap .u64 ((IntKind.wrap .u64 (x.total-(x.kept.length:Int)))+1)) (IntKind.wrap .u64 (number+1)))-(IntKind.wrap .u64 ((IntKind.wrap .u64 (x.total-(x.kept.length:Int)))+1))))).toNat))) fun r=>
 ((max (IntKind.wrap .u64 ((IntKind.wrap .u64 (x.total-(x.kept.length:Int)))+1)) (IntKind.wrap .u64 (number+1))),r,true))
def J2_ (x:RiseR):Int:=
 x.total
def Bx_:List Mail->Int->Int
  |[],n=>n
  |x1::t,n=>lt (Gz_ x1) fun r=>
 Bx_ t (n+r)
def Du_ (x:RiseR):Int:=
 Bx_ x.kept 0
def Dx_ (base:Int) (bytes:Int):E_:=
 (⟨base,(max 0 bytes),[],(⟨(⟨0,[]⟩:RiseR),(⟨0,[]⟩:RiseR),(⟨0,[]⟩:RiseR),(⟨0,[]⟩:RiseR),(⟨0,[]⟩:RiseR),(⟨0,[]⟩:RiseR),(⟨0,[]⟩:RiseR),(⟨0,[]⟩:RiseR),(⟨0,[]⟩:RiseR),(⟨0,[]⟩:RiseR),(⟨0,[]⟩:RiseR),(⟨0,[]⟩:RiseR),(⟨0,[]⟩:RiseR),(⟨0,[]⟩:RiseR),(⟨0,[]⟩:RiseR),(⟨0,[]⟩:RiseR)⟩:A16_RiseR)⟩:E_)
def Do_ (q:QueueR):Int:=
 (bif !decide ((En_ q.name)=0) then
 (En_ q.name)
 else (bif ((decide (q.most<1))||(decide (64<q.most))) then
 7
 else (bif !decide (q.dead=[]) then
 (En_ q.dead)
 else 0)))
def Mm_ (x:RowR) (x1:Bs):Bool:=
 (decide (x.q.name=x1))
def X_ (s:E_) (name:Bs):Int:=
 (idxP (fun z_4:RowR=>(Mm_ z_4 name)) s.rows)
theorem bt {α:Type} {b:Bool} {x y:α} {P:α->Prop} (h1:b=true->P x) (h2:b=false->P y):P (bif b then x else y):=by
  cases b
  · exact h2 rfl
  · exact h1 rfl
theorem Sd_ {l:List ItemR} (h:Pi_ l) {i j:Nat} {x y:ItemR} (hi:l[i]? = some x) (hj:l[j]? = some y) (hij:i<j):x.mail.id<y.mail.id:=by
  have h1:=List.pairwise_iff_getElem.1 h i j
  obtain⟨a,rfl⟩:=List.getElem?_eq_some_iff.1 hi
  obtain⟨b,rfl⟩:=List.getElem?_eq_some_iff.1 hj
  have h2:=h1 (by simpa using a) (by simpa using b) hij
  rw[List.getElem_map,List.getElem_map] at h2
  exact h2
theorem rising_app {l:List ItemR} {x:ItemR} (h:Pi_ l) (hx:∀ y,l[l.length-1]? = some y->y.mail.id<x.mail.id):Pi_ (l++[x]):=by
  unfold Pi_
  rw[List.map_append,List.pairwise_append]
  refine⟨h,by simp,fun a ha b hb=>?_⟩
  obtain⟨y,hy,rfl⟩:=List.mem_map.1 ha
  simp at hb;subst hb
  obtain⟨i,hi⟩:=List.getElem?_of_mem hy
  have hil:=(List.getElem?_eq_some_iff.1 hi).1
  have hl:=List.getElem?_eq_getElem (l:=l) (i:=l.length-1) (by omega)
  have h1:=hx _ hl
  by_cases e:i=l.length-1
  · subst e;rw[hl] at hi;cases hi;exact h1
  · exact Int.lt_trans (Sd_ h hi hl (by omega)) h1
theorem lput_ok {l:LineR} {x:ItemR} (h:LnOk l) (h0:0<=x.mail.hops):LnOk (Ew_ l x).1:=by
  unfold Ew_ lt
  refine bt (P:=fun r:LineR×Int=>LnOk r.1) (fun _=>h) fun e=>?_
  simp only[Bool.not_eq_eq_eq_not,Bool.not_false,decide_eq_true_eq] at e
  obtain⟨h1,h2,h3⟩:=W3_ e
  refine⟨by simp;omega,fun y hy=>?_,?_⟩
  · simp[B7_,lt,H_] at hy
    rcases hy with hy|rfl
    · exact h.2.1 y hy
    · exact mlOk_of h1 h0
  · show Pi_ ([l.items,[B7_ x]].flatten)
    simp only[List.flatten_cons,List.flatten_nil,List.append_nil]
    refine rising_app h.2.2 fun y hy=>?_
    have hl:=(List.getElem?_eq_some_iff.1 hy).1
    rcases h3 with q|q
    · omega
    · have :((l.items.length:Int)-1).toNat=l.items.length-1:=by omega
      rw[this] at q
      rw[getG (xs:=l.items) (k:=l.items.length-1) (by omega)] at hy
      cases hy
      exact q
theorem Uw_ {l:LineR} {m:Mail} (h:LnOk l) (h0:0<=m.hops):LnOk (De_ l m).1:=lput_ok (x:=⟨m,false,false⟩) h h0
theorem Ge_:MlOk ⟨0,[],[],[],[],0,0⟩:=⟨by simp,by simp,by simp,by simp⟩
theorem Lt_ {α:Type} [Inhabited α] {xs:List α} {k:Nat} (h:k<xs.length):gt xs k∈xs:=List.mem_of_getElem? (getG h)
theorem T0_ {α:Type} (l:List α) (k:Nat):([l.take k,l.drop (k+1)].flatten).Sublist l:=by
  simp only[List.flatten_cons,List.flatten_nil,List.append_nil]
  have h:l=l.take k++l.drop k:=(List.take_append_drop k l).symm
  conv=>rhs;rw[h]
  refine List.Sublist.append (List.Sublist.refl _) ?_
  rw[<- List.drop_drop]
  exact List.drop_sublist 1 _
theorem Mx_ {l:LineR} {id:Int} (h:LnOk l):LnOk (A1_ l id).1/\MlOk (A1_ l id).2.1.mail:=by
  unfold A1_ lt
  refine bt (P:=fun r:LineR×ItemR×Int=>LnOk r.1/\MlOk r.2.1.mail) (fun _=>⟨h,Ge_⟩) fun e=>?_
  simp only[decide_eq_false_iff_not] at e
  have hb:=lof_b l id
  refine⟨h.sub ?_,?_⟩
  · have :(Dn_ l id+1).toNat=(Dn_ l id).toNat+1:=by omega
    rw[this];exact T0_ _ _
  · exact h.2.1 _ (Lt_ (by omega))
theorem Rp_ {l:LineR} {k:Nat} {y:ItemR} (h:LnOk l) (hk:k<l.items.length) (he:y.mail=(gt l.items k).mail):LnOk ⟨l.items.set k y⟩:=by
  have hm:=h.2.1 _ (Lt_ hk)
  refine⟨by simpa using h.1,fun x hx=>?_,?_⟩
  · rcases List.mem_or_eq_of_mem_set hx with q|q
    · exact h.2.1 x q
    · subst q;rw[he];exact hm
  · show Pi_ (l.items.set k y)
    unfold Pi_
    rw[L9_ (fun x:ItemR=>x.mail.id) l.items k _ y (getG hk) (by rw[he])]
    exact h.2.2
theorem Qa_ {l:LineR} (h:LnOk l):LnOk (Db_ l).1/\MlOk (Db_ l).2.1.mail:=by
  unfold Db_ lt
  refine bt (P:=fun r:LineR×ItemR×Bool=>LnOk r.1/\MlOk r.2.1.mail) (fun _=>⟨h,Ge_⟩) fun e=>?_
  simp only[decide_eq_false_iff_not] at e
  have hb:=Qc_ l
  have hm:=h.2.1 _ (Lt_ (xs:=l.items) (k:=(Dt_ l).toNat) (by omega))
  refine⟨Rp_ h (by omega) rfl,?_⟩
  simp only[B7_,lt,H_]
  rw[V7_ (by omega)]
  exact hm
theorem Ux_ {l:LineR} {id:Int} (h:LnOk l):LnOk (E3_ l id).1:=by
  unfold E3_ lt
  refine bt (P:=fun r:LineR×Int=>LnOk r.1) (fun _=>h) fun e=>?_
  refine bt (P:=fun r:LineR×Int=>LnOk r.1) (fun _=>h) fun _=>?_
  simp only[decide_eq_false_iff_not] at e
  have hb:=lof_b l id
  exact Rp_ (l:=⟨_⟩) (Rp_ h (by omega) rfl) (by simp;omega) rfl
theorem Rr_:∀ (t:List ItemR) (k:Nat) (l:LineR),LnOk l->k+t.length<=l.items.length->LnOk (Ce_ t k l)
  |[],_,_,h,_=>h
  |x::t,k,l,h,hk=>by
    simp only[List.length_cons] at hk
    unfold Ce_
    refine bt (P:=LnOk) (fun _=>Rr_ t (k+1) _ ?_ (by simp;omega)) (fun _=>Rr_ t (k+1) l h (by omega))
    exact Rp_ (l:=⟨_⟩) (Rp_ h (by omega) rfl) (by simp;omega) rfl
theorem lwake_ok {l:LineR} (h:LnOk l):LnOk (Gj_ l):=Rr_ l.items 0 l h (by omega)
theorem ltold_ok {l:LineR} {k:Int} (h:LnOk l) (hk:k<l.items.length):MlOk (Cz_ l k).1:=by
  unfold Cz_ lt
  refine bt (P:=fun r:Mail×Bool=>MlOk r.1) (fun _=>Ge_) fun e=>?_
  simp only[decide_eq_false_iff_not] at e
  exact h.2.1 _ (Lt_ (by omega))
theorem llate_ok {l:LineR} {t:Int} (h:LnOk l):MlOk (E4_ l t).1:=ltold_ok h (Y3_ l t).2
theorem lsize_r0:∀ (t:List ItemR) (n:Int),n<=Bv_ t n/\Bv_ t n<=n+3000*t.length
  |[],n=>⟨Int.le_refl _,by simp[Bv_]⟩
  |x::t,n=>by
    have h:=To_ x.mail
    have hi:=lsize_r0 t (n+Gz_ x.mail)
    simp only[Bv_,lt,List.length_cons]
    omega
theorem lsize_r (l:LineR):0<=E5_ l/\E5_ l<=3000*l.items.length:=by
  have :=lsize_r0 l.items 0
  simp only[E5_];omega
theorem rsize_r0:∀ (t:List Mail) (n:Int),n<=Bx_ t n/\Bx_ t n<=n+3000*t.length
  |[],n=>⟨Int.le_refl _,by simp[Bx_]⟩
  |x::t,n=>by
    have h:=To_ x
    have hi:=rsize_r0 t (n+Gz_ x)
    simp only[Bx_,lt,List.length_cons]
    omega
theorem Vc_ (x:RiseR):0<=Du_ x/\Du_ x<=3000*x.kept.length:=by
  have :=rsize_r0 x.kept 0
  simp only[Du_];omega
theorem Zi_ {x:RiseR} {m:Mail} (h:RiOk x):RiOk (Bp_ x m).1:=by
  unfold Bp_ lt
  refine bt (P:=fun r:RiseR×Int=>RiOk r.1) (fun _=>h) fun e=>?_
  refine bt (P:=fun r:RiseR×Int=>RiOk r.1) (fun _=>h) fun _=>?_
  simp only[Bool.not_eq_eq_eq_not,Bool.not_false,decide_eq_true_eq] at e
  have hm:=(La_ (G6_ e).2.2.1).1
  refine⟨by simp;omega,fun y hy=>?_⟩
  have hy:=List.mem_of_mem_drop hy
  simp[H_] at hy
  rcases hy with hy|rfl
  · exact h.2 y hy
  · exact hm
theorem at_b (s:E_) (n:Bs):-1<=X_ s n/\X_ s n<s.rows.length:=Hw_ _ _
theorem at_n {s:E_} {n:Bs} (h:0<=X_ s n):(gt s.rows (X_ s n).toNat).q.name=n:=by
  have :=Ys_ h
  exact of_decide_eq_true this
def A3_ (s:E_) (q:QueueR):E_×Int:=
 lt (Do_ q) fun r=>
 (bif !decide (r=0) then
 (s,r)
 else lt (X_ s q.name) fun r1=>
 (bif ((decide (0<=r1))&&(decide ((gt s.rows ((r1).toNat)).q=q))) then
 (s,0)
 else (bif decide (0<=r1) then
 (s,9)
 else (bif decide (8<=(s.rows.length:Int)) then
 (s,12)
 else ((⟨s.next,s.bytes,[s.rows,[(⟨q,(⟨[]⟩:LineR)⟩:RowR)]].flatten,s.rises⟩:E_),0)))))
def Di_ (s:E_) (name:Bs):E_×Int:=
 lt (X_ s name) fun r=>
 (bif decide (r<0) then
 (s,10)
 else ((⟨s.next,s.bytes,[(s.rows.take (r).toNat),(s.rows.drop ((r+1)).toNat)].flatten,s.rises⟩:E_),0))
def Ao_ (s:E_) (name:Bs):QueueR×Bool:=
 lt (X_ s name) fun r=>
 (bif decide (r<0) then
 ((⟨[],0,0,[]⟩:QueueR),false)
 else ((gt s.rows ((r).toNat)).q,true))
def Cw_:List RowR->List QueueR->(List QueueR)
  |[],out=>out
  |x::t,out=>Cw_ t (out++[x.q])
def Aq_ (s:E_):(List QueueR):=
 Cw_ s.rows []
def Ac_ (s:E_) (k:Int) (l:LineR):E_:=
 (⟨s.next,s.bytes,(s.rows.set ((k).toNat) (⟨(gt s.rows ((k).toNat)).q,l⟩:RowR)),s.rises⟩:E_)
def Dl_ (s:E_):Nat->Int->Nat->Int
  |0,_,_=>default
  | f2+1,n1,v=>(bif decide ((v:Int)<16) then
 lt (Du_ (A16.get s.rises v)) fun r1=>
 Dl_ s f2 (n1+r1) (v+1)
 else n1)
def Be_ (s:E_):List RowR->Int->Int
  |[],n=>Dl_ s (16-0+1) n 0
  |x::t,n=>lt (E5_ (x.l)) fun r=>
 Be_ s t (n+r)
def B9_ (s:E_):Int:=
 Be_ s s.rows 0
def Ja_ (s:E_):Int:=
 s.next
theorem ksize1 {s:E_} (h:∀ i,i<16->RiOk (s.rises.get i)):∀ (f:Nat) (n:Int) (v:Nat),16<f+v->v<=16->n<=Dl_ s f n v/\Dl_ s f n v<=n+48000*(16-v)
  |0,n,v,h1,h2=>by omega
  |f+1,n,v,h1,h2=>by
    unfold Dl_ lt
    refine bt (P:=fun r:Int=>n<=r/\r<=n+48000*(16-(v:Int))) (fun e=>?_) fun e=>⟨Int.le_refl _,by omega⟩
    simp only[decide_eq_true_eq] at e
    have hr:=Vc_ (s.rises.get v)
    have hk:=(h v (by omega)).1
    have hi:=ksize1 h f (n+Du_ (s.rises.get v)) (v+1) (by omega) (by omega)
    dsimp only
    omega
theorem ksize0 {s:E_} (h:∀ i,i<16->RiOk (s.rises.get i)):∀ (t:List RowR) (n:Int),(∀ r∈t,LnOk r.l)->n<=Be_ s t n/\Be_ s t n<=n+192000*t.length+768000
  |[],n,_=>by
    have :=ksize1 h (16-0+1) n 0 (by omega) (by omega)
    simp only[Be_,List.length_nil];omega
  |x::t,n,hl=>by
    have hr:=lsize_r x.l
    have hk:=(hl x (List.mem_cons_self ..)).1
    have hi:=ksize0 h t (n+E5_ x.l) fun r hr=>hl r (List.mem_cons_of_mem _ hr)
    simp only[Be_,lt,List.length_cons]
    omega
theorem Yy_ (s:E_) (h:StkOk s):0<=B9_ s/\B9_ s<=2304000:=by
  have :=ksize0 h.2.1 s.rows 0 h.1.2.1
  have :=h.1.1
  simp only[B9_];omega
theorem at_neg {s:E_} {n:Bs} (h:X_ s n<0):∀ x∈s.rows,x.q.name≠n:=fun x hx e=>by
  have :=Up_ h
  rw[List.find?_eq_none] at this
  exact this x hx (decide_eq_true e)
theorem Lg_ {s:E_} {q:QueueR} (h:StkOk s):StkOk (A3_ s q).1:=by
  unfold A3_ lt
  refine bt (P:=fun r:E_×Int=>StkOk r.1) (fun _=>h) fun _=>?_
  refine bt (P:=fun r:E_×Int=>StkOk r.1) (fun _=>h) fun _=>?_
  refine bt (P:=fun r:E_×Int=>StkOk r.1) (fun _=>h) fun e=>?_
  refine bt (P:=fun r:E_×Int=>StkOk r.1) (fun _=>h) fun e1=>?_
  simp only[decide_eq_false_iff_not] at e e1
  have hn:=at_neg (s:=s) (n:=q.name) (by omega)
  refine⟨⟨by simp;omega,fun r hr=>?_,?_⟩,h.2⟩
  · simp at hr
    rcases hr with hr|rfl
    · exact h.1.2.1 r hr
    · exact Ok_
  · simp only[List.flatten_cons,List.flatten_nil,List.append_nil,List.map_append,List.map_cons,List.map_nil]
    rw[List.nodup_append]
    refine⟨h.1.2.2,by simp,fun a ha b hb=>?_⟩
    obtain⟨x,hx,rfl⟩:=List.mem_map.1 ha
    rw[List.mem_singleton.1 hb]
    exact hn x hx
theorem Us_ {s:E_} {n:Bs} (h:StkOk s):StkOk (Di_ s n).1:=by
  unfold Di_ lt
  refine bt (P:=fun r:E_×Int=>StkOk r.1) (fun _=>h) fun e=>?_
  simp only[decide_eq_false_iff_not] at e
  have :(X_ s n+1).toNat=(X_ s n).toNat+1:=by omega
  refine⟨h.1.sub ?_,h.2⟩
  show List.Sublist [s.rows.take _,s.rows.drop _].flatten _
  rw[this];exact T0_ _ _
theorem Lh_ {s:E_} {k:Int} {l:LineR} (h:StkOk s) (hl:LnOk l) (hk:0<=k/\k<s.rows.length):StkOk (Ac_ s k l):=
  ⟨h.1.set (getG (by omega)) rfl hl,h.2⟩
theorem kroom_r0 {s:E_} (h:StkOk s):-2304000<=s.bytes-B9_ s/\s.bytes-B9_ s<=1000000:=by
  have :=Yy_ s h
  have :=h.2.2
  omega
end Go.SW.V
namespace Go.SW.V
open Go.SW
theorem H1_ (s:E_) (k:Int) (l:LineR):(Ac_ s k l).rows.length=s.rows.length:=by simp[Ac_]
def Fk_ (s:E_):Int:=
 (s.bytes-(B9_ s))
theorem kroom_r (s:E_) (h:StkOk s):-2304000<=Fk_ s/\Fk_ s<=1000000:=kroom_r0 h
def Az_ (s:E_) (name:Bs) (m:Mail):E_×Int×Mail×Int:=
 lt (X_ s name) fun r=>
 (bif decide (r<0) then
 (s,0,(⟨0,[],[],[],[],0,0⟩:Mail),10)
 else (bif !decide ((Gy_ m)=0) then
 (s,0,(⟨0,[],[],[],[],0,0⟩:Mail),Gy_ m)
 else (bif decide (s.next = 0) then
 (s,0,(⟨0,[],[],[],[],0,0⟩:Mail),18)
 else (lp2 ((bif decide (((gt s.rows ((r).toNat)).q.most)<=(IntKind.wrap .u64 (Eb_ ((gt s.rows ((r).toNat)).l)))) then
 lt (Ee_ ((gt s.rows ((r).toNat)).l)) fun r1=>
 (bif !r1.2 then
 .ret (s,0,(⟨0,[],[],[],[],0,0⟩:Mail),12)
 else lt (A1_ ((gt s.rows ((r).toNat)).l) r1.1.id) fun r2=>
 .fin (r2.1,r1.1))
 else .fin ((gt s.rows ((r).toNat)).l,(⟨0,[],[],[],[],0,0⟩:Mail)))) (fun x x1=>
 (bif decide (((Fk_ s)+(Gz_ x1))<(Gz_ (⟨s.next,m.shop,m.key,m.head,m.body,m.due,m.hops⟩:Mail))) then
 (s,0,(⟨0,[],[],[],[],0,0⟩:Mail),12)
 else lt (De_ x (⟨s.next,m.shop,m.key,m.head,m.body,m.due,m.hops⟩:Mail)) fun r3=>
 (bif !decide (r3.2=0) then
 (s,0,(⟨0,[],[],[],[],0,0⟩:Mail),r3.2)
 else lt (Ac_ s r r3.1) fun r4=>
 ((⟨(IntKind.wrap .u64 (r4.next + 1)),r4.bytes,r4.rows,r4.rises⟩:E_),s.next,x1,0)))) (fun r=>r)))))
def B8_ (s:E_) (name:Bs):E_×ItemR×Bool:=
 lt (X_ s name) fun r=>
 (bif decide (r<0) then
 (s,(⟨(⟨0,[],[],[],[],0,0⟩:Mail),false,false⟩:ItemR),false)
 else lt (Db_ ((gt s.rows ((r).toNat)).l)) fun r1=>
 lt (Ac_ s r r1.1) fun r2=>
 (r2,r1.2.1,r1.2.2))
def Dh_ (s:E_) (name:Bs) (id:Int):E_×Int:=
 lt (X_ s name) fun r=>
 (bif decide (r<0) then
 (s,10)
 else lt (E3_ ((gt s.rows ((r).toNat)).l) id) fun r1=>
 lt (Ac_ s r r1.1) fun r2=>
 (r2,r1.2))
def Ad_ (s:E_) (name:Bs) (id:Int):E_×ItemR×Int:=
 lt (X_ s name) fun r=>
 (bif decide (r<0) then
 (s,(⟨(⟨0,[],[],[],[],0,0⟩:Mail),false,false⟩:ItemR),10)
 else lt (A1_ ((gt s.rows ((r).toNat)).l) id) fun r1=>
 lt (Ac_ s r r1.1) fun r2=>
 (r2,r1.2.1,r1.2.2))
def Bm_ (s:E_) (place:Int) (m:Mail):E_×Int:=
 (bif ((decide (place<0))||(decide (16<=place))) then
 (s,7)
 else lt (Bp_ (A16.get s.rises ((place).toNat)) m) fun r=>
 (bif !decide (r.2=0) then
 (s,r.2)
 else (bif decide (s.bytes<(((B9_ s)-(Du_ (A16.get s.rises ((place).toNat))))+(Du_ (r.1)))) then
 (s,12)
 else ((⟨s.next,s.bytes,s.rows,(A16.set s.rises (r.1) ((place).toNat))⟩:E_),0))))
def As_ (tick:Int):List RowR->Bs×Mail×Bool
  |[]=>([],(⟨0,[],[],[],[],0,0⟩:Mail),false)
  |x::t=>lt (E4_ (x.l) tick) fun r=>
 (bif r.2 then
 (x.q.name,r.1,true)
 else As_ tick t)
def Z_ (s:E_) (tick:Int):Bs×Mail×Bool:=
 As_ tick s.rows
def Br_:List RowR->Nat->E_->E_
  |[],k,x=>x
  |x1::t,k,x=>lt (Gj_ (x1.l)) fun r=>
 lt (Ac_ x (k:Int) r) fun r1=>
 Br_ t (k+1) r1
def Er_ (s:E_):E_:=
 Br_ s.rows 0 s
def LoP {σ ρ:Type} (I:σ->Prop) (R:ρ->Prop):Lo σ ρ->Prop
  | .fin s=>I s
  | .ret r=>R r
theorem lp0E {ρ β:Type} {P:β->Prop} {o:Lo Unit ρ} {f:β} {g:ρ->β} (I:Unit->Prop) (ho:LoP I (fun r=>P (g r)) o) (hf:I ()->P f):P (lp0 o f g):=by
  cases o with
  |fin s=>exact hf ho
  |ret r=>exact ho
theorem lp1E {σ ρ β:Type} {P:β->Prop} {o:Lo σ ρ} {f:σ->β} {g:ρ->β} (I:σ->Prop) (ho:LoP I (fun r=>P (g r)) o) (hf:∀ a,I a->P (f a)):P (lp1 o f g):=by
  cases o with
  |fin s=>exact hf _ ho
  |ret r=>exact ho
theorem lp2E {σ τ ρ β:Type} {P:β->Prop} {o:Lo (σ×τ) ρ} {f:σ->τ->β} {g:ρ->β} (I:σ×τ->Prop) (ho:LoP I (fun r=>P (g r)) o) (hf:∀ a b,I (a,b)->P (f a b)):P (lp2 o f g):=by
  cases o with
  |fin s=>exact hf _ _ ho
  |ret r=>exact ho
def wtm (m:Mail):Nat:=33 ^ (5-m.hops.toNat)
def wtl (l:List ItemR):Nat:=(l.map fun x=>wtm x.mail).sum
def wtk (s:E_):Nat:=(s.rows.map fun r=>wtl r.l.items).sum
def wto (l:List OutR):Nat:=(l.map fun x=>wtm x.mail).sum
def wt1 (m:Mail):Nat:=bif decide (m.shop=[]) then 0 else wtm m
theorem sum_cut {α:Type} [Inhabited α] (f:α->Nat) (l:List α) (k:Nat) (h:k<l.length):(([l.take k,l.drop (k+1)].flatten).map f).sum+f (gt l k)=(l.map f).sum:=by
  have e:l=l.take k++(gt l k::l.drop (k+1)):=by
    conv=>lhs;rw[<- List.take_append_drop k l]
    congr 1
    rw[List.drop_eq_getElem_cons h]
    congr 1
    simp[gt,h]
  have e2:(l.map f).sum=((l.take k++(gt l k::l.drop (k+1))).map f).sum:=by rw[<- e]
  rw[e2]
  simp only[List.flatten_cons,List.flatten_nil,List.append_nil,List.map_append,List.map_cons,List.sum_append,List.sum_cons]
  omega
theorem Zp_ {α:Type} [Inhabited α] (f:α->Nat):∀ (l:List α) (k:Nat) (y:α),k<l.length->((l.set k y).map f).sum+f (gt l k)=(l.map f).sum+f y
  |[],k,y,h=>by cases h
  |a::r,0,y,h=>by simp[gt];omega
  |a::r,k+1,y,h=>by
    have :=Zp_ f r k y (by simpa using h)
    simp only[List.set_cons_succ,List.map_cons,List.sum_cons]
    have e:gt (a::r) (k+1)=gt r k:=by simp[gt]
    rw[e];omega
theorem lof_self {l:LineR} (h:LnOk l) {k:Nat} (hk:k<l.items.length):Dn_ l (gt l.items k).mail.id=k:=by
  have h0:0<=Dn_ l (gt l.items k).mail.id:=by
    refine Int.not_lt.1 fun q=>?_
    have :=Up_ q
    rw[List.find?_eq_none] at this
    exact this _ (Lt_ hk) (decide_eq_true rfl)
  have hb:=lof_b l (gt l.items k).mail.id
  have ha:=lof_at h0
  obtain⟨j,hj⟩:∃ j:Nat,Dn_ l (gt l.items k).mail.id=j:=⟨_,(Int.toNat_of_nonneg h0).symm⟩
  rw[hj] at ha hb ⊢
  simp only[Int.toNat_natCast] at ha
  have hjl:j<l.items.length:=by omega
  rcases Nat.lt_trichotomy j k with q|q|q
  · have :=Sd_ h.2.2 (getG hjl) (getG hk) q;omega
  · rw[q]
  · have :=Sd_ h.2.2 (getG hk) (getG hjl) q;omega
theorem lfirst_at {l:LineR} (h:(Ee_ l).2=true):∃ k:Nat,k<l.items.length/\(Ee_ l).1=(gt l.items k).mail:=by
  have hb:=Qc_ l
  unfold Ee_ lt Cz_ lt at h ⊢
  dsimp only at h ⊢
  cases e:decide (Dt_ l<0) with
  |true=>rw[e] at h;cases h
  |false=>
    simp only[decide_eq_false_iff_not] at e
    exact⟨(Dt_ l).toNat,by omega,rfl⟩
theorem lremove_w {l:LineR} (h:LnOk l) {k:Nat} (hk:k<l.items.length):wtl (A1_ l (gt l.items k).mail.id).1.items+wtm (gt l.items k).mail=wtl l.items:=by
  unfold A1_ lt
  dsimp only
  rw[lof_self h hk]
  have e:decide ((k:Int)<0)=false:=by simp
  rw[e]
  have :=sum_cut (fun x:ItemR=>wtm x.mail) l.items k hk
  exact this
theorem ladd_w {l:LineR} {m:Mail} (h:(De_ l m).2=0):wtl (De_ l m).1.items=wtl l.items+wtm m:=by
  unfold De_ Ew_ lt at h ⊢
  dsimp only at h ⊢
  cases e:decide (Fb_ l m=0) with
  |false=>rw[e] at h;simp at h;simp[h] at e
  |true=>
    simp[wtl,B7_,lt,H_]
theorem kwith_w {s:E_} {k:Int} {l:LineR} (hk:0<=k/\k<s.rows.length):wtk (Ac_ s k l)+wtl (gt s.rows k.toNat).l.items=wtk s+wtl l.items:=
  Zp_ (fun r:RowR=>wtl r.l.items) s.rows k.toNat ⟨(gt s.rows k.toNat).q,l⟩ (by omega)
theorem Uv_ {s:E_} {n:Bs} {m:Mail} (h:StkOk s) (h0:0<=m.hops):StkOk (Az_ s n m).1/\MlOk (Az_ s n m).2.2.1/\((Az_ s n m).2.2.2=0->Gy_ m=0/\wtk (Az_ s n m).1+wt1 (Az_ s n m).2.2.1<=wtk s+wtm m):=by
  unfold Az_ lt
  let Q:E_×Int×Mail×Int->Prop:=fun r=>StkOk r.1/\MlOk r.2.2.1/\(r.2.2.2=0->Gy_ m=0/\wtk r.1+wt1 r.2.2.1<=wtk s+wtm m)
  have hno:∀ e:Int,e≠0->Q (s,0,⟨0,[],[],[],[],0,0⟩,e):=fun e he=>⟨h,Ge_,fun q=>(he q).elim⟩
  refine bt (P:=Q) (fun _=>hno _ (by decide)) fun e=>?_
  refine bt (P:=Q) (fun e=>hno _ (by simpa using e)) fun ec=>?_
  refine bt (P:=Q) (fun _=>hno _ (by decide)) fun _=>?_
  simp only[decide_eq_false_iff_not] at e
  have ec':Gy_ m=0:=by simpa using ec
  have hb:=at_b s n
  obtain⟨k,hk⟩:∃ k:Nat,X_ s n=k:=⟨_,(Int.toNat_of_nonneg (by omega)).symm⟩
  rw[hk] at hb ⊢
  simp only[Int.toNat_natCast]
  have hl:LnOk (gt s.rows k).l:=RwsOk.at h.1 (getG (by omega))
  refine lp2E (P:=Q) (fun q=>LnOk q.1/\MlOk q.2/\wtl q.1.items+wt1 q.2<=wtl (gt s.rows k).l.items) ?_ fun x x1 hx=>?_
  · refine bt (P:=LoP _ _) (fun _=>?_) fun _=>⟨hl,Ge_,by simp[wt1]⟩
    refine bt (P:=LoP _ _) (fun _=>hno _ (by decide)) fun e2=>?_
    obtain⟨j,hj,he⟩:=lfirst_at (l:=(gt s.rows k).l) (by simpa using e2)
    have hw:=lremove_w hl hj
    show LnOk _/\MlOk _/\_
    rw[he]
    refine⟨(Mx_ hl).1,hl.2.1 _ (Lt_ hj),?_⟩
    have :wt1 (gt (gt s.rows k).l.items j).mail<=wtm (gt (gt s.rows k).l.items j).mail:=by
      unfold wt1
      cases decide ((gt (gt s.rows k).l.items j).mail.shop=[])<;>simp
    simp only
    omega
  · obtain⟨hx1,hx2,hx3⟩:=hx
    refine bt (P:=Q) (fun _=>hno _ (by decide)) fun _=>?_
    refine bt (P:=Q) (fun e3=>hno _ (by simpa using e3)) fun e3=>?_
    have e3':(De_ x ⟨s.next,m.shop,m.key,m.head,m.body,m.due,m.hops⟩).2=0:=by simpa using e3
    have ha:=ladd_w e3'
    have hok:=Uw_ (l:=x) (m:=⟨s.next,m.shop,m.key,m.head,m.body,m.due,m.hops⟩) hx1 h0
    have hw:=kwith_w (s:=s) (k:=(k:Int)) (l:=(De_ x ⟨s.next,m.shop,m.key,m.head,m.body,m.due,m.hops⟩).1) (by omega)
    have hs:=Lh_ (k:=(k:Int)) h hok (by omega)
    refine⟨hs,hx2,fun _=>⟨ec',?_⟩⟩
    simp only[Int.toNat_natCast] at hw
    show wtk (Ac_ s k _)+wt1 x1<=_
    have he:wtm ⟨s.next,m.shop,m.key,m.head,m.body,m.due,m.hops⟩=wtm m:=rfl
    rw[he] at ha
    have hx4:wtl x.items+wt1 x1<=wtl (gt s.rows k).l.items:=hx3
    rw[ha] at hw
    omega
theorem klend_ok {s:E_} {n:Bs} (h:StkOk s):StkOk (B8_ s n).1/\MlOk (B8_ s n).2.1.mail:=by
  unfold B8_ lt
  refine bt (P:=fun r:E_×ItemR×Bool=>StkOk r.1/\MlOk r.2.1.mail) (fun _=>⟨h,Ge_⟩) fun e=>?_
  simp only[decide_eq_false_iff_not] at e
  have hb:=at_b s n
  have hl:=Qa_ (RwsOk.at h.1 (getG (xs:=s.rows) (k:=(X_ s n).toNat) (by omega)))
  exact⟨Lh_ h hl.1 (by omega),hl.2⟩
theorem kback_ok {s:E_} {n:Bs} {id:Int} (h:StkOk s):StkOk (Dh_ s n id).1:=by
  unfold Dh_ lt
  refine bt (P:=fun r:E_×Int=>StkOk r.1) (fun _=>h) fun e=>?_
  simp only[decide_eq_false_iff_not] at e
  have hb:=at_b s n
  exact Lh_ h (Ux_ (RwsOk.at h.1 (getG (xs:=s.rows) (k:=(X_ s n).toNat) (by omega)))) (by omega)
theorem Jn_ {s:E_} {n:Bs} {id:Int} (h:StkOk s):StkOk (Ad_ s n id).1/\MlOk (Ad_ s n id).2.1.mail:=by
  unfold Ad_ lt
  refine bt (P:=fun r:E_×ItemR×Int=>StkOk r.1/\MlOk r.2.1.mail) (fun _=>⟨h,Ge_⟩) fun e=>?_
  simp only[decide_eq_false_iff_not] at e
  have hb:=at_b s n
  have hl:=Mx_ (id:=id) (RwsOk.at h.1 (getG (xs:=s.rows) (k:=(X_ s n).toNat) (by omega)))
  exact⟨Lh_ h hl.1 (by omega),hl.2⟩
theorem Wh_ {s:E_} {p:Int} {m:Mail} (h:StkOk s):StkOk (Bm_ s p m).1/\(Bm_ s p m).1.rows=s.rows:=by
  unfold Bm_ lt
  let Q:E_×Int->Prop:=fun r=>StkOk r.1/\r.1.rows=s.rows
  refine bt (P:=Q) (fun _=>⟨h,rfl⟩) fun e=>?_
  refine bt (P:=Q) (fun _=>⟨h,rfl⟩) fun _=>?_
  refine bt (P:=Q) (fun _=>⟨h,rfl⟩) fun _=>?_
  simp only[Bool.or_eq_false_iff,decide_eq_false_iff_not] at e
  exact⟨h.set p.toNat (by omega) (Zi_ (h.2.1 _ (by omega))),rfl⟩
theorem Wi_:∀ (t:List RowR) (k:Nat) (s:E_),StkOk s->(∀ r∈t,LnOk r.l)->k+t.length<=s.rows.length->StkOk (Br_ t k s)
  |[],_,_,h,_,_=>h
  |x::t,k,s,h,hl,hk=>by
    simp only[List.length_cons] at hk
    unfold Br_ lt
    refine Wi_ t (k+1) _ (Lh_ h (lwake_ok (hl x (List.mem_cons_self ..))) (by omega)) (fun r hr=>hl r (List.mem_cons_of_mem _ hr)) ?_
    simp[Ac_];omega
theorem kwake_ok {s:E_} (h:StkOk s):StkOk (Er_ s):=Wi_ s.rows 0 s h h.1.2.1 (by omega)
theorem Wf_ {t:Int}:∀ (l:List RowR),(∀ r∈l,LnOk r.l)->MlOk (As_ t l).2.1
  |[],_=>Ge_
  |x::l,h=>by
    unfold As_ lt
    refine bt (P:=fun r:Bs×Mail×Bool=>MlOk r.2.1) (fun _=>llate_ok (h x (List.mem_cons_self ..))) (fun _=>Wf_ l fun r hr=>h r (List.mem_cons_of_mem _ hr))
theorem Uu_ {s:E_} {t:Int} (h:StkOk s):MlOk (Z_ s t).2.1:=Wf_ s.rows h.1.2.1
def A0_ (so_p:BindR->Bool):List BindR->List BindR->(List BindR)
  |[],out=>out
  | x::t,out=>(bif so_p x then
 A0_ so_p t (out++[x])
 else A0_ so_p t out)
def Fg_ (b:BookR) (so_p:BindR->Bool):(List BindR):=
 A0_ so_p b.binds []
def J9_ (x:BindR) (x1:Bs):Bool:=
 (x.up||(!decide (x.to'=x1)))
def E8_ (b:BookR) (queue:Bs):BookR:=
 lt (Fg_ b (fun z_5:BindR=>(J9_ z_5 queue))) fun r=>
 (⟨b.shops,r⟩:BookR)
def B4_ (x:ShopR) (x1:Bs):Bool:=
 (decide (x.name=x1))
def Ms_ (x:BindR) (x1:Bs):Bool:=
 (!decide (x.shop=x1))
def Dw_ (b:BookR) (name:Bs):BookR×Int:=
 (bif decide ((idxP (fun z_5:ShopR=>(B4_ z_5 name)) b.shops)<0) then
 (b,10)
 else lt (Fg_ (⟨[(b.shops.take (idxP (fun z_5:ShopR=>(B4_ z_5 name)) b.shops).toNat),(b.shops.drop (((idxP (fun z_5:ShopR=>(B4_ z_5 name)) b.shops)+1)).toNat)].flatten,b.binds⟩:BookR) (fun z_18:BindR=>(Ms_ z_18 name))) fun r=>
 ((⟨[(b.shops.take (idxP (fun z_5:ShopR=>(B4_ z_5 name)) b.shops).toNat),(b.shops.drop (((idxP (fun z_5:ShopR=>(B4_ z_5 name)) b.shops)+1)).toNat)].flatten,r⟩:BookR),0))
def C5_ (b:BookR) (x:BindR):BookR×Int:=
 lt (Dg_ b x) fun r=>
 (bif decide (r<0) then
 (b,10)
 else ((⟨b.shops,[(b.binds.take (r).toNat),(b.binds.drop ((r+1)).toNat)].flatten⟩:BookR),0))
def Fa_ (p:PolicyR) (place:Int) (x:K_):C_:=
 (⟨x,p,place⟩:C_)
def A8_ (p:PolicyR) (place:Int):C_:=
 lt (Dx_ ((gt p.places ((place).toNat)).base) ((gt p.places ((place).toNat)).bytes)) fun r=>
 lt (Fa_ p place (⟨(⟨[],[]⟩:BookR),r,(⟨0,[]⟩:A4_),(⟨0,0,0,0,0,0,0,0,0,0,0,0,0,0,0,0⟩:A16_u64),(⟨(⟨0,0⟩:O_),(⟨0,0⟩:O_),(⟨0,0⟩:O_),(⟨0,0⟩:O_),(⟨0,0⟩:O_),(⟨0,0⟩:O_),(⟨0,0⟩:O_),(⟨0,0⟩:O_)⟩:A8_SpentR)⟩:K_)) fun r1=>
 r1
def K5_ (own:Int) (tick:Int) (life:Int):Int:=
 (bif ((decide (life=0))||(decide ((IntKind.wrap .u64 (18446744073709551615-tick))<life))) then
 own
 else (bif decide (own=0) then
 (IntKind.wrap .u64 (tick+life))
 else (min own (IntKind.wrap .u64 (tick+life)))))
def C6_ (s:C_):K_:=
 s.x
def Bn_ (s:C_) (tick:Int) (kind:Int) (text:Bs):C_:=
 lt (Cu_ s.x.notes (⟨tick,kind,text⟩:NoteR)) fun r=>
 (⟨(⟨s.x.book,s.x.stock,r.1,s.x.seen,s.x.spent⟩:K_),s.policy,s.place⟩:C_)
theorem Ut_ (p:BindR->Bool):∀ (t out:List BindR),A0_ p t out=out++t.filter p
  |[],out=>by simp[A0_]
  |x::t,out=>by
    unfold A0_
    cases e:p x with
    |true=>simp[Ut_ p t,e]
    |false=>simp[Ut_ p t,e]
theorem keep_eq (b:BookR) (p:BindR->Bool):Fg_ b p=b.binds.filter p:=by simp[Fg_,Ut_]
theorem Vq_ {b:BookR} (h:BkOk b) (p:BindR->Bool) (l:List ShopR) (hl:l.length<=8):BkOk ⟨l,b.binds.filter p⟩:=
  ⟨hl,Nat.le_trans (List.length_filter_le ..) h.2.1,fun y hy=>h.2.2 y (List.mem_filter.1 hy).1⟩
theorem bforget_ok {b:BookR} {q:Bs} (h:BkOk b):BkOk (E8_ b q):=by
  unfold E8_ lt
  rw[keep_eq]
  exact Vq_ h _ _ h.1
theorem bdrop_ok {b:BookR} {n:Bs} (h:BkOk b):BkOk (Dw_ b n).1:=by
  unfold Dw_ lt
  refine bt (P:=fun r:BookR×Int=>BkOk r.1) (fun _=>h) fun e=>?_
  simp only[decide_eq_false_iff_not] at e
  dsimp only
  rw[keep_eq]
  refine Vq_ h _ _ ?_
  have hs:=h.1
  have hc:=(T0_ b.shops (idxP (fun z_5:ShopR=>B4_ z_5 n) b.shops).toNat).length_le
  have :(idxP (fun z_5:ShopR=>B4_ z_5 n) b.shops+1).toNat=(idxP (fun z_5:ShopR=>B4_ z_5 n) b.shops).toNat+1:=by omega
  rw[this];omega
theorem bunbind_ok {b:BookR} {x:BindR} (h:BkOk b):BkOk (C5_ b x).1:=by
  unfold C5_ lt
  refine bt (P:=fun r:BookR×Int=>BkOk r.1) (fun _=>h) fun e=>?_
  simp only[decide_eq_false_iff_not] at e
  have hc:=T0_ b.binds (Dg_ b x).toNat
  have :(Dg_ b x+1).toNat=(Dg_ b x).toNat+1:=by omega
  dsimp only
  rw[this]
  exact⟨h.1,Nat.le_trans hc.length_le h.2.1,fun y hy=>h.2.2 y (hc.subset hy)⟩
theorem bmake_ok {b:BookR} {x:ShopR} (h:BkOk b):BkOk (By_ b x).1:=by
  unfold By_
  refine bt (P:=fun r:BookR×Int=>BkOk r.1) (fun _=>h) fun _=>?_
  refine bt (P:=fun r:BookR×Int=>BkOk r.1) (fun _=>h) fun _=>?_
  refine bt (P:=fun r:BookR×Int=>BkOk r.1) (fun _=>h) fun _=>?_
  refine bt (P:=fun r:BookR×Int=>BkOk r.1) (fun _=>h) fun e=>?_
  simp only[decide_eq_false_iff_not] at e
  exact⟨by simp;omega,h.2⟩
theorem bbind_ok {b:BookR} {x:BindR} (h:BkOk b) (hx:x.key.length<=1000):BkOk (Ay_ b x).1:=by
  unfold Ay_ lt
  refine bt (P:=fun r:BookR×Int=>BkOk r.1) (fun _=>h) fun _=>?_
  refine bt (P:=fun r:BookR×Int=>BkOk r.1) (fun _=>h) fun _=>?_
  refine bt (P:=fun r:BookR×Int=>BkOk r.1) (fun _=>h) fun _=>?_
  refine bt (P:=fun r:BookR×Int=>BkOk r.1) (fun _=>h) fun _=>?_
  refine bt (P:=fun r:BookR×Int=>BkOk r.1) (fun _=>h) fun _=>?_
  refine bt (P:=fun r:BookR×Int=>BkOk r.1) (fun _=>h) fun e=>?_
  simp only[decide_eq_false_iff_not] at e
  refine⟨h.1,by simp;omega,fun y hy=>?_⟩
  simp at hy
  rcases hy with hy|rfl
  · exact h.2.2 y hy
  · exact hx
theorem I9_ {s:C_} {t k:Int} {x:Bs} (h:StOk s):StOk (Bn_ s t k x)/\(Bn_ s t k x).x.stock=s.x.stock:=
  ⟨⟨⟨h.1.1,h.1.2.1,U6_ h.1.2.2.1,h.1.2.2.2⟩,h.2⟩,rfl⟩
theorem Kg_ {p:PolicyR} {k:Int} (h:PoOk p) (hk:0<=k/\k<p.places.length):StOk (A8_ p k):=by
  have hb:=h.2.2.2.2.2.2 _ (Lt_ (xs:=p.places) (k:=k.toNat) (by omega))
  refine⟨⟨⟨by simp[A8_,lt,Fa_],by simp[A8_,lt,Fa_],by simp[A8_,lt,Fa_]⟩,⟨⟨by simp[A8_,lt,Fa_,Dx_],by simp[A8_,lt,Fa_,Dx_],by simp[A8_,lt,Fa_,Dx_]⟩,fun i hi=>?_,?_,?_⟩,by simp[A8_,lt,Fa_],fun i hi=>?_⟩,h,hk⟩
  · have :(A8_ p k).x.stock.rises.get i=⟨0,[]⟩:=by
      unfold A8_ lt Fa_ Dx_
      unfold A16.get
      repeat' split
      all_goals rfl
    rw[this];exact⟨by simp,by simp⟩
  · show 0<=max 0 _
    omega
  · show max 0 (gt p.places k.toNat).bytes<=_
    omega
  · have :(A8_ p k).x.spent.get i=⟨0,0⟩:=by
      unfold A8_ lt Fa_ Dx_
      unfold A8.get
      repeat' split
      all_goals rfl
    rw[this];simp
theorem rput_len (l:List Bs) (s:Bs):(Gg_ l s).length<=l.length+1:=by
  unfold Gg_
  cases decide (s∈l)<;>simp
theorem Mv_ (b:BookR) (n k:Bs) (h:List Pair):∀ (t:List BindR) (q p:List Bs),(Al_ b n k h t q p).1.length<=q.length+t.length/\(Al_ b n k h t q p).2.1.length<=p.length+t.length
  |[],q,p=>⟨by simp[Al_],by simp[Al_]⟩
  |x::t,q,p=>by
    unfold Al_ lt lt1
    let Q:List Bs×List Bs×Int->Prop:=fun r=>r.1.length<=q.length+(x::t).length/\r.2.1.length<=p.length+(x::t).length
    have h0:=Mv_ b n k h t q p
    have h1:=Mv_ b n k h t q (Gg_ p x.to')
    have h2:=Mv_ b n k h t (Gg_ q x.to') p
    have h3:=rput_len p x.to'
    have h4:=rput_len q x.to'
    refine bt (P:=Q) (fun _=>?_) fun _=>bt (P:=Q) (fun _=>?_) fun _=>?_
    all_goals (show _/\_;simp only[List.length_cons];omega)
theorem Rh_ {b:BookR} (n k:Bs) (h:List Pair) (hb:BkOk b):(A9_ b n k h).1.length<=32/\(A9_ b n k h).2.1.length<=33:=by
  unfold A9_
  let Q:List Bs×List Bs×Int->Prop:=fun r=>r.1.length<=32/\r.2.1.length<=33
  refine bt (P:=Q) (fun _=>⟨by simp,by simp⟩) fun _=>bt (P:=Q) (fun _=>⟨by simp,by simp⟩) fun _=>?_
  have h0:=Mv_ b n k h b.binds [] []
  have :=hb.2.1
  simp only[List.length_nil] at h0
  exact⟨by omega,by omega⟩
def Ch_ (s:C_) (to_:Int) (tick:Int):C_×Int:=
 lt (Aj_ s.policy s.place to_) fun r=>
 (bif decide (r<0) then
 (s,19)
 else (lt1 (lt (Nq_ s.policy tick) fun r1=>
 (bif !decide (((A8.get s.x.spent ((r).toNat)).round)=r1) then
 (⟨r1,0⟩:O_)
 else (A8.get s.x.spent ((r).toNat)))) (fun x=>
 (bif decide (((gt s.policy.grants ((r).toNat)).budget)<=x.count) then
 (s,19)
 else lt (Bn_ (⟨(⟨s.x.book,s.x.stock,s.x.notes,s.x.seen,(A8.set s.x.spent (⟨x.round,(x.count+1)⟩:O_) ((r).toNat))⟩:K_),s.policy,s.place⟩:C_) tick 2 ((gt s.policy.places ((to_).toNat)).name)) fun r2=>
 (r2,0)))))
def Cm_ (s:C_) (d:DeedR):C_×Int:=
 (bif decide (d.kind=2) then
 lt (A3_ s.x.stock d.queue) fun r=>
 ((⟨(⟨s.x.book,r.1,s.x.notes,s.x.seen,s.x.spent⟩:K_),s.policy,s.place⟩:C_),r.2)
 else lt (Di_ s.x.stock d.name) fun r1=>
 (bif decide (r1.2=0) then
 lt (E8_ s.x.book d.name) fun r2=>
 ((⟨(⟨r2,r1.1,s.x.notes,s.x.seen,s.x.spent⟩:K_),s.policy,s.place⟩:C_),r1.2)
 else ((⟨(⟨s.x.book,r1.1,s.x.notes,s.x.seen,s.x.spent⟩:K_),s.policy,s.place⟩:C_),r1.2)))
def Ca_ (s:C_) (d:DeedR):C_×Ae_×Int:=
 lt (Ao_ s.x.stock d.name) fun r=>
 (bif !r.2 then
 (s,(⟨(⟨(⟨0,[],[],[],[],0,0⟩:Mail),false,false⟩:ItemR),0,0⟩:Ae_),10)
 else lt (B8_ s.x.stock d.name) fun r1=>
 (bif !r1.2.2 then
 (s,(⟨(⟨(⟨0,[],[],[],[],0,0⟩:Mail),false,false⟩:ItemR),0,0⟩:Ae_),15)
 else ((⟨(⟨s.x.book,r1.1,s.x.notes,s.x.seen,s.x.spent⟩:K_),s.policy,s.place⟩:C_),(⟨r1.2.1,0,0⟩:Ae_),0)))
def C7_ (s:C_) (d:DeedR):C_×Int:=
 (bif decide (d.kind=0) then
 (lp0 (lt (Bo_ s.policy d.shop.to') fun r=>
 (bif decide (d.shop.sort=4) then
 (bif decide (r<0) then
 .ret (s,10)
 else lt (Aj_ s.policy s.place r) fun r1=>
 (bif decide (r1<0) then
 .ret (s,11)
 else .fin ()))
 else .fin ())) (
 lt (By_ s.x.book d.shop) fun r2=>
 ((⟨(⟨r2.1,s.x.stock,s.x.notes,s.x.seen,s.x.spent⟩:K_),s.policy,s.place⟩:C_),r2.2)) (fun r=>r))
 else (bif decide (d.kind=1) then
 lt (Dw_ s.x.book d.name) fun r3=>
 ((⟨(⟨r3.1,s.x.stock,s.x.notes,s.x.seen,s.x.spent⟩:K_),s.policy,s.place⟩:C_),r3.2)
 else (bif decide (d.kind=5) then
 lt (C5_ s.x.book d.bind) fun r4=>
 ((⟨(⟨r4.1,s.x.stock,s.x.notes,s.x.seen,s.x.spent⟩:K_),s.policy,s.place⟩:C_),r4.2)
 else lt (Ao_ s.x.stock d.bind.to') fun r5=>
 (lp0 (lt (Bo_ s.policy d.bind.to') fun r6=>
 (lt1 ((bif (d.bind.up&&(decide (r6<0))) then
 (d.bind.up&&(decide (r6<0)))
 else ((!d.bind.up)&&(!r5.2)))) (fun v=>
 (bif v then
 .ret (s,10)
 else (bif (d.bind.up&&(!(Fd_ s.policy s.place r6))) then
 .ret (s,11)
 else .fin ()))))) (
 lt (Ay_ s.x.book d.bind) fun r7=>
 ((⟨(⟨r7.1,s.x.stock,s.x.notes,s.x.seen,s.x.spent⟩:K_),s.policy,s.place⟩:C_),r7.2)) (fun r=>r)))))
theorem lt1E {σ β:Type} {P:β->Prop} {o:σ} {f:σ->β} (I:σ->Prop) (ho:I o) (hf:∀ a,I a->P (f a)):P (lt1 o f):=hf _ ho
theorem spend_ok {s:C_} {to' t:Int} (h:StOk s):StOk (Ch_ s to' t).1/\(Ch_ s to' t).1.x.stock=s.x.stock:=by
  unfold Ch_ lt
  let Q:C_×Int->Prop:=fun r=>StOk r.1/\r.1.x.stock=s.x.stock
  have hn:∀ e,Q (s,e):=fun e=>⟨h,rfl⟩
  refine bt (P:=Q) (fun _=>hn _) fun e=>?_
  simp only[decide_eq_false_iff_not] at e
  have hg:=Ul_ h.2.1 s.place to' (by omega)
  have hb:=Uk_ s.policy s.place to'
  have hl:=h.2.1.2.2.2.2.1
  have hu:=h.1.2.2.2
  refine lt1E (P:=Q) (fun x:O_=>0<=x.count) ?_ fun x hx=>?_
  · refine bt (P:=fun x:O_=>0<=x.count) (fun _=>?_) fun _=>?_
    · exact Int.le_refl _
    · exact (hu _ (by omega)).1
  · refine bt (P:=Q) (fun _=>hn _) fun e2=>?_
    simp only[decide_eq_false_iff_not] at e2
    refine I9_ (s:=⟨⟨s.x.book,s.x.stock,s.x.notes,s.x.seen,_⟩,s.policy,s.place⟩) ⟨⟨h.1.1,h.1.2.1,h.1.2.2.1,fun i hi=>?_⟩,h.2⟩
    show 0<=((s.x.spent.set _ _).get i).count/\_
    dsimp only
    rw[A8.get_set _ _ _ _ (by omega) hi]
    split
    · exact⟨by show 0<=x.count+1;omega,by show x.count+1<=16;omega⟩
    · exact hu i hi
theorem K4_ {s:C_} {b:BookR} (h:StOk s) (hb:BkOk b):StOk ⟨⟨b,s.x.stock,s.x.notes,s.x.seen,s.x.spent⟩,s.policy,s.place⟩:=⟨⟨hb,h.1.2⟩,h.2⟩
theorem Bj_ {s:C_} {k:E_} (h:StOk s) (hk:StkOk k):StOk ⟨⟨s.x.book,k,s.x.notes,s.x.seen,s.x.spent⟩,s.policy,s.place⟩:=⟨⟨h.1.1,hk,h.1.2.2⟩,h.2⟩
theorem queues_ok {s:C_} {d:DeedR} (h:StOk s):StOk (Cm_ s d).1:=by
  unfold Cm_ lt
  let Q:C_×Int->Prop:=fun r=>StOk r.1
  refine bt (P:=Q) (fun _=>Bj_ h (Lg_ h.1.2.1)) fun _=>?_
  refine bt (P:=Q) (fun _=>?_) fun _=>Bj_ h (Us_ h.1.2.1)
  exact K4_ (s:=⟨⟨s.x.book,_,s.x.notes,s.x.seen,s.x.spent⟩,s.policy,s.place⟩) (Bj_ h (Us_ h.1.2.1)) (bforget_ok h.1.1)
theorem lend_ok {s:C_} {d:DeedR} (h:StOk s):StOk (Ca_ s d).1/\MlOk (Ca_ s d).2.1.item.mail:=by
  unfold Ca_ lt
  let Q:C_×Ae_×Int->Prop:=fun r=>StOk r.1/\MlOk r.2.1.item.mail
  refine bt (P:=Q) (fun _=>⟨h,Ge_⟩) fun _=>?_
  refine bt (P:=Q) (fun _=>⟨h,Ge_⟩) fun _=>?_
  have :=klend_ok (n:=d.name) h.1.2.1
  exact⟨Bj_ h this.1,this.2⟩
theorem shops_ok {s:C_} {d:DeedR} (h:StOk s) (hd:DdOk d):StOk (C7_ s d).1:=by
  unfold C7_ lt
  let Q:C_×Int->Prop:=fun r=>StOk r.1
  have hn:∀ e,Q (s,e):=fun e=>h
  refine bt (P:=Q) (fun _=>?_) fun _=>?_
  · refine lp0E (P:=Q) (fun _=>True) ?_ fun _=>K4_ h (bmake_ok h.1.1)
    refine bt (P:=LoP _ _) (fun _=>?_) fun _=>trivial
    refine bt (P:=LoP _ _) (fun _=>hn _) fun _=>?_
    exact bt (P:=LoP _ _) (fun _=>hn _) fun _=>trivial
  · refine bt (P:=Q) (fun _=>K4_ h (bdrop_ok h.1.1)) fun _=>?_
    refine bt (P:=Q) (fun _=>K4_ h (bunbind_ok h.1.1)) fun _=>?_
    refine lp0E (P:=Q) (fun _=>True) ?_ fun _=>K4_ h (bbind_ok h.1.1 hd.1)
    refine lt1E (P:=LoP _ _) (fun _=>True) trivial fun v _=>?_
    refine bt (P:=LoP _ _) (fun _=>hn _) fun _=>?_
    exact bt (P:=LoP _ _) (fun _=>hn _) fun _=>trivial
end Go.SW.V
namespace Go.SW.V
open Go.SW
theorem Lq_ (n:Int):0<=IntKind.wrap .u8 n:=by
  simp only[IntKind.wrap,IntKind.bits,IntKind.signed];simp;omega
def At_ (s:C_) (m:Mail) (tick:Int) (r:(List Bs)×(List Bs)×Int) (gone:List OutR):List Bs->Int->C_->C_×(List OutR)×Int×Int
  |[],n1,x1=>(x1,gone,n1,0)
  |x3::t,n1,x1=>lt (Bo_ x1.policy x3) fun r4=>
 (lp1 ((bif decide ((((Ft_ s.x.book.shops m.shop).getD ShopR.zero).sort)=4) then
 lt (Ch_ x1 r4 tick) fun r5=>
 (bif !decide (r5.2=0) then
 .ret (s,[],0,r5.2)
 else .fin r5.1)
 else .fin x1)) (fun x2=>
 lt (Bm_ x2.x.stock r4 (⟨0,m.shop,m.key,m.head,m.body,m.due,m.hops⟩:Mail)) fun r6=>
 (bif !decide (r6.2=0) then
 (s,[],0,r6.2)
 else At_ s m tick r gone t (n1+1) (⟨(⟨x2.x.book,r6.1,x2.x.notes,x2.x.seen,x2.x.spent⟩:K_),x2.policy,x2.place⟩:C_))) (fun r=>r))
def V_ (s:C_) (m:Mail) (tick:Int) (r:(List Bs)×(List Bs)×Int):List Bs->List OutR->Int->C_->C_×(List OutR)×Int×Int
  |[],gone,n,x=>At_ s m tick r gone r.2.1 n x
  |x4::t1,gone,n,x=>lt (Ao_ x.x.stock x4) fun r1=>
 (bif !r1.2 then
 V_ s m tick r t1 gone n x
 else lt (K5_ m.due tick r1.1.life) fun r2=>
 lt (Az_ x.x.stock x4 (⟨0,m.shop,m.key,m.head,m.body,r2,m.hops⟩:Mail)) fun r3=>
 (bif !decide (r3.2.2.2=0) then
 (s,[],0,r3.2.2.2)
 else (bif !decide (r3.2.2.1.shop=[]) then
 V_ s m tick r t1 (gone++[(⟨x4,r3.2.2.1⟩:OutR)]) (n+1) (⟨(⟨x.x.book,r3.1,x.x.notes,x.x.seen,x.x.spent⟩:K_),x.policy,x.place⟩:C_)
 else V_ s m tick r t1 gone (n+1) (⟨(⟨x.x.book,r3.1,x.x.notes,x.x.seen,x.x.spent⟩:K_),x.policy,x.place⟩:C_))))
def M_ (s:C_) (m:Mail) (tick:Int):C_×(List OutR)×Int×Int:=
 lt (A9_ s.x.book m.shop m.key m.head) fun r=>
 (bif !decide (r.2.2=0) then
 (s,[],0,r.2.2)
 else V_ s m tick r r.1 [] 0 s)
def Pu_ (W:Nat) (r:C_×List OutR×Int×Int):Prop:=StOk r.1/\(∀ g∈r.2.1,MlOk g.mail)/\(r.2.2.2=0->wtk r.1.x.stock+wto r.2.1<=W)
theorem Qf_ {W:Nat} {s:C_} {e:Int} (h:StOk s) (he:e≠0):Pu_ W (s,[],0,e):=⟨h,(fun _ hg=>by cases hg),fun q=>(he q).elim⟩
theorem send1 {s:C_} {m:Mail} {tick:Int} {r:List Bs×List Bs×Int} {gone:List OutR} {W:Nat} (hs:StOk s) (hg:∀ g∈gone,MlOk g.mail):∀ (t:List Bs) (n:Int) (x:C_),StOk x->wtk x.x.stock+wto gone<=W->Pu_ W (At_ s m tick r gone t n x)
  |[],n,x,hx,hw=>⟨hx,hg,fun _=>hw⟩
  |q::t,n,x,hx,hw=>by
    unfold At_ lt
    refine lp1E (P:=Pu_ W) (fun y:C_=>StOk y/\y.x.stock=x.x.stock) ?_ fun y hy=>?_
    · refine bt (P:=LoP _ _) (fun _=>?_) fun _=>⟨hx,rfl⟩
      refine bt (P:=LoP _ _) (fun e=>Qf_ hs ?_) fun _=>spend_ok hx
      simpa using e
    · have hr:=Wh_ (p:=Bo_ x.policy q) (m:=⟨0,m.shop,m.key,m.head,m.body,m.due,m.hops⟩) hy.1.stk
      refine bt (P:=Pu_ W) (fun e=>Qf_ hs (by simpa using e)) fun _=>?_
      refine send1 hs hg t _ _ (Bj_ hy.1 hr.1) ?_
      have :wtk (Bm_ y.x.stock (Bo_ x.policy q) ⟨0,m.shop,m.key,m.head,m.body,m.due,m.hops⟩).1=wtk x.x.stock:=by
        unfold wtk;rw[hr.2,hy.2]
      show wtk (Bm_ y.x.stock (Bo_ x.policy q) ⟨0,m.shop,m.key,m.head,m.body,m.due,m.hops⟩).1+_<=W
      omega
theorem wto_app (a b:List OutR):wto (a++b)=wto a+wto b:=by simp[wto]
theorem send0 {s:C_} {m:Mail} {tick:Int} {r:List Bs×List Bs×Int} (hs:StOk s) (h0:0<=m.hops):∀ (t:List Bs) (gone:List OutR) (n:Int) (x:C_),StOk x->(∀ g∈gone,MlOk g.mail)->Pu_ (wtk x.x.stock+wto gone+t.length*wtm m) (V_ s m tick r t gone n x)
  |[],gone,n,x,hx,hg=>by
    unfold V_
    exact send1 hs hg r.2.1 n x hx (by simp)
  |q::t,gone,n,x,hx,hg=>by
    unfold V_ lt
    have hmono:∀ {W W':Nat} {r:C_×List OutR×Int×Int},W<=W'->Pu_ W r->Pu_ W' r:=fun hw h=>⟨h.1,h.2.1,fun e=>Nat.le_trans (h.2.2 e) hw⟩
    have hl:(q::t).length*wtm m=t.length*wtm m+wtm m:=by rw[List.length_cons,Nat.succ_mul]
    refine bt (P:=Pu_ _) (fun _=>hmono (by omega) (send0 hs h0 t gone n x hx hg)) fun _=>?_
    generalize hd:K5_ m.due tick (Ao_ x.x.stock q).1.life=due
    have hp:=Uv_ (s:=x.x.stock) (n:=q) (m:=⟨0,m.shop,m.key,m.head,m.body,due,m.hops⟩) hx.stk h0
    dsimp only
    generalize hv:Az_ x.x.stock q ⟨0,m.shop,m.key,m.head,m.body,due,m.hops⟩=v at hp ⊢
    obtain⟨p1,p2,p3⟩:=hp
    have he:wtm ⟨0,m.shop,m.key,m.head,m.body,due,m.hops⟩=wtm m:=rfl
    rw[he] at p3
    refine bt (P:=Pu_ _) (fun e=>Qf_ hs (by simpa using e)) fun e=>?_
    have hw:=(p3 (by simpa using e)).2
    refine bt (P:=Pu_ _) (fun e2=>?_) fun e2=>?_
    · refine hmono ?_ (send0 hs h0 t (gone++[⟨q,v.2.2.1⟩]) (n+1) ⟨⟨x.x.book,v.1,x.x.notes,x.x.seen,x.x.spent⟩,x.policy,x.place⟩ (Bj_ hx p1) ?_)
      · rw[wto_app]
        have :wt1 v.2.2.1=wto [(⟨q,v.2.2.1⟩:OutR)]:=by
          have :decide (v.2.2.1.shop=[])=false:=by simpa using e2
          simp[wt1,wto,this]
        show wtk v.1+_+_<=_
        omega
      · intro g hg'
        rcases List.mem_append.1 hg' with q|q
        · exact hg g q
        · rw[List.mem_singleton.1 q];exact p2
    · refine hmono ?_ (send0 hs h0 t gone (n+1) ⟨⟨x.x.book,v.1,x.x.notes,x.x.seen,x.x.spent⟩,x.policy,x.place⟩ (Bj_ hx p1) hg)
      show wtk v.1+_+_<=_
      omega
theorem Ln_ {s:C_} {m:Mail} {tick:Int} (hs:StOk s) (h0:0<=m.hops):Pu_ (wtk s.x.stock+32*wtm m) (M_ s m tick):=by
  unfold M_ lt
  refine bt (P:=Pu_ _) (fun e=>Qf_ hs (by simpa using e)) fun _=>?_
  have hl:=(Rh_ m.shop m.key m.head hs.1.1).1
  have h:=send0 (tick:=tick) (r:=A9_ s.x.book m.shop m.key m.head) hs h0 (A9_ s.x.book m.shop m.key m.head).1 [] 0 s hs (fun _ hg=>by cases hg)
  refine⟨h.1,h.2.1,fun e=>Nat.le_trans (h.2.2 e) ?_⟩
  have :=Nat.mul_le_mul_right (wtm m) hl
  simp only[wto,List.map_nil,List.sum_nil]
  omega
theorem Xv_ {s:C_} {m:Mail} {tick:Int} {r:List Bs×List Bs×Int} {gone:List OutR} {k:Nat} (hk:gone.length<=k):∀ (t:List Bs) (n:Int) (x:C_),(At_ s m tick r gone t n x).2.1.length<=k
  |[],n,x=>hk
  |q::t,n,x=>by
    unfold At_ lt
    let Q:C_×List OutR×Int×Int->Prop:=fun r=>r.2.1.length<=k
    refine lp1E (P:=Q) (fun _=>True) ?_ fun y _=>?_
    · refine bt (P:=LoP _ _) (fun _=>?_) fun _=>trivial
      exact bt (P:=LoP _ _) (fun _=>Nat.zero_le _) fun _=>trivial
    · exact bt (P:=Q) (fun _=>Nat.zero_le _) fun _=>Xv_ hk t _ _
theorem Ov_ {s:C_} {m:Mail} {tick:Int} {r:List Bs×List Bs×Int} {k:Nat}:∀ (t:List Bs) (gone:List OutR) (n:Int) (x:C_),gone.length+t.length<=k->(V_ s m tick r t gone n x).2.1.length<=k
  |[],gone,n,x,hk=>by
    unfold V_
    exact Xv_ (by simpa using hk) _ _ _
  |q::t,gone,n,x,hk=>by
    simp only[List.length_cons] at hk
    unfold V_ lt
    let Q:C_×List OutR×Int×Int->Prop:=fun r=>r.2.1.length<=k
    refine bt (P:=Q) (fun _=>Ov_ t _ _ _ (by omega)) fun _=>?_
    refine bt (P:=Q) (fun _=>Nat.zero_le _) fun _=>?_
    exact bt (P:=Q) (fun _=>Ov_ t _ _ _ (by simp;omega)) fun _=>Ov_ t _ _ _ (by omega)
theorem Lm_ {s:C_} {m:Mail} {tick:Int} (hs:StOk s):(M_ s m tick).2.1.length<=32:=by
  unfold M_ lt
  let Q:C_×List OutR×Int×Int->Prop:=fun r=>r.2.1.length<=32
  refine bt (P:=Q) (fun _=>Nat.zero_le _) fun _=>?_
  have hl:=(Rh_ m.shop m.key m.head hs.1.1).1
  exact Ov_ _ _ _ _ (by simpa using hl)
theorem wtm_r (m:Mail):1<=wtm m/\wtm m<=39135393:=by
  unfold wtm
  refine⟨Nat.one_le_pow _ _ (by decide),?_⟩
  have :33 ^ (5-m.hops.toNat)<=33 ^ 5:=Nat.pow_le_pow_right (by decide) (by omega)
  simpa using this
theorem wto_r:∀ l:List OutR,l.length<=wto l/\wto l<=39135393*l.length
  |[]=>⟨Nat.zero_le _,by simp[wto]⟩
  |x::l=>by
    have h:=wto_r l
    have hx:=wtm_r x.mail
    simp only[wto,List.map_cons,List.sum_cons,List.length_cons] at h ⊢
    omega
theorem wtl_r:∀ l:List ItemR,wtl l<=39135393*l.length
  |[]=>by simp[wtl]
  |x::l=>by
    have h:=wtl_r l
    have hx:=wtm_r x.mail
    simp only[wtl,List.map_cons,List.sum_cons,List.length_cons] at h ⊢
    omega
theorem wtr_r:∀ l:List RowR,(∀ r∈l,LnOk r.l)->(l.map fun r=>wtl r.l.items).sum<=2504665152*l.length
  |[],_=>by simp
  |x::l,h=>by
    have h1:=wtr_r l fun r hr=>h r (List.mem_cons_of_mem _ hr)
    have h2:=wtl_r x.l.items
    have h3:=(h x (List.mem_cons_self ..)).1
    simp only[List.map_cons,List.sum_cons,List.length_cons]
    omega
theorem wtk_r {s:E_} (h:StkOk s):wtk s<=20037321216:=by
  have h1:=wtr_r s.rows h.1.2.1
  have h2:=h.1.1
  unfold wtk;omega
theorem Qi_ {l:List OutR} (h:0<l.length):wto (l.drop 1)+wtm (gt l 0).mail=wto l:=by
  cases l with
  |nil=>cases h
  |cons a r=>simp[wto,gt];omega
def Qj_ (gone:List OutR) (lost:Int) (x:C_):Prop:=StOk x/\(∀ g∈gone,MlOk g.mail)/\0<=lost/\lost+((wtk x.x.stock+wto gone:Nat):Int)<=50000000000
theorem buryI0 {gone:List OutR} {x:C_} (h:StOk x) (hg:gone.length<=600/\∀ g∈gone,MlOk g.mail):Qj_ gone 0 x:=by
  have h1:=wtk_r h.stk
  have h2:=(wto_r gone).2
  refine⟨h,hg.2,Int.le_refl _,?_⟩
  have :=hg.1
  omega
section
variable {gone more:List OutR} {lost:Int} {x y:C_} {f:Nat} {m:Mail} {e:Int}
theorem Sx_ (hn:0<gone.length) (h:wtk x.x.stock+wto gone<f+1):wtk x.x.stock+wto (gone.drop 1)<f:=by
  have :=Qi_ hn;have :=(wtm_r (gt gone 0).mail).1;omega
theorem Qm_ (h:Qj_ gone lost x) (hn:0<gone.length):Qj_ (gone.drop 1) lost x:=by
  have h1:=Qi_ hn
  exact⟨h.1,fun g hg=>h.2.1 g (List.mem_of_mem_drop hg),h.2.2.1,by have :=h.2.2.2;omega⟩
theorem Vr_ (hs:y.x.stock=x.x.stock) (hn:0<gone.length) (h:wtk x.x.stock+wto gone<f+1):wtk y.x.stock+wto (gone.drop 1)<f:=by
  rw[hs];exact Sx_ hn h
theorem Qn_ (h:Qj_ gone lost x) (hy:StOk y) (hs:y.x.stock=x.x.stock) (hn:0<gone.length):Qj_ (gone.drop 1) (lost+1) y:=by
  have h1:=Qi_ hn
  have h2:=(wtm_r (gt gone 0).mail).1
  have h3:=h.2.2.2
  exact⟨hy,fun g hg=>h.2.1 g (List.mem_of_mem_drop hg),by have :=h.2.2.1;omega,by rw[hs];omega⟩
theorem bury_w {r:Mail} (hr:r=H_ (gt gone 0).mail) (hm:MlOk (gt gone 0).mail) (h4:¬4<IntKind.wrap .u8 (r.hops+1)) (hmm:m.hops=IntKind.wrap .u8 (r.hops+1)):33*wtm m=wtm (gt gone 0).mail:=by
  subst hr
  have h1:=hm.2.1
  have h2:=hm.2.2.1
  have hw:IntKind.wrap .u8 ((gt gone 0).mail.hops+1)=(gt gone 0).mail.hops+1:=by
    simp only[IntKind.wrap,IntKind.bits,IntKind.signed];simp;omega
  simp only[H_] at h4 hmm
  rw[hw] at h4 hmm
  unfold wtm
  rw[hmm]
  have :5-(gt gone 0).mail.hops.toNat=(5-((gt gone 0).mail.hops+1).toNat)+1:=by omega
  rw[this,Nat.pow_succ,Nat.mul_comm]
theorem Sy_ {r:Mail} (hn:0<gone.length) (h:wtk x.x.stock+wto gone<f+1) (hr:r=H_ (gt gone 0).mail) (hm:MlOk (gt gone 0).mail) (h4:¬4<IntKind.wrap .u8 (r.hops+1)) (hw:e=0->wtk y.x.stock+wto more<=wtk x.x.stock+32*wtm m) (hmm:m.hops=IntKind.wrap .u8 (r.hops+1)) (he:e=0):wtk y.x.stock+wto ((gone++more).drop 1)<f:=by
  have h1:=Qi_ hn
  have h2:=bury_w (m:=m) hr hm h4 hmm
  have h3:=hw he
  have h5:(gone++more).drop 1=gone.drop 1++more:=by cases gone with
    |nil=>cases hn
    |cons a r=>simp
  have h6:=(wtm_r m).1
  rw[h5,wto_app];omega
theorem Qo_ {r:Mail} (h:Qj_ gone lost x) (hy:StOk y) (hg:∀ g∈more,MlOk g.mail) (hn:0<gone.length) (hr:r=H_ (gt gone 0).mail) (hm:MlOk (gt gone 0).mail) (h4:¬4<IntKind.wrap .u8 (r.hops+1)) (hw:e=0->wtk y.x.stock+wto more<=wtk x.x.stock+32*wtm m) (hmm:m.hops=IntKind.wrap .u8 (r.hops+1)) (he:e=0):Qj_ ((gone++more).drop 1) lost y:=by
  have h1:=Sy_ (f:=wtk x.x.stock+wto gone) hn (by omega) hr hm h4 hw hmm he
  refine⟨hy,fun g hg'=>?_,h.2.2.1,by have :=h.2.2.2;omega⟩
  rcases List.mem_append.1 (List.mem_of_mem_drop hg') with q|q
  · exact h.2.1 g q
  · exact hg g q
theorem app_fit (h:Qj_ gone lost x) (hw:e=0->wtk y.x.stock+wto more<=wtk x.x.stock+32*wtm m) (he:e=0):gone.length+more.length<=200000000000:=by
  have h1:=(wto_r gone).1
  have h2:=(wto_r more).1
  have h3:=(wtm_r m).2
  have h4:=hw he
  have h5:=h.2.2.2
  have h6:=h.2.2.1
  omega
end
def nik (s:E_):Nat:=(s.rows.map fun r=>r.l.items.length).sum
theorem at_self {s:E_} (h:StkOk s) {k:Nat} (hk:k<s.rows.length):X_ s (gt s.rows k).q.name=k:=by
  have h0:0<=X_ s (gt s.rows k).q.name:=Int.not_lt.1 fun q=>at_neg q _ (Lt_ hk) rfl
  have hb:=at_b s (gt s.rows k).q.name
  have ha:=at_n h0
  obtain⟨j,hj⟩:∃ j:Nat,X_ s (gt s.rows k).q.name=j:=⟨_,(Int.toNat_of_nonneg h0).symm⟩
  rw[hj] at ha hb ⊢
  simp only[Int.toNat_natCast] at ha
  have hjl:j<s.rows.length:=by omega
  have hnd:∀ i q:Nat,(hi:i<s.rows.length)->(hq:q<s.rows.length)->i<q->(gt s.rows i).q.name≠(gt s.rows q).q.name:=fun i q hi hq hiq=>by
    have h1:=List.pairwise_iff_getElem.1 h.1.2.2 i q (by simpa using hi) (by simpa using hq) hiq
    rw[List.getElem_map,List.getElem_map] at h1
    have e1:gt s.rows i=s.rows[i]:=by simp[gt,hi]
    have e2:gt s.rows q=s.rows[q]:=by simp[gt,hq]
    rw[e1,e2];exact h1
  rcases Nat.lt_trichotomy j k with q|q|q
  · exact absurd ha (hnd j k hjl hk q)
  · rw[q]
  · exact absurd ha.symm (hnd k j hk hjl q)
theorem We_ {t:Int}:∀ (l:List RowR),(As_ t l).2.2=true->∃ k j,k<l.length/\j<(gt l k).l.items.length/\(As_ t l).1=(gt l k).q.name/\(As_ t l).2.1=(gt (gt l k).l.items j).mail
  |[],h=>by cases h
  |x::l,h=>by
    unfold As_ lt at h ⊢
    dsimp only at h ⊢
    cases e:(E4_ x.l t).2 with
    |true=>
      have hb:=Y3_ x.l t
      have hl:∃ j:Nat,j<x.l.items.length/\(E4_ x.l t).1=(gt x.l.items j).mail:=by
        unfold E4_ lt Cz_ lt at e ⊢
        dsimp only at e ⊢
        cases e1:decide (Ef_ x.l t<0) with
        |true=>rw[e1] at e;cases e
        |false=>
          simp only[decide_eq_false_iff_not] at e1
          exact⟨(Ef_ x.l t).toNat,by omega,rfl⟩
      obtain⟨j,hj,he⟩:=hl
      exact⟨0,j,by simp,hj,rfl,he⟩
    |false=>
      rw[e] at h
      obtain⟨k,j,h1,h2,h3,h4⟩:=We_ l h
      have hg:gt (x::l) (k+1)=gt l k:=by simp[gt]
      exact⟨k+1,j,by simpa using h1,by rw[hg];exact h2,by rw[hg];exact h3,by rw[hg];exact h4⟩
theorem late_n {s:E_} {t:Int} (h:StkOk s) (hl:(Z_ s t).2.2=true):nik (Ad_ s (Z_ s t).1 (Z_ s t).2.1.id).1+1=nik s:=by
  obtain⟨k,j,h1,h2,h3,h4⟩:=We_ s.rows hl
  have h3':(Z_ s t).1=_:=h3
  have h4':(Z_ s t).2.1=_:=h4
  rw[h3',h4']
  unfold Ad_ lt
  rw[at_self h h1]
  have hk:decide ((k:Int)<0)=false:=by simp
  have hln:=RwsOk.at h.1 (getG h1)
  have hrm:(A1_ (gt s.rows k).l (gt (gt s.rows k).l.items j).mail.id).1.items.length+1=(gt s.rows k).l.items.length:=by
    unfold A1_ lt
    rw[lof_self hln h2]
    dsimp only
    have hj:decide ((j:Int)<0)=false:=by simp
    rw[hj]
    simp only[cond_false,List.flatten_cons,List.flatten_nil,List.append_nil,List.length_append,List.length_take,List.length_drop]
    omega
  have hs:=Zp_ (fun r:RowR=>r.l.items.length) s.rows k ⟨(gt s.rows k).q,(A1_ (gt s.rows k).l (gt (gt s.rows k).l.items j).mail.id).1⟩ h1
  dsimp only at hs ⊢
  rw[hk]
  unfold nik
  simp only[cond_false,Int.toNat_natCast,Ac_]
  omega
theorem nik_r0:∀ l:List RowR,(∀ r∈l,LnOk r.l)->(l.map fun r=>r.l.items.length).sum<=64*l.length
  |[],_=>by simp
  |x::l,h=>by
    have h1:=nik_r0 l fun r hr=>h r (List.mem_cons_of_mem _ hr)
    have h3:=(h x (List.mem_cons_self ..)).1
    simp only[List.map_cons,List.sum_cons,List.length_cons]
    omega
theorem nik_r {s:E_} (h:StkOk s):nik s<=512:=by
  have h1:=nik_r0 s.rows h.1.2.1
  have h2:=h.1.1
  unfold nik;omega
theorem Cg_ {s:C_} {a:A16_u64} (h:StOk s):StOk ⟨⟨s.x.book,s.x.stock,s.x.notes,a,s.x.spent⟩,s.policy,s.place⟩:=h
theorem Vu_ (m:Mail):(H_ m).head.length=m.head.length/\(H_ m).key.length=m.key.length/\(H_ m).hops=m.hops:=⟨rfl,rfl,rfl⟩
theorem st_nts {s:C_} (h:StOk s):s.x.notes.kept.length<=1000:=Nat.le_trans h.1.2.2.1 (by decide)
theorem Y0_ {k:E_} {t:Int} {r:Bs×Mail×Bool} {r1:E_×ItemR×Int} {f:Nat} (h:StkOk k) (hr:Z_ k t=r) (h2:r.2.2=true) (hr1:Ad_ k r.1 r.2.1.id=r1) (hf:nik k<f+1):nik r1.1<f:=by
  subst hr;subst hr1
  have :=late_n h h2;omega
theorem Yz_ {k:E_} {t:Int} {r:Bs×Mail×Bool} {r1:E_×ItemR×Int} {gone:List OutR} {g:OutR} (h:StkOk k) (hr:Z_ k t=r) (h2:r.2.2=true) (hr1:Ad_ k r.1 r.2.1.id=r1) (hf:gone.length+nik k<=512):(gone++[g]).length+nik r1.1<=512:=by
  subst hr;subst hr1
  have :=late_n h h2
  simp only[List.length_append,List.length_cons,List.length_nil];omega
def Bs_ (tick:Int):Nat->List OutR->Int->C_->C_×Int
  |0,_,_,_=>default
  | f2+1,gone1,lost,x=>(bif decide (0<(gone1.length:Int)) then
 lt (Ao_ x.x.stock ((gt gone1 0).queue)) fun r=>
 (bif decide (((r.1).dead)=[]) then
 Bs_ tick f2 (gone1.drop 1) lost x
 else lt (H_ ((gt gone1 0).mail)) fun r1=>
 lt (M_ x (⟨r1.id,(r.1).dead,r1.key,r1.head,r1.body,0,(IntKind.wrap .u8 (r1.hops+1))⟩:Mail) tick) fun r2=>
 (bif ((decide (4<(IntKind.wrap .u8 (r1.hops+1))))||(!decide (r2.2.2.2=0))) then
 lt (Bn_ x tick 1 ((gt gone1 0).queue)) fun r3=>
 Bs_ tick f2 (gone1.drop 1) (lost+1) r3
 else Bs_ tick f2 ((gone1++r2.2.1).drop 1) lost r2.1))
 else (x,lost))
def Ba_ (s:C_) (gone:List OutR) (tick:Int):C_×Int:=
 Bs_ tick (wtk s.x.stock+wto gone+1) gone 0 s
def B2_ (s:C_) (d:DeedR):C_×Ae_×Int:=
 lt (Dh_ s.x.stock d.name d.id) fun r=>
 (bif !decide (r.2=0) then
 (s,(⟨(⟨(⟨0,[],[],[],[],0,0⟩:Mail),false,false⟩:ItemR),0,0⟩:Ae_),r.2)
 else (bif decide (d.how=2) then
 ((⟨(⟨s.x.book,r.1,s.x.notes,s.x.seen,s.x.spent⟩:K_),s.policy,s.place⟩:C_),(⟨(⟨(⟨0,[],[],[],[],0,0⟩:Mail),false,false⟩:ItemR),0,0⟩:Ae_),0)
 else lt (Ad_ s.x.stock d.name d.id) fun r1=>
 (bif decide (d.how=1) then
 (((Ba_ (⟨(⟨s.x.book,r1.1,s.x.notes,s.x.seen,s.x.spent⟩:K_),s.policy,s.place⟩:C_) [(⟨d.name,r1.2.1.mail⟩:OutR)] d.tick).1),(⟨(⟨(⟨0,[],[],[],[],0,0⟩:Mail),false,false⟩:ItemR),0,(Ba_ (⟨(⟨s.x.book,r1.1,s.x.notes,s.x.seen,s.x.spent⟩:K_),s.policy,s.place⟩:C_) [(⟨d.name,r1.2.1.mail⟩:OutR)] d.tick).2⟩:Ae_),0)
 else ((⟨(⟨s.x.book,r1.1,s.x.notes,s.x.seen,s.x.spent⟩:K_),s.policy,s.place⟩:C_),(⟨(⟨(⟨0,[],[],[],[],0,0⟩:Mail),false,false⟩:ItemR),0,0⟩:Ae_),0))))
def Cx_ (tick:Int):Nat->List OutR->C_->C_×Ae_
  |0,_,_=>default
  |f2+1,gone,x=>lt (Z_ x.x.stock tick) fun r=>
 (bif !r.2.2 then
 (((Ba_ x gone tick).1),(⟨(⟨(⟨0,[],[],[],[],0,0⟩:Mail),false,false⟩:ItemR),(gone.length:Int),(Ba_ x gone tick).2⟩:Ae_))
 else lt (Ad_ x.x.stock r.1 r.2.1.id) fun r1=>
 Cx_ tick f2 (gone++[(⟨r.1,r.2.1⟩:OutR)]) (⟨(⟨x.x.book,r1.1,x.x.notes,x.x.seen,x.x.spent⟩:K_),x.policy,x.place⟩:C_))
def Es_ (s:C_) (tick:Int):C_×Ae_:=
 Cx_ tick (nik s.x.stock+1) [] s
def C1_ (s:C_) (d:DeedR):C_×Ae_×Int:=
 (bif decide ((s.policy.places.length:Int)<=d.frm) then
 (s,(⟨(⟨(⟨0,[],[],[],[],0,0⟩:Mail),false,false⟩:ItemR),0,0⟩:Ae_),10)
 else (bif ((!(Fd_ s.policy d.frm s.place))&&(decide ((Aj_ s.policy d.frm s.place)<0))) then
 (s,(⟨(⟨(⟨0,[],[],[],[],0,0⟩:Mail),false,false⟩:ItemR),0,0⟩:Ae_),11)
 else (bif decide (d.number<=(A16.get s.x.seen ((d.frm).toNat))) then
 (s,(⟨(⟨(⟨0,[],[],[],[],0,0⟩:Mail),false,false⟩:ItemR),0,0⟩:Ae_),13)
 else (lt1 ((bif !(Fd_ s.policy d.frm s.place) then
 lt (Bn_ (⟨(⟨s.x.book,s.x.stock,s.x.notes,(A16.set s.x.seen d.number ((d.frm).toNat)),s.x.spent⟩:K_),s.policy,s.place⟩:C_) d.tick 2 ((gt s.policy.places ((d.frm).toNat)).name)) fun r=>
 r
 else (⟨(⟨s.x.book,s.x.stock,s.x.notes,(A16.set s.x.seen d.number ((d.frm).toNat)),s.x.spent⟩:K_),s.policy,s.place⟩:C_))) (fun x=>
 lt (H_ d.mail) fun r1=>
 lt (M_ x (⟨r1.id,r1.shop,r1.key,r1.head,r1.body,r1.due,(IntKind.wrap .u8 (r1.hops+1))⟩:Mail) d.tick) fun r2=>
 (bif ((decide (4<(IntKind.wrap .u8 (r1.hops+1))))||(!decide (r2.2.2.2=0))) then
 lt (Bn_ x d.tick 1 r1.shop) fun r3=>
 (r3,(⟨(⟨(⟨0,[],[],[],[],0,0⟩:Mail),false,false⟩:ItemR),0,1⟩:Ae_),0)
 else (((Ba_ r2.1 r2.2.1 d.tick).1),(⟨(⟨(⟨0,[],[],[],[],0,0⟩:Mail),false,false⟩:ItemR),r2.2.2.1,(Ba_ r2.1 r2.2.1 d.tick).2⟩:Ae_),0)))))))
def Dc_ (s:C_) (d:DeedR):C_×Ae_×Int:=
 lt (H_ d.mail) fun r=>
 lt (M_ s r d.tick) fun r1=>
 (bif !decide (r1.2.2.2=0) then
 (s,(⟨(⟨(⟨0,[],[],[],[],0,0⟩:Mail),false,false⟩:ItemR),0,0⟩:Ae_),r1.2.2.2)
 else (((Ba_ (r1.1) r1.2.1 d.tick).1),(⟨(⟨(⟨0,[],[],[],[],0,0⟩:Mail),false,false⟩:ItemR),r1.2.2.1,(Ba_ (r1.1) r1.2.1 d.tick).2⟩:Ae_),0))
def Bh_ (s:C_) (d:DeedR):C_×Ae_×Int:=
 (bif !decide ((F4_ d)=0) then
 (s,(⟨(⟨(⟨0,[],[],[],[],0,0⟩:Mail),false,false⟩:ItemR),0,0⟩:Ae_),F4_ d)
 else (lt3 ((lt1 ((bif decide (d.kind=2) then
 (decide (d.kind=2))
 else (decide (d.kind=3)))) (fun v=>
 (bif v then
 lt (Cm_ s d) fun r=>
 (r.2,r.1,(⟨(⟨(⟨0,[],[],[],[],0,0⟩:Mail),false,false⟩:ItemR),0,0⟩:Ae_))
 else (bif decide (d.kind=6) then
 lt (Dc_ s d) fun r1=>
 (r1.2.2,r1.1,r1.2.1)
 else (bif decide (d.kind=7) then
 lt (Ca_ s d) fun r2=>
 (r2.2.2,r2.1,r2.2.1)
 else (bif decide (d.kind=8) then
 lt (B2_ s d) fun r3=>
 (r3.2.2,r3.1,r3.2.1)
 else (bif decide (d.kind=9) then
 lt (Es_ s d.tick) fun r4=>
 (0,r4.1,r4.2)
 else (bif decide (d.kind=10) then
 lt (C1_ s d) fun r5=>
 (r5.2.2,r5.1,r5.2.1)
 else (bif decide (d.kind=11) then
 lt (Er_ s.x.stock) fun r6=>
 lt (Bn_ (⟨(⟨s.x.book,r6,s.x.notes,s.x.seen,s.x.spent⟩:K_),s.policy,s.place⟩:C_) d.tick 3 []) fun r7=>
 (0,r7,(⟨(⟨(⟨0,[],[],[],[],0,0⟩:Mail),false,false⟩:ItemR),0,0⟩:Ae_))
 else (bif decide (d.kind=12) then
 lt (Cu_ s.x.notes (⟨d.tick,d.code,d.text⟩:NoteR)) fun r8=>
 (r8.2,(⟨(⟨s.x.book,s.x.stock,r8.1,s.x.seen,s.x.spent⟩:K_),s.policy,s.place⟩:C_),(⟨(⟨(⟨0,[],[],[],[],0,0⟩:Mail),false,false⟩:ItemR),0,0⟩:Ae_))
 else lt (C7_ s d) fun r9=>
 (r9.2,r9.1,(⟨(⟨(⟨0,[],[],[],[],0,0⟩:Mail),false,false⟩:ItemR),0,0⟩:Ae_))))))))))))) (fun e_1 x x1=>
 (bif !decide (e_1=0) then
 (s,(⟨(⟨(⟨0,[],[],[],[],0,0⟩:Mail),false,false⟩:ItemR),0,0⟩:Ae_),e_1)
 else (x,x1,0)))))
theorem P0_ (tick:Int):∀ (f:Nat) (gone:List OutR) (lost:Int) (x:C_),Qj_ gone lost x->wtk x.x.stock+wto gone<f->StOk (Bs_ tick f gone lost x).1
  |0,_,_,_,_,h=>by omega
  |f+1,gone,lost,x,hI,hf=>by
    unfold Bs_ lt
    let Q:C_×Int->Prop:=fun r=>StOk r.1
    refine bt (P:=Q) (fun e=>?_) fun _=>hI.1
    have hn:0<gone.length:=by simpa using e
    refine bt (P:=Q) (fun _=>P0_ tick f _ _ _ (Qm_ hI hn) (Sx_ hn hf)) fun _=>?_
    have hm:MlOk (gt gone 0).mail:=hI.2.1 _ (Lt_ hn)
    refine bt (P:=Q) (fun _=>?_) fun e4=>?_
    · have h:=I9_ (s:=x) (t:=tick) (k:=1) (x:=(gt gone 0).queue) hI.1
      exact P0_ tick f _ _ _ (Qn_ hI h.1 h.2 hn) (Vr_ h.2 hn hf)
    · simp only[Bool.or_eq_false_iff,decide_eq_false_iff_not,Bool.not_eq_false',decide_eq_true_eq] at e4
      have hs:=Ln_ (s:=x) (m:=⟨(H_ (gt gone 0).mail).id,(Ao_ x.x.stock (gt gone 0).queue).1.dead,(H_ (gt gone 0).mail).key,(H_ (gt gone 0).mail).head,(H_ (gt gone 0).mail).body,0,IntKind.wrap .u8 ((H_ (gt gone 0).mail).hops+1)⟩) (tick:=tick) hI.1 (Lq_ _)
      exact P0_ tick f _ _ _ (Qo_ hI hs.1 hs.2.1 hn rfl hm e4.1 hs.2.2 rfl e4.2) (Sy_ hn hf rfl hm e4.1 hs.2.2 rfl e4.2)
theorem Tz_ {s:C_} {gone:List OutR} {tick:Int} (h:StOk s) (hg:gone.length<=600/\∀ g∈gone,MlOk g.mail):StOk (Ba_ s gone tick).1:=
  P0_ tick _ gone 0 s (buryI0 h hg) (Nat.lt_succ_self _)
theorem settle_ok {s:C_} {d:DeedR} (h:StOk s):StOk (B2_ s d).1:=by
  unfold B2_ lt
  let Q:C_×Ae_×Int->Prop:=fun r=>StOk r.1
  refine bt (P:=Q) (fun _=>h) fun _=>?_
  refine bt (P:=Q) (fun _=>Bj_ h (kback_ok h.stk)) fun _=>?_
  have hr:=Jn_ (n:=d.name) (id:=d.id) h.stk
  refine bt (P:=Q) (fun _=>Tz_ (Bj_ h hr.1) ⟨by simp,fun g hg=>?_⟩) fun _=>Bj_ h hr.1
  rw[List.mem_singleton.1 hg];exact hr.2
theorem late_ok0 (t:Int):∀ (f:Nat) (gone:List OutR) (x:C_),StOk x->(∀ g∈gone,MlOk g.mail)->gone.length+nik x.x.stock<=512->nik x.x.stock<f->StOk (Cx_ t f gone x).1
  |0,_,_,_,_,_,h=>by omega
  |f+1,gone,x,h,hg,hl,hf=>by
    unfold Cx_ lt
    let Q:C_×Ae_->Prop:=fun r=>StOk r.1
    refine bt (P:=Q) (fun _=>Tz_ h ⟨by omega,hg⟩) fun e=>?_
    have e':(Z_ x.x.stock t).2.2=true:=by simpa using e
    have hr:=Jn_ (n:=(Z_ x.x.stock t).1) (id:=(Z_ x.x.stock t).2.1.id) h.stk
    refine late_ok0 t f _ _ (Bj_ h hr.1) (fun g q=>?_) (Yz_ h.stk rfl e' rfl hl) (Y0_ h.stk rfl e' rfl hf)
    rcases List.mem_append.1 q with q|q
    · exact hg g q
    · rw[List.mem_singleton.1 q];exact Uu_ h.stk
theorem late_ok {s:C_} {t:Int} (h:StOk s):StOk (Es_ s t).1:=
  late_ok0 t _ [] s h (fun _ h=>by cases h) (by have :=nik_r h.stk;simpa using this) (Nat.lt_succ_self _)
theorem put_ok {s:C_} {d:DeedR} (h:StOk s) (hd:DdOk d) (h0:0<=d.mail.hops):StOk (Dc_ s d).1:=by
  unfold Dc_ lt
  let Q:C_×Ae_×Int->Prop:=fun r=>StOk r.1
  have hs:=Ln_ (s:=s) (m:=H_ d.mail) (tick:=d.tick) h h0
  have hl:=Lm_ (s:=s) (m:=H_ d.mail) (tick:=d.tick) h
  exact bt (P:=Q) (fun _=>h) fun _=>Tz_ hs.1 ⟨by omega,hs.2.1⟩
theorem pull_ok {s:C_} {d:DeedR} (h:StOk s) (hd:DdOk d):StOk (C1_ s d).1:=by
  unfold C1_ lt
  let Q:C_×Ae_×Int->Prop:=fun r=>StOk r.1
  refine bt (P:=Q) (fun _=>h) fun _=>?_
  refine bt (P:=Q) (fun _=>h) fun _=>?_
  refine bt (P:=Q) (fun _=>h) fun _=>?_
  refine lt1E (P:=Q) StOk ?_ fun x hx=>?_
  · exact bt (P:=StOk) (fun _=>(I9_ (Cg_ h)).1) fun _=>Cg_ h
  · refine bt (P:=Q) (fun _=>(I9_ hx).1) fun _=>?_
    have hs:=Ln_ (s:=x) (m:=⟨(H_ d.mail).id,(H_ d.mail).shop,(H_ d.mail).key,(H_ d.mail).head,(H_ d.mail).body,(H_ d.mail).due,IntKind.wrap .u8 ((H_ d.mail).hops+1)⟩) (tick:=d.tick) hx (Lq_ _)
    have hl:=Lm_ (s:=x) (m:=⟨(H_ d.mail).id,(H_ d.mail).shop,(H_ d.mail).key,(H_ d.mail).head,(H_ d.mail).body,(H_ d.mail).due,IntKind.wrap .u8 ((H_ d.mail).hops+1)⟩) (tick:=d.tick) hx
    exact Tz_ hs.1 ⟨by omega,hs.2.1⟩
theorem lt3E {σ τ ρ β:Type} {P:β->Prop} {o:σ×τ×ρ} {f:σ->τ->ρ->β} (I:σ×τ×ρ->Prop) (ho:I o) (hf:∀ a b c,I (a,b,c)->P (f a b c)):P (lt3 o f):=hf _ _ _ ho
theorem T7_ {s:C_} {d:DeedR} (h:StOk s) (hd:DdOk d) (h0:0<=d.mail.hops):StOk (Bh_ s d).1:=by
  unfold Bh_ lt
  let Q:C_×Ae_×Int->Prop:=fun r=>StOk r.1
  refine bt (P:=Q) (fun _=>h) fun _=>?_
  let I:Int×C_×Ae_->Prop:=fun r=>StOk r.2.1
  refine lt3E (P:=Q) I ?_ fun a b c hb=>bt (P:=Q) (fun _=>h) fun _=>hb
  refine lt1E (P:=I) (fun _=>True) trivial fun v _=>?_
  refine bt (P:=I) (fun _=>queues_ok h) fun _=>?_
  refine bt (P:=I) (fun _=>put_ok h hd h0) fun _=>?_
  refine bt (P:=I) (fun _=>(lend_ok h).1) fun _=>?_
  refine bt (P:=I) (fun _=>settle_ok h) fun _=>?_
  refine bt (P:=I) (fun _=>late_ok h) fun _=>?_
  refine bt (P:=I) (fun _=>pull_ok h hd) fun _=>?_
  refine bt (P:=I) (fun _=>(I9_ (Bj_ h (kwake_ok h.stk))).1) fun _=>?_
  refine bt (P:=I) (fun _=>⟨⟨h.1.1,h.1.2.1,U6_ h.1.2.2.1,h.1.2.2.2⟩,h.2⟩) fun _=>?_
  exact shops_ok h hd
instance {σ ρ:Type} [Inhabited ρ]:Inhabited (Lo σ ρ):=⟨.ret default⟩
theorem has_fd (a:LabelR) (i:Int) (h:0<=a.set_):0<=a.set_.fdiv (2 ^ min i.toNat IntKind.u32.bits):=
  Int.fdiv_nonneg h (Int.le_of_lt (Int.pow_pos (by decide)))
theorem poOk_l {p:PolicyR} (h:PoOk p):p.places.length<=100000/\p.slots.length<=100000/\p.grants.length<=100000:=by
  obtain⟨_,h2,_,h4,h5,_⟩:=h
  omega
end Go.SW.V
