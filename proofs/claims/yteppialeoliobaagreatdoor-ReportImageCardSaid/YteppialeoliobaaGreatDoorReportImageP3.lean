/-
  A part of the proof of ReportImage: What is read of bytes is in its ranges.
-/
import Derived.Test.YteppialeoliobaaGreatDoorReportImageP2
import Derived.Test.YteppialeoliobaaGreatDoorReportImageP1
import Derived.ProofKit
import Derived.OpenShut
import Derived.Deep.Slices
import Derived.Carry
import Derived.Lib.LaidTab
import Derived.SizedLaws
import Derived.MapKept
import Derived.ChangeKeysEq
import Derived.Below
import Derived.Laws.AppendOwn
import Derived.Lib.FieldsP
import Derived.Lib.ParseIntB
import Derived.Lib.SmallJoins
set_option linter.unusedVariables false
set_option linter.unusedSimpArgs false
set_option maxRecDepth 100000
set_option maxHeartbeats 4000000
namespace Go.SW
theorem Tq_ (i:In):(Ea_ i).1.wf:=by
 unfold Ea_
 simp only
 have a:=Bv_ i 8
 have b:=Cv_ (Z_ i 8).2 16
 have c:=Cv_ (Y_ (Z_ i 8).2 16).2 64
 have h:=Nr_ (Y_ (Y_ (Z_ i 8).2 16).2 64).2
 have e:=Cv_ (Bw_ (Y_ (Y_ (Z_ i 8).2 16).2 64).2).2 256
 have f:=Bv_ (Y_ (Bw_ (Y_ (Y_ (Z_ i 8).2 16).2 64).2).2 256).2 8
 have g:=Bv_ (Z_ (Y_ (Bw_ (Y_ (Y_ (Z_ i 8).2 16).2 64).2).2 256).2 8).2 1
 repeat' split
 all_goals simp only[Mail.wf,Mail.zero]
 all_goals first|omega|(simp;done)
theorem L8_ {s r:Bs} {m:Int} (h1:(s.length:Int)<=m) (h2:(s.length:Int)<=65535):Y_ ⟨txtB s++r,0⟩ m=(s,⟨r,0⟩):=by
 unfold txtB
 rw[List.append_assoc]
 exact Of_ h1 h2
theorem head_fwd {l:List Pair} {r:Bs} (e:Hh_ l=0) (hw:∀ p∈l,p.wf):Bw_ ⟨r9B l++r,0⟩=(l,⟨r,0⟩):=by
 rw[<- O6_ e (λp hp=>(hw p hp).1.1)]
 exact Rb_ e hw
theorem Rt_ (i:In):Bo_ i 0=i:=by unfold Bo_;rw[if_neg (λh=>h.2 rfl)]
theorem Y9_ {m:Mail} {r:Bs} (hw:m.wf) (hh:∀ p∈m.head,p.wf) (h:Gt_ m=0):Ea_ ⟨Y8_ m++r,0⟩=(m,⟨r,0⟩):=by
 obtain⟨k1,k2,k3,k4,k5⟩:=Hs_ h
 obtain⟨w1,w2,w3,_⟩:=hw
 unfold Ea_ Y8_
 simp only[List.append_assoc]
 rw[H2_ w1.1 (by omega)]
 simp only
 rw[L8_ (by omega) (by omega)]
 simp only
 rw[L8_ (by omega) (by omega)]
 simp only
 rw[head_fwd k3 hh]
 simp only
 rw[L8_ (by omega) (by omega)]
 simp only
 rw[H2_ w2.1 (by omega)]
 simp only
 rw[K3_ w3.1 (by omega)]
 simp only[if_true]
 rw[show (⟨m.id,m.Bb_,m.key,m.head,m.body,m.due,m.hops⟩:Mail)=m from rfl,h,Rt_]
 rfl
theorem Iv_ {n:Nat} {r:Bs} (h:n<=255):Z_ ⟨numB 1 n++r,0⟩ 1=((n:Int),⟨r,0⟩):=by
 have :=K3_ (r:=r) (n:=(n:Int)) (by omega) (by omega)
 rwa [Int.toNat_natCast] at this
theorem Zo_:∀ (k:Nat) (i:In) (h:List Pair),(∀ p∈h,p.wf)->∀ p∈(Ic_ k i h).1,p.wf
 |0,_,h,hw=>hw
 |k+1,i,h,hw=>by
   rw[M9_ (p:=(Bm_ i).1) (q:=(Bm_ i).2) rfl]
   have key:∀ p∈h++[(Bm_ i).1],p.wf:=λp hp=>by
     rcases List.mem_append.1 hp with q|q
     . exact hw p q
     . rw[List.mem_singleton.1 q];exact readOne_wf i
   repeat' split
   all_goals first
     |exact Zo_ k _ _ key
     |exact λp hp=>absurd hp List.not_mem_nil
theorem headRead_pw (i:In):∀ p∈(Bw_ i).1,p.wf:=Zo_ _ _ _ (λ_ h=>by cases h)
structure Pm_ where
 l:List L_
deriving DecidableEq
def Pm_.cells (x:Pm_) (a1:Option Addr) (c1:Nat):List Value:=[.slice a1 x.l.length c1]
def Pm_.wf (x:Pm_):Prop:=x.l.length<=9223372036854775807
def Pm_.zero:Pm_:=⟨[]⟩
def Feed.pc (x:Feed):List PV:=[.str x.rest, .int .i64 x.err]
instance :Inhabited Feed:=⟨⟨[],0⟩⟩
def Out.pc (x:Out):List PV:=[.str x.s, .int .i64 x.err]
instance :Inhabited Out:=⟨⟨[],0⟩⟩
def In.pc (x:In):List PV:=[.str x.s, .int .i64 x.err]
instance :Inhabited In:=⟨⟨[],0⟩⟩
def RIn.pc (x:RIn):List PV:=[.str x.s, .int .i64 x.pos, .int .i64 x.code]
instance :Inhabited RIn:=⟨⟨[],0,0⟩⟩
def Pair.pc (x:Pair):List PV:=[.str x.key, .int .u8 x.kind, .int .i64 x.num, .str x.text]
instance :Inhabited Pair:=⟨⟨[],0,0,[]⟩⟩
theorem Pair.pwf {x:Pair} (h:PV.wfs (Pair.pc x)):Pair.wf x:=by
 simp only[Pair.pc,PV.wfs,PV.wf] at h
 simp only[Pair.wf]
 omega
def Frame.pc (x:Frame):List PV:=[.int .u8 x.channel, .int .u8 x.kind, .str x.body]
instance :Inhabited Frame:=⟨⟨0,0,[]⟩⟩
def W_.pc (x:W_):List PV:=[.str x.name, .int .u8 x.sort, .str x.to']
instance :Inhabited W_:=⟨⟨[],0,[]⟩⟩
theorem W_.pwf {x:W_} (h:PV.wfs (W_.pc x)):W_.wf x:=by
 simp only[W_.pc,PV.wfs,PV.wf] at h
 simp only[W_.wf]
 omega
def Q_.pc (x:Q_):List PV:=[.str x.name, .int .u64 x.most, .int .u64 x.life, .str x.dead]
instance :Inhabited Q_:=⟨⟨[],0,0,[]⟩⟩
def P_.pc (x:P_):List PV:=[.str x.Bb_, .str x.to', .bool x.up, .str x.key, .sl Pair.pc x.want, .bool x.all]
instance :Inhabited P_:=⟨⟨[],[],false,[],[],false⟩⟩
theorem P_.pwf {x:P_} (h:PV.wfs (P_.pc x)):P_.wf x:=by
 simp only[P_.pc,PV.wfs,PV.wf] at h
 simp only[P_.wf]
 omega
theorem P_.kd4 {x:P_} (h:PV.wfs (P_.pc x)):∀ p∈x.want,0<=p.kind:=λp hp=>by
 have q:=Pair.pwf (h.2.2.2.2.1.2 p hp)
 simp only[Pair.wf] at q
 omega
def Rule.pc (x:Rule):List PV:=[.int .u8 x.sort, .str x.key, .sl Pair.pc x.want, .bool x.all]
instance :Inhabited Rule:=⟨⟨0,[],[],false⟩⟩
theorem Rule.pwf {x:Rule} (h:PV.wfs (Rule.pc x)):Rule.wf x:=by
 simp only[Rule.pc,PV.wfs,PV.wf] at h
 simp only[Rule.wf]
 omega
theorem Rule.kd2 {x:Rule} (h:PV.wfs (Rule.pc x)):∀ p∈x.want,0<=p.kind:=λp hp=>by
 have q:=Pair.pwf (h.2.2.1.2 p hp)
 simp only[Pair.wf] at q
 omega
def Mail.pc (x:Mail):List PV:=[.int .u64 x.id, .str x.Bb_, .str x.key, .sl Pair.pc x.head, .str x.body, .int .u64 x.due, .int .u8 x.hops]
instance :Inhabited Mail:=⟨⟨0,[],[],[],[],0,0⟩⟩
theorem Mail.pwf {x:Mail} (h:PV.wfs (Mail.pc x)):Mail.wf x:=by
 simp only[Mail.pc,PV.wfs,PV.wf] at h
 simp only[Mail.wf]
 omega
theorem Mail.kd3 {x:Mail} (h:PV.wfs (Mail.pc x)):∀ p∈x.head,0<=p.kind:=λp hp=>by
 have q:=Pair.pwf (h.2.2.2.1.2 p hp)
 simp only[Pair.wf] at q
 omega
def Reply.pc (x:Reply):List PV:=[.int .u8 x.channel, .int .u8 x.kind, .int .u64 x.n, .int .u64 x.m, .bool x.yes, .str x.name, .int .u64 x.Ab_.id, .str x.Ab_.Bb_, .str x.Ab_.key, .sl Pair.pc x.Ab_.head, .str x.Ab_.body, .int .u64 x.Ab_.due, .int .u8 x.Ab_.hops]
instance :Inhabited Reply:=⟨⟨0,0,0,0,false,[],⟨0,[],[],[],[],0,0⟩⟩⟩
def Method.pc (x:Method):List PV:=[.int .u8 x.channel, .int .u8 x.kind, .str x.name, .str x.other, .str x.key, .sl Pair.pc x.head, .str x.body, .int .u64 x.n, .int .u64 x.m, .bool x.yes]
instance :Inhabited Method:=⟨⟨0,0,[],[],[],[],[],0,0,false⟩⟩
def L_.pc (x:L_):List PV:=[.int .u8 x.kind, .int .u64 x.tick, .str x.Bb_.name, .int .u8 x.Bb_.sort, .str x.Bb_.to', .str x.queue.name, .int .u64 x.queue.most, .int .u64 x.queue.life, .str x.queue.dead, .str x.bind.Bb_, .str x.bind.to', .bool x.bind.up, .str x.bind.key, .sl Pair.pc x.bind.want, .bool x.bind.all, .str x.name, .int .u64 x.id, .int .u8 x.how, .int .u8 x.frm, .int .u8 x.code, .int .u64 x.number, .int .u64 x.Ab_.id, .str x.Ab_.Bb_, .str x.Ab_.key, .sl Pair.pc x.Ab_.head, .str x.Ab_.body, .int .u64 x.Ab_.due, .int .u8 x.Ab_.hops, .str x.text]
instance :Inhabited L_:=⟨⟨0,0,⟨[],0,[]⟩,⟨[],0,0,[]⟩,⟨[],[],false,[],[],false⟩,[],0,0,0,0,0,⟨0,[],[],[],[],0,0⟩,[]⟩⟩
theorem L_.pwf {x:L_} (h:PV.wfs (L_.pc x)):L_.wf x:=by
 simp only[L_.pc,PV.wfs,PV.wf] at h
 simp only[L_.wf,W_.wf,Q_.wf,P_.wf,Mail.wf]
 omega
theorem L_.kd13 {x:L_} (h:PV.wfs (L_.pc x)):∀ p∈x.bind.want,0<=p.kind:=λp hp=>by
 have q:=Pair.pwf (h.2.2.2.2.2.2.2.2.2.2.2.2.2.1.2 p hp)
 simp only[Pair.wf] at q
 omega
theorem L_.kd24 {x:L_} (h:PV.wfs (L_.pc x)):∀ p∈x.Ab_.head,0<=p.kind:=λp hp=>by
 have q:=Pair.pwf (h.2.2.2.2.2.2.2.2.2.2.2.2.2.2.2.2.2.2.2.2.2.2.2.2.1.2 p hp)
 simp only[Pair.wf] at q
 omega
def Ap_.pc (x:Ap_):List PV:=[.sl W_.pc x.Ba_, .sl P_.pc x.binds]
instance :Inhabited Ap_:=⟨⟨[],[]⟩⟩
def Pm_.pc (x:Pm_):List PV:=[.sl L_.pc x.l]
instance :Inhabited Pm_:=⟨⟨[]⟩⟩
theorem idxF_b {α:Type} (p:α->Bool):∀ (l:List α) (k:Nat),idxF p k l = -1\/((k:Int)<=idxF p k l/\idxF p k l<k+l.length)
 |[],k=> .inl (by simp[idxF])
 |a::r,k=>by
   simp only[idxF]
   split
   . right;simp only[List.length_cons];omega
   . rcases idxF_b p r (k+1) with h|h
     . exact .inl h
     . right;simp only[List.length_cons];omega
theorem H8_ {α:Type} (p:α->Bool) (l:List α):-1<=idxP p l/\idxP p l<l.length:=by
 rcases idxF_b p l 0 with h|h<;>simp only[idxP]<;>omega
theorem Sy_ {α:Type} (p:α->Bool):∀ (l:List α) (k:Nat),(idxF p k l<0->l.find? p=none)/\(0<=idxF p k l->∀ c,l[(idxF p k l).toNat-k]? = some c->p c=true/\l.find? p=some c)
 |[],k=>⟨λ_=>rfl,λh=>by simp[idxF] at h⟩
 |a::r,k=>by
   obtain⟨h1,h2⟩:=Sy_ p r (k+1)
   have hr:=idxF_b p r (k+1)
   simp only[idxF]
   by_cases ha:p a=true
   . simp only[ha,if_true]
     refine⟨λh=>by omega,λ_ c hc=>?_⟩
     have :((k:Int)).toNat-k=0:=by omega
     rw[this] at hc
     simp at hc
     subst hc
     exact⟨ha,by simp[ha]⟩
   . have hf:p a=false:=by simpa using ha
     simp only[hf,if_false,Bool.false_eq_true,List.find?_cons]
     refine⟨h1,λh0 c hc=>?_⟩
     refine h2 h0 c ?_
     have e:(idxF p (k+1) r).toNat-k=((idxF p (k+1) r).toNat-(k+1))+1:=by omega
     rw[e] at hc
     simpa using hc
theorem Pt_ {α:Type} {p:α->Bool} {l:List α} (h:idxP p l<0):l.find? p=none:=(Sy_ p l 0).1 h
theorem idxP_get {α:Type} {p:α->Bool} {l:List α} {c:α} (h0:¬idxP p l<0) (h:l[(idxP p l).toNat]? = some c):p c=true/\l.find? p=some c:=(Sy_ p l 0).2 (by simp only[idxP] at h0;omega) c (by simpa [idxP] using h)
theorem getJ {α:Type} [Inhabited α] (xs:List α) (m:Nat):∃ c,(m<xs.length->xs[m]? = some c):=by
 by_cases h:m<xs.length
 . exact⟨xs[m],λ_=>List.getElem?_eq_getElem h⟩
 . exact⟨default,λq=>absurd q h⟩
end Go.SW
namespace Go.SW.V
open Go.SW
def lt {α β:Type} (a:α) (f:α->β):β:=f a
theorem C3_ {α β:Type} {a r:α} {f:α->β} (h:r=a):lt a f=f r:=by subst h;rfl
theorem condT {α:Type} {c:Bool} {a b:α} (h:c=true):(bif c then a else b)=a:=by rw[h];rfl
theorem condF {α:Type} {c:Bool} {a b:α} (h:c=false):(bif c then a else b)=b:=by rw[h];rfl
inductive Lo (σ ρ:Type) where
 |fin (s:σ)
 |ret (r:ρ)
def lp0 {ρ β:Type} (o:Lo Unit ρ) (f:β) (g:ρ->β):β:=match o with
 | .fin _=>f
 | .ret r=>g r
theorem Tk_ {ρ β:Type} {l:β} {o:Lo Unit ρ} {f:β} {g:ρ->β} (h:l=lp0 o f g) (k:o = .fin ()):l=f:=by subst k;exact h
theorem Km_ {ρ β:Type} {l:β} {o:Lo Unit ρ} {f:β} {g:ρ->β} {r:ρ} (h:l=lp0 o f g) (k:o = .ret r):l=g r:=by subst k;exact h
theorem Ny_ {ρ β:Type} {l:β} {X:Lo Unit ρ} {f:β} {g:ρ->β} (h:l=lp0 X f g):∃ o,o=X/\l=lp0 o f g:=⟨_,rfl,h⟩
def lp1 {σ1 ρ β:Type} (o:Lo (σ1) ρ) (f:σ1->β) (g:ρ->β):β:=match o with
 | .fin s=>f s
 | .ret r=>g r
theorem lp1_fin {σ1 ρ β:Type} {l:β} {o:Lo (σ1) ρ} {f:σ1->β} {g:ρ->β} {a1:σ1} (h:l=lp1 o f g) (k:o = .fin a1):l=f a1:=by subst k;exact h
theorem lp1_ret {σ1 ρ β:Type} {l:β} {o:Lo (σ1) ρ} {f:σ1->β} {g:ρ->β} {r:ρ} (h:l=lp1 o f g) (k:o = .ret r):l=g r:=by subst k;exact h
theorem lp1_split {σ1 ρ β:Type} {l:β} {X:Lo (σ1) ρ} {f:σ1->β} {g:ρ->β} (h:l=lp1 X f g):∃ o,o=X/\l=lp1 o f g:=⟨_,rfl,h⟩
def lt1 {σ1 β:Type} (s:σ1) (f:σ1->β):β:=f s
theorem J1_ {σ1 β:Type} {l:β} {o:σ1} {f:σ1->β} {a1:σ1} (h:l=lt1 o f) (k:o=a1):l=f a1:=by subst k;exact h
theorem Hl_ {σ1 β:Type} {l:β} {X:σ1} {f:σ1->β} (h:l=lt1 X f):∃ o,o=X/\l=lt1 o f:=⟨_,rfl,h⟩
def lp2 {σ1 σ2 ρ β:Type} (o:Lo (σ1×σ2) ρ) (f:σ1->σ2->β) (g:ρ->β):β:=match o with
 | .fin s=>f s.1 s.2
 | .ret r=>g r
theorem lp2_fin {σ1 σ2 ρ β:Type} {l:β} {o:Lo (σ1×σ2) ρ} {f:σ1->σ2->β} {g:ρ->β} {a1:σ1} {a2:σ2} (h:l=lp2 o f g) (k:o = .fin (a1,a2)):l=f a1 a2:=by subst k;exact h
theorem lp2_ret {σ1 σ2 ρ β:Type} {l:β} {o:Lo (σ1×σ2) ρ} {f:σ1->σ2->β} {g:ρ->β} {r:ρ} (h:l=lp2 o f g) (k:o = .ret r):l=g r:=by subst k;exact h
theorem lp2_split {σ1 σ2 ρ β:Type} {l:β} {X:Lo (σ1×σ2) ρ} {f:σ1->σ2->β} {g:ρ->β} (h:l=lp2 X f g):∃ o,o=X/\l=lp2 o f g:=⟨_,rfl,h⟩
def lt2 {σ1 σ2 β:Type} (s:σ1×σ2) (f:σ1->σ2->β):β:=f s.1 s.2
theorem lt2_fin {σ1 σ2 β:Type} {l:β} {o:σ1×σ2} {f:σ1->σ2->β} {a1:σ1} {a2:σ2} (h:l=lt2 o f) (k:o=(a1,a2)):l=f a1 a2:=by subst k;exact h
theorem Y7_ {σ1 σ2 β:Type} {l:β} {X:σ1×σ2} {f:σ1->σ2->β} (h:l=lt2 X f):∃ o,o=X/\l=lt2 o f:=⟨_,rfl,h⟩
def lt3 {σ1 σ2 σ3 β:Type} (s:σ1×σ2×σ3) (f:σ1->σ2->σ3->β):β:=f s.1 s.2.1 s.2.2
theorem lt3_fin {σ1 σ2 σ3 β:Type} {l:β} {o:σ1×σ2×σ3} {f:σ1->σ2->σ3->β} {a1:σ1} {a2:σ2} {a3:σ3} (h:l=lt3 o f) (k:o=(a1,a2,a3)):l=f a1 a2 a3:=by subst k;exact h
theorem lt3_split {σ1 σ2 σ3 β:Type} {l:β} {X:σ1×σ2×σ3} {f:σ1->σ2->σ3->β} (h:l=lt3 X f):∃ o,o=X/\l=lt3 o f:=⟨_,rfl,h⟩
def gt {α:Type} [Inhabited α] (xs:List α) (k:Nat):α:=xs.getD k default
theorem getG {α:Type} [Inhabited α] {xs:List α} {k:Nat} (h:k<xs.length):xs[k]? = some (gt xs k):=by
 rw[gt,List.getD_eq_getElem?_getD,List.getElem?_eq_getElem h];rfl
theorem Gs_ {α:Type} [Inhabited α] {xs:List α} {k:Nat} (h:k<xs.length):xs.drop k=gt xs k::xs.drop (k+1):=E3_ (getG h)
theorem Gy_ {α:Type} {xs:List α} {k:Nat} (h:¬k<xs.length):xs.drop k=[]:=List.drop_of_length_le (by omega)
theorem C5_ {α τ:Type} {l:τ} {xs ys:List α} {f:List α->τ} {v:τ} (e:l=f xs) (h:xs=ys) (k:f ys=v):l=v:=by subst h;exact e.trans k
theorem Am_ {α:Type} {p:PV} {a v:α} (f:α->PV) (e:a=v) (h:PLe p (f v)):PLe p (f a):=by subst e;exact h
theorem N2_ {α:Type} {ps:List PV} {a v:α} (f:α->List PV) (e:a=v) (h:PLes ps (f v)):PLes ps (f a):=by subst e;exact h
variable {P:Program} {n:Nat} {N:Rest} {H0:Env} {all rest:List Oper} {Q:Qs} {ks:List Kt} {fF:Nat->PV} {fL:Nat->Blk} {T T' T2 ty d:Nat} {pos:String} {af:Array Edge} {x y z:Operand} {K:St->Prop} {op:Op} {p:PV}
theorem Ii_ {ι:Type} {X:Code} (keep kL:List Nat) (lv:ι->List (Nat×PV)) (lL:ι->List (Nat×Blk)) (Φ:ι->Prop) (h:Hd P n N H0 Q (.code X) (.lp (LJ (λx=>⟨mkF (lv x) keep fF,mkL (lL x) kL fL⟩) Φ (λ_=>0) 1)::ks) ⟨fF,fL⟩) (k:∀ x,Φ x->Hd P n N H0 Q (.ex .normal) ks ⟨mkF (lv x) keep fF,mkL (lL x) kL fL⟩):Hd P n N H0 Q (.code X) ks ⟨fF,fL⟩:=by
 intro F H L ha
 refine Jk_ (λe F' H' L' hq=>?_) (h F H L ha)
 obtain⟨s',ha',hq'⟩:=hq
 cases e with
 |normal=>obtain⟨x,h1,_,h3⟩:=hq';exact⟨_,h3 _ _ _ _ ha',k x h1⟩
 |_=>exact⟨s',ha',hq'⟩
theorem callv {α:Type} (g:α) (res:α->PV) {f:FuncId} {args:List PV} {xs:Array Operand} {ats:Array TypeId} (h:Fn P H0.g f args (res g)) (ha:argsP fF x xs.toList=some (f,args)) (hd:Nat.blt d n=true) (k:∀ r,r=g->(res r).wf->Hd P n N H0 Q (.ops all rest) ks ⟨updp fF d (res r),fL⟩):Hd P n N H0 Q (.ops all (⟨some d, .call ⟨.value x,xs,ats⟩,ty,pos,af,none⟩::rest)) ks ⟨fF,fL⟩:=call h ha hd (k g rfl)
theorem lj_le {ι:Type} {S:ι->St} {Φ:ι->Prop} {μ:ι->Nat} {m:Nat} {s s':St} (h:StLe s s') (k:Hd P n N H0 Q (.ex .normal) (.lp (LJ S Φ μ m)::ks) s'):Hd P n N H0 Q (.ex .normal) (.lp (LJ S Φ μ m)::ks) s:=by
 obtain⟨x,h1,h2,h3⟩:=k
 exact⟨x,h1,h2,h.trans h3⟩
theorem lj_osl {α:Type} {ι:Type} {S:ι->St} {Φ:ι->Prop} {μ:ι->Nat} {m t k e:Nat} {u:Value} {enc:α->List PV} {xs:List α} (i:Nat) (hF:fF t = .val u) (hL:fL i = .arr u k e enc xs) (kk:Hd P n N H0 Q (.ex .normal) (.lp (LJ S Φ μ m)::ks) ⟨updp fF t (.osl i),fL⟩):Hd P n N H0 Q (.ex .normal) (.lp (LJ S Φ μ m)::ks) ⟨fF,fL⟩:=lj_le (λ_ _ _ _ ha=>val_osl ha hF hL) kk
theorem bcase {p:Prop} (b:Bool) (ht:b=true->p) (hf:b=false->p):p:=by cases b;exact hf rfl;exact ht rfl
theorem ple_gv {c:Bool} {p:PV} (h:c=true):PLe (.gv c p) p:=by
 subst h
 intro H v hv
 rcases hv.inv_gv with ⟨_,h⟩|⟨h,_⟩
 . exact h
 . cases h
theorem eweak {o:Oper} {i:Nat} (h:E1 P n N H0 all o none ⟨fF,fL⟩ K):E1 P n N H0 all o (some i) ⟨fF,fL⟩ K:=λF H L ha=>(h F H L ha).imp λF' H' L' ⟨x,y,z⟩=>⟨x,λq _=>y q (by simp),z⟩
theorem Uf_ {α:Type} {e k:Nat} {u:Value} {enc:α->List PV} {xs:List α} {o:Oper} (i:Nat) (hb:fL i = .arr u k e enc xs) (h:E1 P n N H0 all o (some i) ⟨Wi_ i enc xs fF,Uh_ i enc xs fL⟩ K):E1 P n N H0 all o (some i) ⟨fF,fL⟩ K:=by
 intro F H L ha a w hA hm
 obtain⟨H1,hl1,hg1,hm1⟩:=hm.giveO (i:=i) rfl
 have ha1:=ha.give hb hl1 hg1
 exact (h F H1 (lupd L i none) ha1).imp (λF' H' L' ⟨x,y,z⟩=>⟨hl1.trans x,λq hq=>(y q hq).trans (B8_ _ _ _ _ λe=>hq (by rw[e])),z⟩) a w hA hm1
end Go.SW.V
namespace Go.SW
end Go.SW
namespace Go.SW.V
open Go.SW
theorem B3_ {α:Type} {xs:List (List α)} {k:Nat} {c:List α} (h:xs[k]? = some c):(xs.take (k+1)).flatten=(xs.take k).flatten++c:=by
 rw[takeE h,List.flatten_append];simp
theorem D9_ {α:Type} (xs:List (List α)) (k:Nat):(xs.take k).flatten.length<=xs.flatten.length:=by
 have :=congrArg (λl:List (List α)=>l.flatten.length) (List.take_append_drop k xs)
 simp only[List.flatten_append,List.length_append] at this
 omega
theorem Me_ {α:Type} {xs:List (List α)} {k:Nat} (h:xs.length<=k):(xs.take k).flatten=xs.flatten:=by rw[List.take_of_length_le h]
end Go.SW.V
namespace Go.SW
end Go.SW
namespace Go.SW
open Go.ChangeShapes Go.WideShapes Go.ChangeAt Go.RowKit
def hp (w:World):Hp:=λb=>w.heap[b]?
def rest0 (w:World):Rest:=⟨λ_=>none,w.os,w.tape,w.output⟩
theorem mem0 (w:World):Mem (rest0 w) (hp w) l0 w:=
 {os:=rfl,tape:=rfl,output:=rfl,n:=λ_ _ h=>(by cases h),h:=λ_ _ h=>h,l:=λ_ _ _ h=>(by cases h),nh:=λ_ _ h=>(by cases h),nl:=λ_ _ _ h=>(by cases h),ll:=λ_ _ _ _ _ h=>(by cases h)}
theorem mem0_below {w w':World} {L:Ls} (h:Mem (rest0 w) (hp w) L w'):Below w.heap.size w w':=by
 have hb:∀ k,k<w.heap.size->w'.heap[k]? = w.heap[k]? :=λk hk=>by
   have e:w.heap[k]? = some w.heap[k]:=Array.getElem?_eq_getElem hk
   rw[e];exact h.h k _ e
 refine⟨h.os,h.tape,h.output,?_,hb⟩
 by_cases z:w.heap.size=0
 . omega
 . have :=hb (w.heap.size-1) (by omega)
   rw[Array.getElem?_eq_getElem (show w.heap.size-1<w.heap.size by omega)] at this
   have :=(Array.getElem?_eq_some_iff.1 this).1
   omega
section
variable {Ht:Type} {enc:TypeId×Value->Ht} {P:Program} {w:World} {base fuel:Nat} {spare:Nat->Bool} {held:Bool} {cs:List Value} {x:DataW Ht×List MemPlace} {t:TypeId}
theorem rd_int {k:IntKind} (ht:P.underlying t=some (.int k)) (h:DataW.trod enc P w base spare held fuel t cs=some x):∃ z:Int,cs=[.int k z]/\k.min<=z/\z<=k.max:=by
 obtain⟨z,h1,_,h2⟩:=DataW.trod_int ht h
 refine⟨z,h1,?_⟩
 simp only[Lit.wf,Bool.and_eq_true,decide_eq_true_eq] at h2;exact h2
theorem rd_bool (ht:P.underlying t=some .bool) (h:DataW.trod enc P w base spare held fuel t cs=some x):∃ z:Bool,cs=[.bool z]:=by
 obtain⟨z,h1,_⟩:=DataW.trod_bool ht h
 exact⟨z,h1⟩
theorem rd_str (ht:P.underlying t=some .string) (h:DataW.trod enc P w base spare held fuel t cs=some x):∃ s:Bs,cs=[str s]/\s.length<=9223372036854775807:=by
 obtain⟨s,h1,_,h2⟩:=DataW.trod_string ht h
 refine⟨s.data.toList,by rw[h1,str_of],?_⟩
 have :s.data.toList.length=s.size:=Array.length_toList
 rw[this];exact h2
theorem list_of {α:Type} {Q:Nat->α->Prop}:∀ n,(∀ i,i<n->∃ r,Q i r)->∃ rs:List α,rs.length=n/\∀ i (h:i<rs.length),Q i rs[i]
 |0,_=>⟨[],rfl,λi h=>by cases h⟩
 |n+1,hq=>by
   obtain⟨rs,hl,hr⟩:=list_of n (λi hi=>hq i (by omega))
   obtain⟨r,hr0⟩:=hq n (by omega)
   refine⟨rs++[r],by simp[hl],λi hi=>?_⟩
   by_cases e:i<rs.length
   . rw[List.getElem_append_left e];exact hr i e
   . have :i=rs.length:=by simp at hi;omega
     subst this
     rw[List.getElem_append_right (Nat.le_refl _)]
     simp only[Nat.sub_self,List.getElem_cons_zero]
     rw[hl];exact hr0
theorem rd_fld {fs:Array Field} {xs:List (DataW Ht×List MemPlace)} {n i o k:Nat} {f:Field} {ft:TypeId} (hf:∀ (i:Nat) (f:Field),fs[i]? = some f->DataW.trod enc P w base spare held n f.type ((cs.drop f.offset).take (P.cellsOf f.type))=xs[i]?) (hl:xs.length=fs.size)
   (hi:fs[i]? = some f) (ho:f.offset=o) (ht:f.type=ft) (hk:P.cellsOf ft=k):∃ y,DataW.trod enc P w base spare held n ft ((cs.drop o).take k)=some y:=by
 have h:=hf i f hi
 have hlt:i<fs.size:=(Array.getElem?_eq_some_iff.1 hi).1
 rw[ho,ht,hk,List.getElem?_eq_getElem (by omega)] at h
 exact⟨_,h⟩
end
theorem rd_agg {Ht:Type} {enc:TypeId×Value->Ht} {P:Program} {w:World} {r:Reach} {b0 base:Nat} {spare:Nat->Bool} {held:Bool} {t:TypeId} {fs:Array Field} {v:Value} {d:DataW Ht} {p:List MemPlace} (hs:P.underlying t=some (.struct fs)) (hv:Value.okWide P w r b0 t v)
   (h:DataW.Trod enc P w base spare held t v d p):∃ (l:List Value) (fuel:Nat),v = .agg l.toArray/\DataW.trod enc P w base spare held fuel t l=some (d,p):=by
 obtain⟨cs,rfl,_⟩:=okWide_struct hs hv
 obtain⟨fuel,hf⟩:=h
 exact⟨cs.toList,fuel,rfl,hf⟩
theorem params_ok {P:Program} {ts:Array TypeId} (h:(ts.toList.all λt=>P.readableRec t && decide (t<P.types.size))=true):∀ t∈ts.toList,P.readableRec t=true/\t<P.types.size:=λt ht=>by
 have :=List.all_eq_true.1 h t ht
 simpa using this
theorem rd_one_int {Ht:Type} {enc:TypeId×Value->Ht} {P:Program} {w:World} {r:Reach} {b0 base:Nat} {spare:Nat->Bool} {held:Bool} {t:TypeId} {k:IntKind} {v:Value} {d:DataW Ht} {p:List MemPlace} (hs:P.underlying t=some (.int k)) (hv:Value.okWide P w r b0 t v)
   (h:DataW.Trod enc P w base spare held t v d p):∃ z:Int,v = .int k z/\k.min<=z/\z<=k.max:=by
 obtain⟨z,rfl,_,_,hw⟩:=open_int hs hv h
 refine⟨z,rfl,?_⟩
 simp only[Lit.wf,Bool.and_eq_true,decide_eq_true_eq] at hw;exact hw
def flatD:Nat->DataW Unit->List Value
 |_, .lit (.int k n)=>[.int k n]
 |_, .lit (.string s)=>[.string ⟨s.toArray⟩]
 |_, .lit (.bool b)=>[.bool b]
 |n+1, .agg l=>l.flatMap (flatD n)
 |_,_=>[]
def layD (d:DataW Unit):Obj->Obj
 | .cells _ t frozen=> .cells (flatD 5 d).toArray t frozen
 |o=>o
theorem Xi_ {Ht:Type} {enc:TypeId×Value->Ht} {P:Program} (hl:laidOutB P=true) {W W':World} (hb:Below W.heap.size W W') {sp:Nat->Bool}:∀ {ts:List TypeId} {vs:List Value} {ds:List (DataW Ht)} {ps:List MemPlace},(∀ t∈ts,P.readableRec t=true/\t<P.types.size) ->
   DataW.TrodAll enc P W 0 (λ_=>true) true ts vs ds ps->(∀ x∈ps,x.block<W.heap.size)->(∀ x∈ps,sp x.block=true)->DataW.TrodAll enc P W' 0 sp true ts vs ds ps:=by
 intro ts
 induction ts with
 |nil=>intro vs ds ps _ h _ _;cases vs<;>cases ds<;>first|exact h|exact h.elim
 |cons t ts ih=>
   intro vs ds ps hr h hlt hsp
   obtain⟨v,vs',d,ds',p,q,rfl,rfl,rfl,h1,h2⟩:=trodAll_cons h
   exact trodAll_cons_mk (WideElems.Trod_stays hl (hr t (by simp)).1 (hr t (by simp)).2 h1 (λx hx=>hb.same (hlt x (by simp[hx]))) (λx hx=>hsp x (by simp[hx]))) (ih (λu hu=>hr u (by simp[hu])) h2 (λx hx=>hlt x (by simp[hx])) (λx hx=>hsp x (by simp[hx])))
section
variable {Ht:Type} {enc:TypeId×Value->Ht} {P:Program}
theorem law_post {f:Func} {s:ChangeSpec} {apart fresh again:Bool} {W W':World} {args:Array Value} {ds:List (DataW Ht)} {before:List MemPlace} {tb:TypeId} (hvars:s.vars=[])
   (hW:DataW.Whole enc P f.params.toList s.vars apart W args.toList ds [] before) (hb:Below W.heap.size W W') (hl:laidOutB P=true) (hr:∀ t∈f.params.toList,P.readableRec t=true/\t<P.types.size)
   (hres:f.resultTypes = #[tb]) (hu:P.underlying tb=some .bool) (hfn:s.fn Ht (ds++[])={results:=[.lit (.bool true)],args:=ds}):s.post enc P f apart fresh false again W args (.bool true) W':=by
 have hlt:∀ p∈before,p.block<W.heap.size:=λp hp=>hW.lt p hp
 have hold:∀ p∈before,(λb=>decide (b<W.heap.size)) p.block=true:=λp hp=>by simpa using hlt p hp
 have hW0:=hW
 obtain⟨p,q,hA,hV,rfl,hz,hn⟩:=hW0
 have hq:q=[]:=by
   rw[hvars] at hV
   exact (trodVars_none hV).2
 subst hq
 rw[List.append_nil] at hlt hold hz hn hW
 have hA0:DataW.TrodAll enc P W 0 (λ_=>true) true f.params.toList args.toList ds p:=hA
 have hargs:∀ sp:Nat->Bool,(∀ x∈p,sp x.block=true)->DataW.TrodAll enc P W' 0 sp true f.params.toList args.toList ds p:=λsp hs=>Xi_ hl hb hr hA0 hlt hs
 have hvs:∀ sp:Nat->Bool,DataW.TrodVars enc P W' sp s.vars ([]:List (DataW Ht)) []:=λsp=>by rw[hvars];rfl
 have hR:∀ (b:Nat) (sp:Nat->Bool) (hd:Bool),DataW.TrodAll enc P W' b sp hd f.resultTypes.toList ((Value.bool true).resultList f.resultTypes.size) [.lit (.bool true)] []:=λb sp hd=>by
   rw[hres]
   exact trodAll_mk1 (shut_bool hu true)
 have hok:∀ (j:Nat) (t:TypeId) (r:Value),f.resultTypes[j]? = some t->((Value.bool true).resultList f.resultTypes.size)[j]? = some r->Value.okWide P W' .any 0 t r:=ok_one hres rfl (okWide_bool_mk hu true)
 refine⟨ds,[],p,[],p,[],hW,?_,?_,?_,World.keptBut_mono (λx hx=>⟨hx,Or.inr (by simpa using hx)⟩) (hb.frame (· ∈ p)),λ_=>?_⟩
 . rw[hfn];exact hR _ _ _
 . rw[hfn];exact hargs _ hold
 . rw[hfn];exact hvs _
 . refine⟨hok,_,_,([]++p)++[],⟨[]++p,[],trodAll_append (hargs _ (λ_ _=>rfl)) (hR _ _ _),hvs _,rfl,?_,?_⟩,?_⟩
   . intro b off hp
     have hin:MemPlace.cell b off∈p:=by simpa using hp
     rw[hb.frozen (hlt _ hin)]
     exact hz b off hin
   . intro ha
     have :=hn ha
     simpa using this
   . intro x hx _
     simpa using hx
theorem Wh_ {w:World} {g:Nat} {t:TypeId} {zero:Array Value} (h:w.ShapedOpen P) (hg:g<P.globals.size)
   (h0:((begin P (λ_ _=>0) default).world.heap[g]?).bind Obj.row?=some (zero,t)) (hz:zero.size=1)
   (hb:P.buildable t=true) (hc:P.cellTypes P.depth t=some [t]) (hu:P.underlying t=some (.int .i64)):GInt (hp w) g:=by
 obtain⟨cs,hh,hs,hr⟩:=h.1 g zero t hg h0
 obtain⟨ts,hts,_,hall⟩:=hr hb
 rw[hc] at hts
 cases hts
 have h1:0<cs.size:=by omega
 obtain⟨u,hu',hok⟩:=hall 0 cs[0] (by simp[h1])
 have :u=t:=by simpa using hu'.symm
 subst this
 unfold Cell.ok at hok
 rw[hu] at hok
 have hv:∃ m,cs[0] = .int .i64 m:=by
   cases hv:cs[0]<;>rw[hv] at hok<;>first|exact⟨_,by rw[hok.1]⟩|simp at hok
 obtain⟨m,hm⟩:=hv
 refine⟨m,u,(0,0),?_⟩
 show w.heap[g]? = _
 rw[hh]
 have e:cs = #[.int .i64 m]:=by
   apply Array.ext
   . simp;omega
   . intro i hi1 hi2
     have :i=0:=by simp at hi2;omega
     subst this
     simpa using hm
 rw[e]
theorem gtab_of {w:World} {g n:Nat} {name:String} {k:IntKind} {zs:List Int} {rest:List (String×DataW Unit)} {t e:TypeId} (hg:P.globalNamed name=some g) (hty:(P.globals[g]?).map (·.type)=some t) (ht:P.underlying t=some (.array n e)) (he:P.underlying e=some (.int k)) (hce:P.cellsOf e=1) (hct:P.cellsOf t=n)
   (h:laidMet P ((name,Lib.tabData k zs)::rest) w):∃ T fr,hp w g=some (.cells (zs.map (Value.int k)).toArray T fr):=by
 have hT:=Lib.tabIs_of_head hg hty ht he hce hct h
 unfold Lib.TabIs World.var? at hT
 rw[hg] at hT
 simp only[Option.bind_some] at hT
 split at hT
 . rename_i cs T fr hh
   cases hT
   exact⟨T,fr,hh⟩
 . cases hT
end
variable {P:Program}
theorem dat_slice {Ht:Type} {enc:TypeId×Value->Ht} {w:World} {base fuel:Nat} {spare:Nat->Bool} {held:Bool} {a:Option Addr} {l c:Nat} {x:DataW Ht×List MemPlace} {t e:TypeId} (ht:P.underlying t=some (.slice e))
   (h:DataW.trod enc P w base spare held fuel t [.slice a l c]=some x):x.1 = .nil/\l=0\/∃ el sp,x.1 = .slice el sp/\el.length=l:=by
 rcases Go.Deep.open_slice ht h with ⟨h1,h2⟩|⟨a',len,cap,m,nf,D,Pl,h1,_,hl,hm,hmm,hx,_⟩
 . cases h1;subst h2;exact .inl ⟨rfl,rfl⟩
 . cases h1;subst hx;exact .inr ⟨_,_,rfl,by simp⟩
theorem Zm_ {w:World} {r:Reach} {b0:Nat} {t e:TypeId} {v:Value} {a:Option Addr} {l c:Nat} (hs:P.underlying t=some (.slice e)) (hv:Value.okWide P w r b0 t v) (he:v.cells.toList=[.slice a l c]):v = .slice a l c:=by
 unfold Value.okWide at hv
 rw[hs] at hv
 simp only at hv
 unfold Cell.okWide at hv
 rw[hs] at hv
 cases v with
 |agg cs=>simp[Cell.ok,hs] at hv
 |_=>exact (List.cons.inj he).1
end Go.SW
namespace Go.SW
open Go.ChangeShapes Go.WideShapes Go.ChangeAt Go.RowKit
variable {P:Program}
def Rdv {α:Type} (P:Program) (t:TypeId) (en:α->List PV) (k:Nat):Prop:=
 ∀ (Ht:Type) (enc:TypeId×Value->Ht) (w:World) (base:Nat) (spare:Nat->Bool) (held:Bool) (fuel:Nat) (cs:List Value) (x:DataW Ht×List MemPlace),
   DataW.trod enc P w base spare held fuel t cs=some x->(∀ n∈x.1.weights P t,n<=reachBytes)->∃ r:α,RowE en k (hp w) r cs
theorem rowE1 {α:Type} {en:α->List PV} {H:Hp} {r:α} {p:PV} {v:Value} (he:en r=[p]) (h:Sim H p v) (ho:v.oneCell'=true):RowE en 1 H r [v]:=
 ⟨by rw[he];rfl,by rw[he];exact Sims.nil.cons h,λu hu=>by rw[List.mem_singleton.1 hu];exact ho⟩
theorem F0_ {k:IntKind} {t:TypeId} (ht:P.underlying t=some (.int k)):Rdv P t (λz:Int=>[.int k z]) 1:=λ_ _ _ _ _ _ _ _ _ h _=>by
 obtain⟨z,rfl,h1,h2⟩:=rd_int ht h
 exact⟨z,rowE1 rfl (.int h1 h2) rfl⟩
theorem rdv_bool {t:TypeId} (ht:P.underlying t=some .bool):Rdv P t (λz:Bool=>[.bool z]) 1:=λ_ _ _ _ _ _ _ _ _ h _=>by
 obtain⟨z,rfl⟩:=rd_bool ht h
 exact⟨z,rowE1 rfl .bool rfl⟩
theorem I6_ {t:TypeId} (ht:P.underlying t=some .string):Rdv P t (λs:Bs=>[.str s]) 1:=λ_ _ _ _ _ _ _ _ _ h _=>by
 obtain⟨s,rfl,h1⟩:=rd_str ht h
 exact⟨s,rowE1 rfl (.str h1) rfl⟩
theorem O3_ {H:Type} {e:TypeId}:∀ {ds:List (DataW H)} {d:DataW H} {n:Nat},d∈ds->n∈d.weights P e->n∈DataW.weightsAll P e ds
 |[],_,_,h,_=>by cases h
 |d0::r,d,n,h,hn=>by
   simp only[DataW.weightsAll,List.mem_append]
   rcases List.mem_cons.1 h with rfl|q
   . exact .inl hn
   . exact .inr (O3_ q hn)
theorem N4_ {α:Type} {en:α->List PV} {k:Nat} {t e:TypeId} (ht:P.underlying t=some (.slice e)) (hk:P.cellsOf e=k) (h0:0<k) (hb:0<P.bytesOf e) (he:Rdv P e en k):Rdv P t (λxs:List α=>[.sl en xs]) 1:=λHt enc w base spare held fuel cs x h hw=>by
 have hlen:∀ {a:Option Addr} {l c:Nat},cs=[.slice a l c]->l<=140737488355328:=λ{a l c} hcs=>by
   subst hcs
   rcases dat_slice ht h with ⟨_,rfl⟩|⟨el,sp,hx,rfl⟩
   . exact Nat.zero_le _
   . have :=hw ((el.length+sp.length)*P.bytesOf e) (by rw[hx];simp[DataW.weights,ht])
     have h1:el.length<=(el.length+sp.length)*P.bytesOf e:=Nat.le_trans (Nat.le_add_right _ _) (Nat.le_mul_of_pos_right _ hb)
     have h2:reachBytes=140737488351232:=by decide
     omega
 rcases Go.Deep.open_slice ht h with ⟨h1,_⟩|⟨a,len,cap,m,nf,D,Pl,h1,_,hl,hm,hmm,hx,hi⟩
 . subst h1
   exact⟨[],rowE1 rfl (Sim.of_slh (k:=0) slh_nil (by simp)) rfl⟩
 . have hs0:0<len->a=⟨a.block,a.off,none⟩:=by
     intro hl0
     obtain⟨cs',hc,hT⟩:=hi 0 (by rw[hmm];split<;>omega)
     rw[hk,Nat.zero_mul] at hc
     obtain⟨_,hcl,hat⟩:=World.cells?_some hc
     have ha0:=hat 0 h0
     rw[List.getElem?_eq_getElem (by omega)] at ha0
     obtain⟨ab,ao,asp⟩:=a
     cases asp with
     |none=>rfl
     |some z=>
       exfalso
       unfold World.cell? at ha0
       simp only[Addr.add] at ha0
       split at ha0<;>simp at ha0
   have hwD:∀ i,i<len->∀ n∈(D i).weights P e,n<=reachBytes:=λi hil n hn=>by
     refine hw n ?_
     rw[hx]
     simp only[DataW.weights,ht,List.mem_cons,List.mem_append]
     exact .inr (.inl (O3_ (List.mem_map.2 ⟨i,List.mem_range.2 hil,rfl⟩) hn))
   have key:∀ i,i<len->∃ r:α,∃ cs',RowE en k (hp w) r cs'/\SlAt (hp w) (.slice (some a) len cap) k i cs':=by
     intro i hil
     have ha:=hs0 (by omega)
     obtain⟨cs',hc,hT⟩:=hi i (by rw[hmm];split<;>omega)
     obtain⟨r,hr⟩:=he _ _ _ _ _ _ _ _ _ hT (hwD i hil)
     rw[hk] at hc
     obtain⟨_,hcl,hat⟩:=World.cells?_some hc
     refine⟨r,cs',hr,?_⟩
     generalize a.block=ab at ha
     generalize a.off=ao at ha
     subst ha
     simp only[Gx_] at hat
     have ha0:=hat 0 h0
     rw[List.getElem?_eq_getElem (by omega)] at ha0
     unfold World.cell? at ha0
     simp only at ha0
     split at ha0
     . rename_i c T fr hb
       refine⟨ab,ao,len,cap,c,T,fr,rfl,hb,hcl,λj hj=>?_⟩
       have :=hat j hj
       unfold World.cell? at this
       simp only at this
       rw[hb] at this
       simpa using this
     . cases ha0
   obtain⟨rs,hlen',hr⟩:=list_of (Q:=λi (r:α)=>∃ cs',RowE en k (hp w) r cs'/\SlAt (hp w) (.slice (some a) len cap) k i cs') len key
   have hs:SlH (RowE en k) k (hp w) (.slice (some a) rs.length cap) rs:=⟨⟨some a,cap,rfl,by omega⟩,λi hi=>by rw[hlen'];exact hr i hi⟩
   subst h1
   have hle:=hlen (rfl :[Value.slice (some a) len cap]=_)
   refine⟨rs,rowE1 rfl (v:= .slice (some a) len cap) (by rw[<- hlen'];exact Sim.of_slh hs (by omega)) rfl⟩
theorem rows_app {ps qs:List PV} {H:Hp} {cs ds:List Value} {m n:Nat} (h:ps.length=m/\Sims H ps cs/\∀ u∈cs,u.oneCell'=true) (k:qs.length=n/\Sims H qs ds/\∀ u∈ds,u.oneCell'=true):(ps++qs).length=m+n/\Sims H (ps++qs) (cs++ds)/\∀ u∈cs++ds,u.oneCell'=true:=
 ⟨by simp[h.1,k.1],h.2.1.append k.2.1,λu hu=>by rcases List.mem_append.1 hu with q|q;exact h.2.2 u q;exact k.2.2 u q⟩
theorem Ce_ {Ht:Type} {enc:TypeId×Value->Ht} {w:World} {base:Nat} {spare:Nat->Bool} {held:Bool} {cs:List Value} {t:TypeId} {fs:Array Field} {xs:List (DataW Ht×List MemPlace)} {n i o k:Nat} {f:Field} {ft:TypeId} {α:Type} {en:α->List PV} (ht:P.underlying t=some (.struct fs))
   (hf:∀ (i:Nat) (f:Field),fs[i]? = some f->DataW.trod enc P w base spare held n f.type ((cs.drop f.offset).take (P.cellsOf f.type))=xs[i]?) (hl:xs.length=fs.size) (hw:∀ q∈(DataW.agg (xs.map (·.1)):DataW Ht).weights P t,q<=reachBytes)
   (hi:fs[i]? = some f) (ho:f.offset=o) (hft:f.type=ft) (hk:P.cellsOf ft=k) (hr:Rdv P ft en k):∃ r,RowE en k (hp w) r ((cs.drop o).take k):=by
 obtain⟨y,hy⟩:=rd_fld hf hl hi ho hft hk
 refine hr _ _ _ _ _ _ _ _ _ hy λq hq=>hw q ?_
 have h:=hf i f hi
 rw[ho,hft,hk,hy] at h
 simp only[DataW.weights,ht]
 refine DataW.weights_mem_each (j:=i) (t:=ft) (d:=y.1) ?_ ?_ q hq
 . rw[List.getElem?_map,Array.getElem?_toList,hi];simp[hft]
 . rw[List.getElem?_map,<- h];rfl
theorem Dh_ {en:List PV} {H:Hp} {cs:List Value} {o k:Nat} {q:Nat} (h:en.length=k/\Sims H en ((cs.drop o).take k)/\∀ u∈(cs.drop o).take k,u.oneCell'=true) {es:List PV} (hr:es.length=q/\Sims H es (cs.drop (o+k))/\∀ u∈cs.drop (o+k),u.oneCell'=true):(en++es).length=k+q/\Sims H (en++es) (cs.drop o)/\∀ u∈cs.drop o,u.oneCell'=true:=by
 have :=rows_app h hr
 rw[<- List.drop_drop,List.take_append_drop] at this
 exact this
theorem Ka_ {en:List PV} {H:Hp} {cs:List Value} {o k:Nat} (hl:cs.length=o+k) (h:en.length=k/\Sims H en ((cs.drop o).take k)/\∀ u∈(cs.drop o).take k,u.oneCell'=true):en.length=k/\Sims H en (cs.drop o)/\∀ u∈cs.drop o,u.oneCell'=true:=by
 rw[List.take_of_length_le (by simp;omega)] at h
 exact h
section
variable {Ht:Type} {enc:TypeId×Value->Ht} {w:World} {r:Reach} {b0 base:Nat} {spare:Nat->Bool} {held:Bool} {t:TypeId} {v:Value} {d:DataW Ht} {p:List MemPlace}
theorem arg_int {k:IntKind} (hs:P.underlying t=some (.int k)) (hv:Value.okWide P w r b0 t v) (h:DataW.Trod enc P w base spare held t v d p):∃ z:Int,Sim (hp w) (.int k z) v:=by
 obtain⟨z,rfl,h1,h2⟩:=rd_one_int hs hv h
 exact⟨z, .int h1 h2⟩
theorem arg_rec {α:Type} {en:α->List PV} {k:Nat} {fs:Array Field} (hs:P.underlying t=some (.struct fs)) (hv:Value.okWide P w r b0 t v) (h:DataW.Trod enc P w base spare held t v d p) (hw:∀ q∈d.weights P t,q<=reachBytes) (hr:Rdv P t en k):∃ z:α,Sim (hp w) (.agg (en z)) v:=by
 obtain⟨l,fuel,rfl,h1⟩:=rd_agg hs hv h
 obtain⟨z,h2⟩:=hr _ _ _ _ _ _ _ _ _ h1 hw
 exact⟨z,Sim.toAgg h2.2.1⟩
theorem arg_sl {α:Type} {en:α->List PV} {e:TypeId} (hs:P.underlying t=some (.slice e)) (hv:Value.okWide P w r b0 t v) (h:DataW.Trod enc P w base spare held t v d p) (hw:∀ q∈d.weights P t,q<=reachBytes) (hr:Rdv P t (λxs:List α=>[.sl en xs]) 1):∃ z:List α,Sim (hp w) (.sl en z) v:=by
 obtain⟨fuel,h1⟩:=h
 obtain⟨z,h2⟩:=hr _ _ _ _ _ _ _ _ _ h1 hw
 obtain⟨u,us,e1,h3,h4⟩:=h2.2.1.inv_cons
 cases h4.inv_nil
 have :∃ a l c,u = .slice a l c:=by cases h3;exact⟨_,_,_,rfl⟩
 obtain⟨a,l,c,rfl⟩:=this
 obtain rfl :=Zm_ hs hv e1
 exact⟨z,h3⟩
theorem wt_arg {ts:List TypeId} {ds:List (DataW Ht)} {j:Nat} (hw:(DataW.weightsEach P ts ds).all (· <= reachBytes)=true) (ht:ts[j]? = some t) (hd:ds[j]? = some d):∀ q∈d.weights P t,q<=reachBytes:=λq hq=>by
 have :=List.all_eq_true.1 hw q (DataW.weights_mem_each ht hd q hq)
 simpa using this
end
theorem law_run {G:Gb} {f:FuncId} {args:List PV} {b:Bool} {vs:List Value} {W:World} (h:Fn P G f args (.bool b)) (hg:G.p (hp W)) (hs:Sims (hp W) args vs) (hb:b=true):Calls P f vs.toArray W λe W'=>e = .returned (.bool true)/\Mem (rest0 W) (hp W) l0 W':=
 (h.run (rest0 W) (hp W) l0 W vs hg hs (mem0 W)).mono λ_ _ ⟨v,H',h1,h2,h3,h4⟩=>⟨by rw[h1,h2.inv_bool,hb],h4.le h3⟩
end Go.SW
namespace Go.SW.V
open Go.SW
variable {P:Program} {n m:Nat} {N:Rest} {H0:Env} {all rest:List Oper} {Q:Qs} {ks:List Kt} {fF gF:Nat->PV} {fL gL:Nat->Blk} {T ty d:Nat} {pos:String} {af:Array Edge} {x y z:Operand}
def deF (ts:List Nat) (G:Nat->PV):Nat->PV:=λt=>bif memB ts t then G t else (match G t with
 | .osl _=> .junk
 |p=>p)
def arrU:Blk->Option Value
 | .arr u _ _ _ _=>some u
 |_=>none
def keptO (G:Nat->PV) (L L':Nat->Blk):List Nat->Prop
 |[]=>True
 | t::r=>(match G t with
   | .osl q=>arrU (L' q)=arrU (L q)
   |_=>True)/\keptO G L L' r
theorem X6_ {G:Nat->PV} {L L':Nat->Blk}:∀ {ts:List Nat} {t q:Nat},keptO G L L' ts->t∈ts->G t = .osl q->arrU (L' q)=arrU (L q)
 |[],t,q,_,h,_=>by cases h
 |a::r,t,q,hk,h,hG=>by
   rcases List.mem_cons.1 h with rfl|h
   . have :=hk.1;rw[hG] at this;exact this
   . exact X6_ hk.2 h hG
def inlK (P:Program) (n:Nat) (N:Rest) (H0:Env) (tb:Tb) (rs:List ResultVar) (ts:List Nat) (fF:Nat->PV) (fL:Nat->Blk) (Q:Qs) (all rest:List Oper) (ks:List Kt) (d:Nat):Qs:=λe s=>(e = .normal\/e = .ret) /\
 ∃ ps as0 bs,Id_ tb s rs=some (ps,as0,bs)/\as0=bs/\(tupP ps).noOsl=true/\keptO fF fL s.L ts/\Hd P n N H0 Q (.ops all rest) ks ⟨updp (deF ts fF) d (tupP ps),s.L⟩
theorem inlr {H1:Env} {tb:Tb} {rs:List ResultVar} {ts:List Nat} {ps:List PV} {as0 bs:List Nat} (h:Id_ tb ⟨gF,gL⟩ rs=some (ps,as0,bs)) (he:as0=bs) (hno:(tupP ps).noOsl=true) (hk:keptO fF fL gL ts) (k:Hd P n N H0 Q (.ops all rest) ks ⟨updp (deF ts fF) d (tupP ps),gL⟩):Hd P m N H1 (inlK P n N H0 tb rs ts fF fL Q all rest ks d) (.ex .ret) [] ⟨gF,gL⟩:=⟨.inr rfl,ps,as0,bs,h,he,hno,hk,k⟩
theorem inln {H1:Env} {tb:Tb} {rs:List ResultVar} {ts:List Nat} {ps:List PV} {as0 bs:List Nat} (h:Id_ tb ⟨gF,gL⟩ rs=some (ps,as0,bs)) (he:as0=bs) (hno:(tupP ps).noOsl=true) (hk:keptO fF fL gL ts) (k:Hd P n N H0 Q (.ops all rest) ks ⟨updp (deF ts fF) d (tupP ps),gL⟩):Hd P m N H1 (inlK P n N H0 tb rs ts fF fL Q all rest ks d) (.ex .normal) [] ⟨gF,gL⟩:=⟨.inl rfl,ps,as0,bs,h,he,hno,hk,k⟩
theorem deF_ok {ts:List Nat} {H:Hp} {F:Fr} (hf:∀ t,SimT fL H (fF t) (F t)) (hk:keptO fF fL gL ts) (t:Nat):SimT gL H (deF ts fF t) (F t):=by
 have h1:=hf t
 unfold deF
 cases e:memB ts t with
 |true=>
   simp only[cond_true]
   cases hp:fF t with
   |osl q=>
     have h2:=X6_ hk (Mo_ e) hp
     rw[hp] at h1
     simp only[SimT] at h1 ⊢
     cases hg:gL q with
     |arr u' k' e' enc' xs'=>
       cases hl:fL q with
       |arr u k e enc xs=>rw[hg,hl] at h2;simp only[arrU,Option.some.injEq] at h2;rw[hl] at h1;rw[h2];exact h1
       |_=>rw[hg,hl] at h2;simp[arrU] at h2
     |_=>trivial
   |_=>rw[hp] at h1;exact h1
 |false=>
   simp only[cond_false]
   cases hp:fF t with
   |osl q=>exact Sim.junk
   |_=>rw[hp] at h1;exact h1
theorem hinl {tb:Tb} {f:FuncId} {fn:Func} {c:Code} {args:List PV} {xs:Array Operand} {ats:Array TypeId} (ts:List Nat) (ht:tbB P tb=true) (hf:P.funcs[f]? = some fn) (hb:fn.body=some c) (hn:fn.ntmps=m) (hcb:Ad_ P f) (ha:argsP fF x xs.toList=some (f,args)) (hs:Nat.ble args.length m=true) (hna:Cs_ args=true) (hd:Nat.blt d n=true)
   (h:∀ Hc,H0.g.p Hc->Hd P m N ⟨Hc,H0.g⟩ (inlK P n N H0 tb fn.results.toList ts fF fL Q all rest ks d) (.code c) [] ⟨Ni_ args,fL⟩):Hd P n N H0 Q (.ops all (⟨some d, .call ⟨.value x,xs,ats⟩,ty,pos,af,none⟩::rest)) ks ⟨fF,fL⟩:=by
 intro F H L hab
 obtain⟨vs,h1,h2⟩:=Is_ (ats:=ats) hab.f ha hcb
 refine ow1 λa w hA hm=>?_
 rw[if_pos (by simp[Region.wanted])]
 unfold Oper.wp
 rw[hA.eval,h2]
 subst hn
 have h3:=h H hab.g (Jy_ vs.toArray) H L ⟨.refl H,hab.g,λt=>Kx_ h1 hna t,hab.l⟩
 refine Hq_ (R:=λv H' L'=>∃ (sL:Nat->Blk) (res:PV),Sim H' res v/\res.noOsl=true/\keptO fF fL sL ts/\(∀ i,SimB sL H' (sL i) (L' i))/\H0.g.p H'/\Hd P n N H0 Q (.ops all rest) ks ⟨updp (deF ts fF) d res,sL⟩) (H0:=H) hf hb (by have :=Nat.le_of_ble_eq_true hs;simp[h1.1];exact this) (Jk_ (λe F' H' L' hq=>?_) h3) hm ?_
 . obtain⟨s',ha',he,ps,as0,bs,e1,e2,e3,e4,e5⟩:=hq
   obtain⟨_,v,hr,hv⟩:=Na_ (N:=N) (res:=tupP ps) ht ha' (show rtK tb fn.results.toList (tupP ps) e s' from ⟨he,ps,as0,bs,e1,e2,ple rfl⟩)
   rcases he with rfl|rfl
   . exact⟨v,hr,ha'.le,s'.L,_,hv,e3,e4,ha'.l,ha'.g,e5⟩
   . exact⟨v,hr,ha'.le,s'.L,_,hv,e3,e4,ha'.l,ha'.g,e5⟩
 . intro v H' L' w' ⟨sL,res,e1,e2,e3,e4,e5,e6⟩ hl hm'
   refine⟨_,H',L',hA.put (by simpa using hd) v,hm',?_⟩
   exact e6 _ _ _ (Abs.put (p:=res) (s:=⟨deF ts fF,sL⟩) ⟨hab.le.trans hl,e5,deF_ok (λt=>(hab.f t).mono hl) e3,e4⟩ d (e1.simT e2))
end Go.SW.V
namespace Go.SW.V
open Go.SW
variable {P:Program} {n:Nat} {N:Rest} {H0:Env} {all rest:List Oper} {Q:Qs} {ks:List Kt} {fF:Nat->PV} {fL:Nat->Blk} {T ty d:Nat} {pos:String} {af:Array Edge} {x y z:Operand} {K:St->Prop}
end Go.SW.V
namespace Go.SW.V
open Go.SW
variable {P:Program} {n:Nat} {N:Rest} {H0:Env} {all rest:List Oper} {Q:Qs} {ks:List Kt} {fF:Nat->PV} {fL:Nat->Blk} {T ty d:Nat} {pos:String} {af:Array Edge} {x y z:Operand} {K:St->Prop}
theorem lo_aidx {F:Fr} {H:Hp} {L:Ls} {kk:IntKind} {b off len k m:Nat} {i:Int} {e:TypeId} (hx:ev F x = .pointer (some ⟨b,off,none⟩)) (hy:ev F y = .int kk i) (hT:P.underlying T=some (.array len e)) (hk:Sz P e k) (hi:i=(m:Int)) (hm:m<len):SW.Lo P N (.indexAddr T x y) ty F H L (.pointer (some ⟨b,off+m*k,none⟩)):=λd pos af gg w _=>by
 subst hi
 simp[execOp,hy,hx,Instr.indexAt,asIntOf,run_underlying hT,Instr.sureAddr,hk w,hm,Addr.add]
theorem qaia {kk:IntKind} {i b off len k:Nat} {z:Int} {e:TypeId} (m:Nat) (hx:evP fF x = .own i b off) (hy:evP fF y = .int kk z) (hT:P.underlying T=some (.array len e)) (hk:Sz P e k) (hi:z=(m:Int)) (hm:m<len):Qy P N H0 ⟨fF,fL⟩ (.indexAddr T x y) ty (.own i b (off+m*k)):=λF H L ha=>by
 have h1:=(Do_ ha.f x).sim
 have h2:=(Do_ ha.f y).sim
 simp only at h1 h2
 rw[hx] at h1
 rw[hy] at h2
 exact⟨_,Sim.own,λ_ _ _=>lo_aidx h1.inv_own h2.inv_int.1 hT hk hi hm⟩
theorem oload1 {tb:Tb} {ti:TI} {i b b' off T0:Nat} {cs:List PV} (p:PV) (ht:tbB P tb=true) (hx:evP fF x = .own i b off) (hb:fL i = .box b' T0 cs) (hbb:b'=b) (hti:lkT tb T=some ti) (hag:ti.k.isAgg=false) (hc:cs[off]? = some p) (hd:Nat.blt d n=true) (k:p.wf->K ⟨updp fF d p,fL⟩):E1 P n N H0 all ⟨some d, .load T x,ty,pos,af,none⟩ none ⟨fF,fL⟩ K:=by
 intro F H L ha
 subst hbb
 have h1:=(Do_ ha.f x).sim
 simp only at h1
 rw[hx] at h1
 have h3:=ha.l i
 simp only[hb] at h3
 obtain⟨vs,hL,hs⟩:=h3
 obtain⟨v,hv,hsv⟩:=hs.get hc
 have hg:=(E0_ ht hti).ag
 rw[hag] at hg
 exact Or_ hd (Ky_ h1.inv_own hg hL hv) ⟨.refl H,λ_ _=>rfl,_,ha.put d hsv,k hsv.sim.wf⟩
theorem oloadA {tb:Tb} {ti:TI} {i b b' off T0:Nat} {cs:List PV} (ps:List PV) (ht:tbB P tb=true) (hx:evP fF x = .own i b off) (hb:fL i = .box b' T0 cs) (hbb:b'=b) (hti:lkT tb T=some ti) (hag:ti.k.isAgg=true) (hc:(cs.drop off).take ti.size=ps) (hl:off+ti.size<=cs.length) (hd:Nat.blt d n=true) (k:PV.wfs ps->K ⟨updp fF d (.agg ps),fL⟩):E1 P n N H0 all ⟨some d, .load T x,ty,pos,af,none⟩ none ⟨fF,fL⟩ K:=by
 intro F H L ha
 subst hbb
 have h1:=(Do_ ha.f x).sim
 simp only at h1
 rw[hx] at h1
 have h3:=ha.l i
 simp only[hb] at h3
 obtain⟨vs,hL,hs⟩:=h3
 have hg:=(E0_ ht hti).ag
 rw[hag] at hg
 have hsv:Sims H ps ((vs.drop off).take ti.size):=by rw[<- hc];exact (hs.sims.drop off).take ti.size
 exact Or_ hd (Rx_ (vs:=(vs.drop off).take ti.size) h1.inv_own hg (E0_ ht hti).sz hL rfl (by simp[hs.1];omega)) ⟨.refl H,λ_ _=>rfl,_,ha.put (p:= .agg ps) d (Sim.toAgg hsv),k hsv.wf⟩
theorem ostore1 {tb:Tb} {ti:TI} {i b b' off T0:Nat} {cs:List PV} {p:PV} (cs':List PV) (ht:tbB P tb=true) (hx:evP fF x = .own i b off) (hb:fL i = .box b' T0 cs) (hti:lkT tb T=some ti) (hsz:ti.size=1) (hy:evS (evP fF y)=some p) (ho:p.one=true) (hl:off<cs.length) (hbb:b'=b) (hc:cs.set off p=cs')
   (k:K ⟨fF,lups fL i (.box b T0 cs')⟩):E1 P n N H0 all ⟨none, .store T x y,ty,pos,af,none⟩ (some i) ⟨fF,fL⟩ K:=
 SW.store1 (s:=⟨fF,fL⟩) ht hx hb hti hsz hy ho (by simpa [Nat.blt_eq] using hl) hbb (by rw[hc];simp only[evL,Qr_]) k
theorem ostoreA {tb:Tb} {ti:TI} {i b b' off T0:Nat} {cs ps:List PV} (cs':List PV) (ht:tbB P tb=true) (hx:evP fF x = .own i b off) (hb:fL i = .box b' T0 cs) (hti:lkT tb T=some ti) (hy:evP fF y = .agg ps) (hn:Cs_ ps=true) (ho:all1 ps=true) (hsz:ps.length=ti.size) (hl:off+ti.size<=cs.length) (hbb:b'=b) (hc:cs.take off++(ps++cs.drop (off+ti.size))=cs')
   (k:K ⟨fF,lups fL i (.box b T0 cs')⟩):E1 P n N H0 all ⟨none, .store T x y,ty,pos,af,none⟩ (some i) ⟨fF,fL⟩ K:=
 SW.storeA (s:=⟨fF,fL⟩) ht hx hb hti hy hn ho hsz (by simpa using hl) hbb (by rw[hc];simp only[evL,Qr_]) k
theorem oloadS1 {tb:Tb} {ti:TI} {i b b' off T0 len:Nat} {cs:List PV} (row:Nat->PV) (m base w o:Nat) (ht:tbB P tb=true) (hx:evP fF x = .own i b off) (hb:fL i = .box b' T0 cs) (hbb:b'=b) (hti:lkT tb T=some ti) (hag:ti.k.isAgg=false) (hoff:off=base+m*w+o) (hm:m<len) (hc:∀ q,q<len->cs[base+q*w+o]? = some (row q)) (hd:Nat.blt d n=true) (k:(row m).wf->K ⟨updp fF d (row m),fL⟩):E1 P n N H0 all ⟨some d, .load T x,ty,pos,af,none⟩ none ⟨fF,fL⟩ K:=
 oload1 (row m) ht hx hb hbb hti hag (by rw[hoff];exact hc m hm) hd k
theorem Ts_ {tb:Tb} {ti:TI} {i b b' off T0 len sz:Nat} {cs:List PV} (row:Nat->List PV) (m base w o:Nat) (ht:tbB P tb=true) (hx:evP fF x = .own i b off) (hb:fL i = .box b' T0 cs) (hbb:b'=b) (hti:lkT tb T=some ti) (hag:ti.k.isAgg=true) (hsz:ti.size=sz) (hoff:off=base+m*w+o) (hm:m<len) (hc:∀ q,q<len->(cs.drop (base+q*w+o)).take sz=row q) (hl:∀ q,q<len->Nat.ble (base+q*w+o+sz) cs.length=true) (hd:Nat.blt d n=true) (k:PV.wfs (row m)->K ⟨updp fF d (.agg (row m)),fL⟩):E1 P n N H0 all ⟨some d, .load T x,ty,pos,af,none⟩ none ⟨fF,fL⟩ K:=
 oloadA (row m) ht hx hb hbb hti hag (by rw[hoff,hsz];exact hc m hm) (by rw[hoff,hsz];simpa using hl m hm) hd k
theorem ostoreS1 {tb:Tb} {ti:TI} {i b b' off T0 len:Nat} {cs cs2:List PV} {p:PV} (cs':Nat->List PV) (m base w o:Nat) (ht:tbB P tb=true) (hx:evP fF x = .own i b off) (hb:fL i = .box b' T0 cs) (hti:lkT tb T=some ti) (hsz:ti.size=1) (hy:evS (evP fF y)=some p) (ho:p.one=true) (hoff:off=base+m*w+o) (hm:m<len) (hl:∀ q,q<len->Nat.blt (base+q*w+o) cs.length=true) (hbb:b'=b) (hc:∀ q,q<len->cs.set (base+q*w+o) p=cs' q) (he:evL (cs' m)=some cs2)
   (k:K ⟨fF,lups fL i (.box b T0 cs2)⟩):E1 P n N H0 all ⟨none, .store T x y,ty,pos,af,none⟩ (some i) ⟨fF,fL⟩ K:=
 ostore1 cs2 ht hx hb hti hsz hy ho (by rw[hoff];simpa [Nat.blt_eq] using hl m hm) hbb (by rw[hoff,hc m hm,<- Xx_ he]) k
theorem Sa_ {tb:Tb} {ti:TI} {i b b' off T0 len sz:Nat} {cs ps cs2:List PV} (cs':Nat->List PV) (m base w o:Nat) (ht:tbB P tb=true) (hx:evP fF x = .own i b off) (hb:fL i = .box b' T0 cs) (hti:lkT tb T=some ti) (hsz:ti.size=sz) (hy:evP fF y = .agg ps) (hn:Cs_ ps=true) (ho:all1 ps=true) (hps:ps.length=sz) (hoff:off=base+m*w+o) (hm:m<len) (hl:∀ q,q<len->Nat.ble (base+q*w+o+sz) cs.length=true) (hbb:b'=b) (hc:∀ q,q<len->cs.take (base+q*w+o)++(ps++cs.drop (base+q*w+o+sz))=cs' q) (he:evL (cs' m)=some cs2)
   (k:K ⟨fF,lups fL i (.box b T0 cs2)⟩):E1 P n N H0 all ⟨none, .store T x y,ty,pos,af,none⟩ (some i) ⟨fF,fL⟩ K:=
 ostoreA cs2 ht hx hb hti hy hn ho (by rw[hps,hsz]) (by rw[hoff,hsz];simpa using hl m hm) hbb (by rw[hoff,hsz,hc m hm,<- Xx_ he]) k
theorem bw8 {p:Nat->Prop} (h0:p 0) (h1:p 1) (h2:p 2) (h3:p 3) (h4:p 4) (h5:p 5) (h6:p 6) (h7:p 7):∀ m,m<8->p m
 |0,_=>h0|1,_=>h1|2,_=>h2|3,_=>h3|4,_=>h4|5,_=>h5|6,_=>h6|7,_=>h7
 |m+8,h=>absurd h (by omega)
theorem bw16 {p:Nat->Prop} (h0:p 0) (h1:p 1) (h2:p 2) (h3:p 3) (h4:p 4) (h5:p 5) (h6:p 6) (h7:p 7) (h8:p 8) (h9:p 9) (h10:p 10) (h11:p 11) (h12:p 12) (h13:p 13) (h14:p 14) (h15:p 15):∀ m,m<16->p m
 |0,_=>h0|1,_=>h1|2,_=>h2|3,_=>h3|4,_=>h4|5,_=>h5|6,_=>h6|7,_=>h7|8,_=>h8|9,_=>h9|10,_=>h10|11,_=>h11|12,_=>h12|13,_=>h13|14,_=>h14|15,_=>h15
 |m+16,h=>absurd h (by omega)
structure A8 (α:Type) where
 (e0 e1 e2 e3 e4 e5 e6 e7:α)
deriving DecidableEq,Inhabited
structure A16 (α:Type) where
 (e0 e1 e2 e3 e4 e5 e6 e7 e8 e9 e10 e11 e12 e13 e14 e15:α)
deriving DecidableEq,Inhabited
def A8.get {α:Type} (a:A8 α):Nat->α
 |0=>a.e0|1=>a.e1|2=>a.e2|3=>a.e3|4=>a.e4|5=>a.e5|6=>a.e6|_=>a.e7
def A16.get {α:Type} (a:A16 α):Nat->α
 |0=>a.e0|1=>a.e1|2=>a.e2|3=>a.e3|4=>a.e4|5=>a.e5|6=>a.e6|7=>a.e7|8=>a.e8|9=>a.e9|10=>a.e10|11=>a.e11|12=>a.e12|13=>a.e13|14=>a.e14|_=>a.e15
def A8.set {α:Type} (a:A8 α) (v:α):Nat->A8 α
 |0=>{a with e0:=v}|1=>{a with e1:=v}|2=>{a with e2:=v}|3=>{a with e3:=v}|4=>{a with e4:=v}|5=>{a with e5:=v}|6=>{a with e6:=v}|_=>{a with e7:=v}
def A16.set {α:Type} (a:A16 α) (v:α):Nat->A16 α
 |0=>{a with e0:=v}|1=>{a with e1:=v}|2=>{a with e2:=v}|3=>{a with e3:=v}|4=>{a with e4:=v}|5=>{a with e5:=v}|6=>{a with e6:=v}|7=>{a with e7:=v}|8=>{a with e8:=v}|9=>{a with e9:=v}|10=>{a with e10:=v}|11=>{a with e11:=v}|12=>{a with e12:=v}|13=>{a with e13:=v}|14=>{a with e14:=v}|_=>{a with e15:=v}
theorem A16.get_set {α:Type} (a:A16 α) (v:α) (m q:Nat) (hm:m<16) (hq:q<16):(a.set v m).get q = if q=m then v else a.get q:=by
 revert q
 refine bw16 (p:=λm=>∀ q,q<16->(a.set v m).get q = if q=m then v else a.get q) ?_ ?_ ?_ ?_ ?_ ?_ ?_ ?_ ?_ ?_ ?_ ?_ ?_ ?_ ?_ ?_ m hm<;>exact bw16 rfl rfl rfl rfl rfl rfl rfl rfl rfl rfl rfl rfl rfl rfl rfl rfl
theorem A8.get_set {α:Type} (a:A8 α) (v:α) (m q:Nat) (hm:m<8) (hq:q<8):(a.set v m).get q = if q=m then v else a.get q:=by
 revert q
 refine bw8 (p:=λm=>∀ q,q<8->(a.set v m).get q = if q=m then v else a.get q) ?_ ?_ ?_ ?_ ?_ ?_ ?_ ?_ m hm<;>exact bw8 rfl rfl rfl rfl rfl rfl rfl rfl
end Go.SW.V
namespace Go.SW
theorem rl_set1 {α:Type} {enc:α->List PV} {k:Nat} {H:Hp} {p:PV} {v:Value} {o:Nat} {y:α} (ho:o<k) (hp:Sim H p v) (h1:v.oneCell'=true):∀ {xs:List α} {cs:List Value} {m:Nat},Rl (RowE enc k) H xs cs->m<xs.length->(∀ a,xs[m]? = some a->enc y=(enc a).set o p)->Rl (RowE enc k) H (xs.set m y) (cs.set (m*k+o) v)
 |[],_,_,_,hm,_=>by cases hm
 |x::xs,_,0,⟨c1,c2,e,r1,r2⟩,_,he=>by
   have ex:=he x rfl
   obtain⟨q1,q2,q3⟩:=r1
   have hl:c1.length=k:=by rw[q2.1,q1]
   refine⟨c1.set o v,c2,?_,⟨by rw[ex,List.length_set,q1],?_,?_⟩,r2⟩
   . rw[e,Nat.zero_mul,Nat.zero_add,List.set_append_left _ _ (by omega)]
   . rw[ex]
     refine⟨by simp[q2.1],λi q w hq hw=>?_⟩
     rw[List.getElem?_set] at hq hw
     by_cases z:o=i
     . subst z
       rw[if_pos rfl,if_pos (by omega)] at hq
       rw[if_pos rfl,if_pos (by omega)] at hw
       cases hq;cases hw;exact hp
     . rw[if_neg z] at hq hw
       exact q2.2 i q w hq hw
   . intro w hw
     rcases List.mem_or_eq_of_mem_set hw with z|z
     . exact q3 w z
     . rw[z];exact h1
 |x::xs,_,m+1,⟨c1,c2,e,r1,r2⟩,hm,he=>by
   have hl:c1.length=k:=by rw[r1.2.1.1,r1.1]
   refine⟨c1,c2.set (m*k+o) v,?_,r1,rl_set1 ho hp h1 r2 (by simpa using hm) (λa ha=>he a (by simpa using ha))⟩
   rw[e,List.set_append_right _ _ (by rw[hl,Nat.add_mul];omega),hl,show (m+1)*k+o-k=m*k+o by rw[Nat.add_mul];omega]
theorem rl_setA {α:Type} {enc:α->List PV} {k:Nat} {H:Hp} {ps:List PV} {vs:List Value} {o:Nat} {y:α} (ho:o+ps.length<=k) (hp:Sims H ps vs) (h1:∀ v∈vs,v.oneCell'=true):∀ {xs:List α} {cs:List Value} {m:Nat},Rl (RowE enc k) H xs cs->m<xs.length->(∀ a,xs[m]? = some a->enc y=(enc a).take o++(ps++(enc a).drop (o+ps.length)))->Rl (RowE enc k) H (xs.set m y) (cs.take (m*k+o)++(vs++cs.drop (m*k+o+ps.length)))
 |[],_,_,_,hm,_=>by cases hm
 |x::xs,_,0,⟨c1,c2,e,r1,r2⟩,_,he=>by
   have ex:=he x rfl
   obtain⟨q1,q2,q3⟩:=r1
   have hl:c1.length=k:=by rw[q2.1,q1]
   have hv:=hp.1
   refine⟨c1.take o++(vs++c1.drop (o+ps.length)),c2,?_,⟨by rw[ex];simp;omega,?_,?_⟩,r2⟩
   . rw[e,Nat.zero_mul,Nat.zero_add,List.take_append_of_le_length (by omega),List.drop_append_of_le_length (by omega)]
     simp
   . rw[ex]
     exact Sims.append (Sims.take q2 o) (Sims.append hp (Sims.drop q2 (o+ps.length)))
   . intro w hw
     simp only[List.mem_append] at hw
     rcases hw with z|z|z
     . exact q3 w (List.mem_of_mem_take z)
     . exact h1 w z
     . exact q3 w (List.mem_of_mem_drop z)
 |x::xs,_,m+1,⟨c1,c2,e,r1,r2⟩,hm,he=>by
   have hl:c1.length=k:=by rw[r1.2.1.1,r1.1]
   refine⟨c1,c2.take (m*k+o)++(vs++c2.drop (m*k+o+ps.length)),?_,r1,rl_setA ho hp h1 r2 (by simpa using hm) (λa ha=>he a (by simpa using ha))⟩
   rw[e,show (m+1)*k+o=c1.length+(m*k+o) by rw[hl,Nat.add_mul];omega,List.take_append,List.take_of_length_le (by omega),show c1.length+(m*k+o)-c1.length=m*k+o by omega,Nat.add_assoc,List.drop_append,List.drop_of_length_le (by omega),show c1.length+(m*k+o+ps.length)-c1.length=m*k+o+ps.length by omega]
   simp
theorem Abs.turnU {P:Program} {n:Nat} {N:Rest} {H0:Env} {s:St} {F:Fr} {H:Hp} {L:Ls} {α:Type} {u:Value} {k e:Nat} {enc:α->List PV} {xs xs':List α} (ha:Abs H0 s F H L) (i:Nat) (hb:s.L i = .arr u k e enc xs) {x:Option (Nat×Obj)} (hx:SimB s.L H (.arr u k e enc xs') x):Abs H0 ⟨s.F,lups s.L i (.arr u k e enc xs')⟩ F H (lupd L i x):=by
 have hshape:∀ {p v},SimT s.L H p v->SimT (lups s.L i (.arr u k e enc xs')) H p v:=λ{p v} h=>by
   cases p with
   |osl j=>
     by_cases e:j=i
     . subst e;simp only[SimT,Ec_,hb] at h ⊢;exact h
     . simp only[SimT,Hd_ _ _ _ _ e] at h ⊢;exact h
   |_=>exact h
 refine⟨ha.le,ha.g,λt=>hshape (ha.f t),λj=>?_⟩
 by_cases e:j=i
 . subst e;simp only[Ec_,Cj_];exact hx
 . simp only[Hd_ _ _ _ _ e,B8_ _ _ _ _ e]
   have h1:=ha.l j
   generalize s.L j=C at *
   cases C with
   |box b T cs=>obtain⟨vs,h2,h3,h4⟩:=h1;exact⟨vs,h2,h3,λa p v hp hv=>hshape (h4 a p v hp hv)⟩
   |no=>trivial
   |arr u k e enc xs=>exact h1
   |itr b s p=>exact h1
   |ob b o=>exact h1
end Go.SW
namespace Go.SW.V
open Go.SW
variable {P:Program} {n:Nat} {N:Rest} {H0:Env} {all rest:List Oper} {Q:Qs} {ks:List Kt} {fF:Nat->PV} {fL:Nat->Blk} {T ty d:Nat} {pos:String} {af:Array Edge} {x y z:Operand} {K:St->Prop}
theorem lo_sidx {F:Fr} {H:Hp} {L:Ls} {kk:IntKind} {k m b o len cap:Nat} {i:Int} {e:TypeId} (hx:ev F x = .slice (some ⟨b,o,none⟩) len cap) (hy:ev F y = .int kk i) (hT:P.underlying T=some (.slice e)) (hk:Sz P e k) (hi:i=m) (hm:m<len):SW.Lo P N (.indexAddr T x y) ty F H L (.pointer (some ⟨b,o+m*k,none⟩)):=λd pos af g w _=>by
 subst hi
 simp[execOp,hx,hy,Instr.indexAt,asIntOf,run_underlying hT,hk w,hm,Gx_]
theorem Up_ {α:Type} {s:St} {F:Fr} {H:Hp} {L:Ls} {i k e:Nat} {u:Value} {enc:α->List PV} {xs:List α} (ha:Abs H0 s F H L) (hb:s.L i = .arr u k e enc xs) (h0:0<xs.length) :
   ∃ b cap c f,u = .slice (some ⟨b,f.length,none⟩) xs.length cap/\L i=some (b,bx e (f++c))/\cap*k<=c.length/\xs.length<=cap/\Rl (RowE enc k) H xs (c.take (xs.length*k))/\xs.length<=140737488355328/\(k=1->f=[]):=by
 have h3:=ha.l i
 rw[hb] at h3
 obtain⟨cs,⟨hl,⟨_,h0',_⟩|⟨b,cap,c,f,rfl,hL,hcl,hle,htk,hff⟩⟩,hr,hm⟩:=h3
 . omega
 . exact⟨b,cap,c,f,rfl,hL,hcl,hle,by rw[htk];exact hr,hm,hff⟩
theorem eidx {α:Type} {tb:Tb} {ti te:TI} {kk:IntKind} {i e k:Nat} {z:Int} {u:Value} {enc:α->List PV} {xs:List α} (m:Nat) (ht:tbB P tb=true) (hx:evP fF x = .osl i) (hb:fL i = .arr u k e enc xs) (hy:evP fF y = .int kk z) (hti:lkT tb T=some ti) (htk:ti.k = .slc e) (hte:lkT tb e=some te) (hk:te.size=k) (hi:z=(m:Int)) (hm:m<xs.length) :
   Qy P N H0 ⟨fF,fL⟩ (.indexAddr T x y) ty (.val (.pointer (some ⟨sBlk u,sOff u+m*k,none⟩))):=λF H L ha=>by
 have h1:=Do_ ha.f x
 unfold Ok1 at h1
 simp only at h1
 rw[hx] at h1
 simp only[SimT,hb] at h1
 have h2:=(Do_ ha.f y).sim
 simp only at h2
 rw[hy] at h2
 obtain⟨b,cap,c,f,rfl,hL,_⟩:=Up_ ha (i:=i) hb (by omega)
 have hsz:=(E0_ ht hte).sz
 rw[hk] at hsz
 exact⟨_,Sim.val,λ_ _ _=>lo_sidx h1 h2.inv_int.1 ((E0_ ht hti).slc htk) hsz hi hm⟩
theorem efld {b off f o:Nat} (hx:evP fF x = .val (.pointer (some ⟨b,off,none⟩))) (hf:Fld P T f o):Qy P N H0 ⟨fF,fL⟩ (.fieldAddr T x f) ty (.val (.pointer (some ⟨b,off+o,none⟩))):=λF H L ha=>by
 have h1:=(Do_ ha.f x).sim
 simp only at h1
 rw[hx] at h1
 exact⟨_,Sim.val,λ_ _ _=>Fe_ h1.inv_val hf⟩
theorem row_at {α:Type} {H:Hp} {enc:α->List PV} {k m:Nat} {xs:List α} {a:α} {c:List Value} (hr:Rl (RowE enc k) H xs (c.take (xs.length*k))) (ha:xs[m]? = some a):∃ ds,RowE enc k H a ds/\∀ j,j<k->c[m*k+j]? = ds[j]? :=by
 obtain⟨hm,rfl⟩:=List.getElem?_eq_some_iff.1 ha
 obtain⟨ds,p,q⟩:=rl_at Ki_ hr m hm
 refine⟨ds,p,λj hj=>?_⟩
 have :(m+1)*k<=xs.length*k:=Nat.mul_le_mul_right k (by omega)
 rw[Nat.add_mul] at this
 rw[<- q j hj,List.getElem?_take,if_pos (by omega)]
theorem elod1 {α:Type} {tb:Tb} {ti:TI} {i e k off:Nat} {u:Value} {enc:α->List PV} {xs:List α} {a:α} (p:PV) (m o:Nat) (ht:tbB P tb=true) (hx:evP fF x = .val (.pointer (some ⟨sBlk u,off,none⟩))) (hb:fL i = .arr u k e enc xs) (hti:lkT tb T=some ti) (hag:ti.k.isAgg=false) (ha':xs[m]? = some a) (hoff:off=sOff u+m*k+o) (hp:(enc a)[o]? = some p) (hn:p.noOsl=true) (hd:Nat.blt d n=true) (kk:p.wf->K ⟨updp fF d p,fL⟩):E1 P n N H0 all ⟨some d, .load T x,ty,pos,af,none⟩ none ⟨fF,fL⟩ K:=by
 intro F H L ha
 have h1:=(Do_ ha.f x).sim
 simp only at h1
 rw[hx] at h1
 have hm:m<xs.length:=(List.getElem?_eq_some_iff.1 ha').1
 obtain⟨b,cap,c,f,rfl,hL,hcl,hle,hr,hbb,hff⟩:=Up_ ha (i:=i) hb (by omega)
 obtain⟨ds,⟨q1,q2,q3⟩,q4⟩:=row_at hr ha'
 have ho:o<k:=by rw[<- q1];exact (List.getElem?_eq_some_iff.1 hp).1
 obtain⟨v,hv⟩:∃ v,ds[o]? = some v:=⟨_,List.getElem?_eq_getElem (by rw[q2.1,q1];exact ho)⟩
 have hs:=q2.2 o p v hp hv
 have hg:=(E0_ ht hti).ag
 rw[hag] at hg
 exact Or_ hd (Ky_ h1.inv_val hg hL (by rw[hoff];show (f++c)[f.length+m*k+o]? = _;rw[Nat.add_assoc,List.getElem?_append_right (by omega),Nat.add_sub_cancel_left,q4 o ho];exact hv)) ⟨.refl H,λ_ _=>rfl,_,ha.put d (hs.simT hn),kk hs.wf⟩
theorem est1 {α:Type} {tb:Tb} {ti:TI} {i e k off:Nat} {u:Value} {enc:α->List PV} {xs:List α} {p:PV} (m o:Nat) (a':α) (ht:tbB P tb=true) (hx:evP fF x = .val (.pointer (some ⟨sBlk u,off,none⟩))) (hb:fL i = .arr u k e enc xs) (hti:lkT tb T=some ti) (hsz:ti.size=1) (hy:evS (evP fF y)=some p) (ho:p.one=true) (hm:m<xs.length) (hoff:off=sOff u+m*k+o) (hok:o<k) (he:∀ a,xs[m]? = some a->enc a'=(enc a).set o p)
   (kk:K ⟨fF,lups fL i (.arr u k e enc (xs.set m a'))⟩):E1 P n N H0 all ⟨none, .store T x y,ty,pos,af,none⟩ (some i) ⟨fF,fL⟩ K:=by
 intro F H L ha
 have hy:=evS_eq hy
 have h1:=(Do_ ha.f x).sim
 simp only at h1
 rw[hx] at h1
 have h2:=(Do_ ha.f y).sim
 simp only at h2
 rw[hy] at h2
 obtain⟨b,cap,c,f,rfl,hL,hcl,hle,hr,hbb,hff⟩:=Up_ ha (i:=i) hb (by omega)
 have hsz':=(E0_ ht hti).sz
 rw[hsz] at hsz'
 have hlt:m*k+o<xs.length*k:=by
   have :(m+1)*k<=xs.length*k:=Nat.mul_le_mul_right k (by omega)
   rw[Nat.add_mul] at this;omega
 have hlc:xs.length*k<=c.length:=Nat.le_trans (Nat.mul_le_mul_right k hle) hcl
 subst hoff
 have hset:(f++c).set (sOff (.slice (some ⟨b,f.length,none⟩) xs.length cap)+m*k+o) (ev F y)=f++c.set (m*k+o) (ev F y):=by
   show (f++c).set (f.length+m*k+o) (ev F y)=_
   rw[Nat.add_assoc,List.set_append_right _ _ (by omega),Nat.add_sub_cancel_left]
 refine K5_ h1.inv_val rfl (h2.one ho) hsz' hL (by simp[Nat.blt_eq,sOff];omega) ?_
 rw[hset]
 refine⟨.refl H,only,_,ha.turnU (n:=n) (N:=N) (P:=P) i hb ⟨(c.set (m*k+o) (ev F y)).take (xs.length*k),⟨by simp;omega, .inr ⟨b,cap,c.set (m*k+o) (ev F y),f,by simp,rfl,by simpa using hcl,by simpa using hle,by simp,hff⟩⟩,?_,by simpa using hbb⟩,kk⟩
 rw[List.take_set]
 exact rl_set1 hok h2 (h2.one ho) hr hm he
theorem elodA {α:Type} {tb:Tb} {ti:TI} {i e k off sz:Nat} {u:Value} {enc:α->List PV} {xs:List α} {a:α} (ps:List PV) (m o:Nat) (ht:tbB P tb=true) (hx:evP fF x = .val (.pointer (some ⟨sBlk u,off,none⟩))) (hb:fL i = .arr u k e enc xs) (hti:lkT tb T=some ti) (hag:ti.k.isAgg=true) (hsz:ti.size=sz) (ha':xs[m]? = some a) (hoff:off=sOff u+m*k+o) (hp:((enc a).drop o).take sz=ps) (hos:o+sz<=k) (hd:Nat.blt d n=true) (kk:PV.wfs ps->K ⟨updp fF d (.agg ps),fL⟩):E1 P n N H0 all ⟨some d, .load T x,ty,pos,af,none⟩ none ⟨fF,fL⟩ K:=by
 intro F H L ha
 have h1:=(Do_ ha.f x).sim
 simp only at h1
 rw[hx] at h1
 have hm:m<xs.length:=(List.getElem?_eq_some_iff.1 ha').1
 obtain⟨b,cap,c,f,rfl,hL,hcl,hle,hr,hbb,hff⟩:=Up_ ha (i:=i) hb (by omega)
 obtain⟨ds,⟨q1,q2,q3⟩,q4⟩:=row_at hr ha'
 have hdl:ds.length=k:=by rw[q2.1,q1]
 have hsub:sub (f++c) off sz=(ds.drop o).take sz:=by
   apply List.ext_getElem?
   intro j
   simp only[sub,List.getElem?_take,List.getElem?_drop]
   by_cases z:j<sz
   . rw[if_pos z,if_pos z,hoff]
     show (f++c)[f.length+m*k+o+j]? = _
     rw[Nat.add_assoc,Nat.add_assoc,List.getElem?_append_right (by omega),Nat.add_sub_cancel_left,q4 (o+j) (by omega)]
   . rw[if_neg z,if_neg z]
 have hsv:Sims H ps ((ds.drop o).take sz):=by rw[<- hp];exact Sims.take (Sims.drop q2 o) sz
 have hg:=(E0_ ht hti).ag
 rw[hag] at hg
 have hk:=(E0_ ht hti).sz
 rw[hsz] at hk
 exact Or_ hd (Rx_ (vs:=(ds.drop o).take sz) h1.inv_val hg hk hL hsub (by simp;omega)) ⟨.refl H,λ_ _=>rfl,_,ha.put (p:= .agg ps) d (Sim.toAgg hsv),kk hsv.wf⟩
theorem estA {α:Type} {tb:Tb} {ti:TI} {i e k off:Nat} {u:Value} {enc:α->List PV} {xs:List α} {ps:List PV} (m o:Nat) (a':α) (ht:tbB P tb=true) (hx:evP fF x = .val (.pointer (some ⟨sBlk u,off,none⟩))) (hb:fL i = .arr u k e enc xs) (hti:lkT tb T=some ti) (hy:evP fF y = .agg ps) (ho:all1 ps=true) (hsz:ps.length=ti.size) (hm:m<xs.length) (hoff:off=sOff u+m*k+o) (hok:o+ps.length<=k) (he:∀ a,xs[m]? = some a->enc a'=(enc a).take o++(ps++(enc a).drop (o+ps.length)))
   (kk:K ⟨fF,lups fL i (.arr u k e enc (xs.set m a'))⟩):E1 P n N H0 all ⟨none, .store T x y,ty,pos,af,none⟩ (some i) ⟨fF,fL⟩ K:=by
 intro F H L ha
 have h1:=(Do_ ha.f x).sim
 simp only at h1
 rw[hx] at h1
 have h2:=(Do_ ha.f y).sim
 simp only at h2
 rw[hy] at h2
 obtain⟨vs,hv,hvs⟩:=h2.inv_agg
 obtain⟨b,cap,c,f,rfl,hL,hcl,hle,hr,hbb,hff⟩:=Up_ ha (i:=i) hb (by omega)
 have hsz':=(E0_ ht hti).sz
 rw[<- hsz] at hsz'
 have hlt:m*k+o+ps.length<=xs.length*k:=by
   have :(m+1)*k<=xs.length*k:=Nat.mul_le_mul_right k (by omega)
   rw[Nat.add_mul] at this;omega
 have hlc:xs.length*k<=c.length:=Nat.le_trans (Nat.mul_le_mul_right k hle) hcl
 have hvl:vs.length=ps.length:=hvs.1
 have ha1:=Sg_ hvs ho
 subst hoff
 refine Tu_ (f++(c.take (m*k+o)++(vs++c.drop (m*k+o+ps.length)))) h1.inv_val hv ha1 hsz' hvl hL (by simp[Nat.ble_eq,sOff];omega) ?_ ?_
 . show (f++c).take (f.length+m*k+o)++(vs++(f++c).drop (f.length+m*k+o+ps.length))=_
   rw[Nat.add_assoc f.length,Nat.add_assoc f.length,List.take_append,List.drop_append,List.take_of_length_le (by omega),List.drop_of_length_le (by omega),Nat.add_sub_cancel_left,Nat.add_sub_cancel_left]
   simp
 refine⟨.refl H,only,_,ha.turnU (n:=n) (N:=N) (P:=P) i hb ⟨(c.take (m*k+o)++(vs++c.drop (m*k+o+ps.length))).take (xs.length*k),⟨by simp;omega, .inr ⟨b,cap,_,f,by simp,rfl,by simp;omega,by simpa using hle,by simp,hff⟩⟩,?_,by simpa using hbb⟩,kk⟩
 have e:(c.take (m*k+o)++(vs++c.drop (m*k+o+ps.length))).take (xs.length*k)=(c.take (xs.length*k)).take (m*k+o)++(vs++(c.take (xs.length*k)).drop (m*k+o+ps.length)):=by
   obtain⟨A,B,hA,hc,hAl⟩:∃ A B,c.take (xs.length*k)=A/\c=A++B/\A.length=xs.length*k:=⟨_,_,rfl,(List.take_append_drop _ _).symm,by simp;omega⟩
   rw[hA,hc,List.take_append_of_le_length (show m*k+o<=A.length by omega),List.drop_append_of_le_length (show m*k+o+ps.length<=A.length by omega),<- List.append_assoc vs,<- List.append_assoc]
   exact List.take_left' (by simp;omega)
 rw[e]
 exact rl_setA hok hvs (by simpa [List.all_eq_true] using ha1) hr hm he
theorem ecut1 {α:Type} {tb:Tb} {ti te:TI} {kk:IntKind} {i e k:Nat} {z:Int} {u:Value} {enc:α->List PV} {xs:List α} (ht:tbB P tb=true) (hx:evP fF x = .osl i) (hb:fL i = .arr u k e enc xs) (hy:evP fF y = .int kk z) (hti:lkT tb T=some ti) (htk:ti.k = .slc e) (hte:lkT tb e=some te) (hk:te.size=k) (h1:Nat.blt 1 k=true) (hi:z=1) (hm:0<xs.length) (hd:Nat.blt d n=true)
   (kk:∀ u',K ⟨updp (Iz_ i fF) d (.osl i),lups (Ho_ i fL) i (.arr u' k e enc (xs.drop 1))⟩):E1 P n N H0 all ⟨some d, .slice T x (some y) none none,ty,pos,af,none⟩ (some i) ⟨fF,fL⟩ K:=by
 intro F H L ha
 have h1':=Do_ ha.f x
 unfold Ok1 at h1'
 simp only at h1'
 rw[hx] at h1'
 simp only[SimT,hb] at h1'
 have h2:=(Do_ ha.f y).sim
 simp only at h2
 rw[hy] at h2
 have hb':fL i = .arr u k e enc xs:=hb
 obtain⟨b,cap,c,f,rfl,hL,hcl,hle,hr,hbb,hff⟩:=Up_ (s:=⟨fF,fL⟩) ha (i:=i) hb' hm
 have hsz:=(E0_ ht hte).sz
 rw[hk] at hsz
 have hk1:1<k:=by simpa [Nat.blt_eq] using h1
 refine Or_ hd (Nx_ 1 h1' h2.inv_int.1 ((E0_ ht hti).slc htk) hsz (by omega) (by omega)) ?_
 have hLL:lupd L i (L i)=L:=by funext j;by_cases e:j=i;(subst e;exact Cj_ _ _ _);exact B8_ _ _ _ _ e
 obtain⟨x0,xr,rfl⟩:∃ a r,xs=a::r:=by cases xs with|nil=>cases hm|cons a r=>exact⟨a,r,rfl⟩
 have hrl:=Zr_ Ki_ hr
 have :=ha.turn i (B:= .arr (.slice (slA (some ⟨b,f.length,none⟩) cap 1 k) ((x0::xr).length-1) (cap-1)) k e enc ((x0::xr).drop 1)) (x:=L i) ?_
 . rw[hLL] at this
   exact⟨.refl H,λ_ _=>rfl,_,this.put d (by simp[SimT,Ec_]),kk _⟩
 . obtain⟨c1,c2,e1,r1,r2⟩:=hr
   have hc1:c1.length=k:=by rw[r1.2.1.1,r1.1]
   have hck:cap*k=(cap-1)*k+k:=by rw[<- Nat.succ_mul];congr 1;simp only[List.length_cons] at hle;omega
   have hkc:k<=c.length:=by omega
   have hc2:c2=(c.drop k).take (xr.length*k):=by
     have :(c.take ((x0::xr).length*k)).drop k=c2:=by rw[e1,<- hc1,List.drop_left]
     rw[<- this,List.length_cons,List.drop_take,Nat.succ_mul,Nat.add_sub_cancel]
   refine⟨c2,⟨?_,?_⟩,by simpa using r2,by simp at hbb ⊢;omega⟩
   . rw[Zr_ Ki_ r2];simp
   . by_cases hc:cap=1
     . subst hc
       have :xr=[]:=List.length_eq_zero_iff.1 (by simp only[List.length_cons] at hle;omega)
       subst this
       refine .inr ⟨b,0,c,f,by simp[slA],hL,by simp,by simp,by simpa using hc2.symm,hff⟩
     . refine .inr ⟨b,cap-1,c.drop k,f++c.take k,?_,by rw[hL];simp,?_,by simp only[List.drop_one,List.tail_cons,List.length_cons] at hle ⊢;omega,?_,λq=>by omega⟩
       . have :c.length>=k:=by omega
         simp[slA,Gx_,Nat.min_eq_left this,show ¬cap<=1 by simp only[List.length_cons] at hle;omega]
         intro q;simp only[List.length_cons] at hle;omega
       . rw[List.length_drop];omega
       . rw[hc2];simp
end Go.SW.V
namespace Go.SW
variable {P:Program} {n:Nat} {N:Rest} {H0:Env} {Q:Qs} {ks:List Kt} {s:St}
theorem O0_ {α:Type} {i o b T0 k e:Nat} {cs:List PV} {c:Code} (j:Nat) (enc:α->List PV) (hb:Ho_ j s.L i = .box b T0 cs) (hne:i≠j) (ho:cs[o]? = some (.val (.slice none 0 0))) (hno:s.L j = .no)
   (kk:Hd P n N H0 Q (.code c) ks ⟨Iz_ j s.F,lups (lups (Ho_ j s.L) j (.arr (.slice none 0 0) k e enc [])) i (.box b T0 (cs.set o (.osl j)))⟩):Hd P n N H0 Q (.code c) ks s:=λF H L ha=>by
 have hL0:Abs H0 s F H (lupd L j none):=⟨ha.le,ha.g,ha.f,λq=>by
   by_cases e:q=j
   . subst e;rw[hno];trivial
   . rw[B8_ _ _ _ _ e];exact ha.l q⟩
 have h2:=hL0.turn j (B:= .arr (.slice none 0 0) k e enc []) (x:=none) ⟨[],Qb_,rl_nil,by simp⟩
 have e2:lupd (lupd L j none) j none=lupd L j none:=by funext q;simp only[lupd];cases Nat.beq q j<;>rfl
 rw[e2] at h2
 have h3:=h2.l i
 simp only[Hd_ _ _ _ _ hne,hb] at h3
 obtain⟨vs,hL,hs1,hs2⟩:=h3
 have h4:=h2.turnB i (B:= .box b T0 (cs.set o (.osl j))) trivial (x:=lupd L j none i) ⟨vs,hL,by simpa using hs1,λa p v hp hv=>by
   rw[List.getElem?_set] at hp
   by_cases z:o=a
   . subst z
     rw[if_pos rfl] at hp
     split at hp
     . cases hp
       have h5:=(hs2 o _ v ho hv).sim.inv_val
       simp only[SimT,Hd_ _ _ _ _ hne.symm,Ec_]
       exact h5
     . cases hp
   . rw[if_neg z] at hp
     have h5:=hs2 a p v hp hv
     exact Sd_ (b:=b) (T:=T0) (cs:=cs) (by simp only[Hd_ _ _ _ _ hne,hb]) h5⟩
 have e3:lupd (lupd L j none) i (lupd L j none i)=lupd L j none:=by funext q;by_cases e:q=i;(subst e;exact Cj_ _ _ _);exact B8_ _ _ _ _ e
 rw[e3] at h4
 exact Xv_ (λw hm=>hm.clear j) (kk F H _ h4)
theorem Jb_ {α:Type} {all:List Oper} {T ty i j b b' off T0 k e:Nat} {pos:String} {af:Array Edge} {x y:Operand} {K:St->Prop} {tb:Tb} {ti:TI} {cs cs':List PV} {u:Value} {enc:α->List PV} {xs:List α} (ht:tbB P tb=true) (hx:evP s.F x = .own i b off) (hb:s.L i = .box b' T0 cs) (hti:lkT tb T=some ti) (hsz:ti.size=1) (hy:evP s.F y = .osl j) (hj:s.L j = .arr u k e enc xs) (hl:Nat.blt off cs.length=true) (hbb:b'=b) (hc:cs.set off (.osl j)=cs')
   (kk:K ⟨s.F,lups s.L i (.box b T0 cs')⟩):E1 P n N H0 all ⟨none, .store T x y,ty,pos,af,none⟩ (some i) s K:=by
 intro F H L ha
 subst hbb hc
 have h1:=(Do_ ha.f x).sim
 rw[hx] at h1
 have h2:=Do_ ha.f y
 unfold Ok1 at h2
 rw[hy] at h2
 have h2':=h2
 simp only[SimT,hj] at h2'
 have h3:=ha.l i
 rw[hb] at h3
 obtain⟨vs,hL,hs⟩:=h3
 have h5:=ha.l j
 rw[hj] at h5
 obtain⟨cs0,ho,_,_⟩:=h5
 have hone:(ev F y).oneCell'=true:=by
   rw[h2']
   obtain⟨_,⟨rfl,_,_⟩|⟨_,_,_,_,rfl,_⟩⟩:=ho<;>rfl
 have hsz':=(E0_ ht hti).sz
 rw[hsz] at hsz'
 refine K5_ h1.inv_own rfl hone hsz' hL (by rw[hs.1];exact hl) ?_
 refine⟨.refl H,only,_,ha.turnB (B:= .box _ T0 (cs.set off (.osl j))) i trivial ⟨_,rfl,?_⟩,kk⟩
 have h4:=hs.set off h2
 exact⟨h4.1,λq p v hq hv=>Sd_ hb (h4.2 q p v hq hv)⟩
end Go.SW
namespace Go.SW
structure M_ where
 Ab_:Mail
 Ui_:Bool
 again:Bool
deriving DecidableEq,Inhabited
def M_.pc (x:M_):List PV:=[.int .u64 x.Ab_.id, .str x.Ab_.Bb_, .str x.Ab_.key, .sl Pair.pc x.Ab_.head, .str x.Ab_.body, .int .u64 x.Ab_.due, .int .u8 x.Ab_.hops, .bool x.Ui_, .bool x.again]
structure Bh_ where
 item:M_
 count:Int
 lost:Int
deriving DecidableEq,Inhabited
def Bh_.pc (x:Bh_):List PV:=[.int .u64 x.item.Ab_.id, .str x.item.Ab_.Bb_, .str x.item.Ab_.key, .sl Pair.pc x.item.Ab_.head, .str x.item.Ab_.body, .int .u64 x.item.Ab_.due, .int .u8 x.item.Ab_.hops, .bool x.item.Ui_, .bool x.item.again, .int .i64 x.count, .int .i64 x.lost]
structure Cq_ where
 level:Int
 Z7_:Int
deriving DecidableEq,Inhabited
def Cq_.pc (x:Cq_):List PV:=[.int .u8 x.level, .int .u32 x.Z7_]
structure A3_ where
 name:Bs
 label:Cq_
 bytes:Int
 base:Int
deriving DecidableEq,Inhabited
def A3_.pc (x:A3_):List PV:=[.str x.name, .int .u8 x.label.level, .int .u32 x.label.Z7_, .int .i64 x.bytes, .int .u64 x.base]
structure B0_ where
 frm:Int
 to':Int
 budget:Int
deriving DecidableEq,Inhabited
def B0_.pc (x:B0_):List PV:=[.int .i64 x.frm, .int .i64 x.to', .int .i64 x.budget]
structure C_ where
 work:Int
 give:Int
 places:List A3_
 slots:List Int
 grants:List B0_
deriving DecidableEq,Inhabited
def C_.pc (x:C_):List PV:=[.int .i64 x.work, .int .i64 x.give, .sl A3_.pc x.places, .sl i64c x.slots, .sl B0_.pc x.grants]
structure D5_ where
 tick:Int
 kind:Int
 text:Bs
deriving DecidableEq,Inhabited
def D5_.pc (x:D5_):List PV:=[.int .u64 x.tick, .int .u8 x.kind, .str x.text]
structure B7_ where
 total:Int
 kept:List D5_
deriving DecidableEq,Inhabited
def B7_.pc (x:B7_):List PV:=[.int .u64 x.total, .sl D5_.pc x.kept]
structure Ae_ where
 items:List M_
deriving DecidableEq,Inhabited
def Ae_.pc (x:Ae_):List PV:=[.sl M_.pc x.items]
structure Gi_ where
 q:Q_
 l:Ae_
deriving DecidableEq,Inhabited
def Gi_.pc (x:Gi_):List PV:=[.str x.q.name, .int .u64 x.q.most, .int .u64 x.q.life, .str x.q.dead, .sl M_.pc x.l.items]
structure RRowR where
 q:Q_
 l:List M_
deriving DecidableEq,Inhabited
def RRowR.pc (x:RRowR):List PV:=[.str x.q.name, .int .u64 x.q.most, .int .u64 x.q.life, .str x.q.dead, .sl M_.pc x.l]
structure Bc_ where
 total:Int
 kept:List Mail
deriving DecidableEq,Inhabited
def Bc_.pc (x:Bc_):List PV:=[.int .u64 x.total, .sl Mail.pc x.kept]
abbrev A16_RiseR:=V.A16 Bc_
def A16_RiseR.pc (x:A16_RiseR):List PV:=[.int .u64 x.e0.total, .sl Mail.pc x.e0.kept, .int .u64 x.e1.total, .sl Mail.pc x.e1.kept, .int .u64 x.e2.total, .sl Mail.pc x.e2.kept, .int .u64 x.e3.total, .sl Mail.pc x.e3.kept, .int .u64 x.e4.total, .sl Mail.pc x.e4.kept, .int .u64 x.e5.total, .sl Mail.pc x.e5.kept, .int .u64 x.e6.total, .sl Mail.pc x.e6.kept, .int .u64 x.e7.total, .sl Mail.pc x.e7.kept, .int .u64 x.e8.total, .sl Mail.pc x.e8.kept, .int .u64 x.e9.total, .sl Mail.pc x.e9.kept, .int .u64 x.e10.total, .sl Mail.pc x.e10.kept, .int .u64 x.e11.total, .sl Mail.pc x.e11.kept, .int .u64 x.e12.total, .sl Mail.pc x.e12.kept, .int .u64 x.e13.total, .sl Mail.pc x.e13.kept, .int .u64 x.e14.total, .sl Mail.pc x.e14.kept, .int .u64 x.e15.total, .sl Mail.pc x.e15.kept]
abbrev A16_u64:=V.A16 Int
def A16_u64.pc (x:A16_u64):List PV:=[.int .u64 x.e0, .int .u64 x.e1, .int .u64 x.e2, .int .u64 x.e3, .int .u64 x.e4, .int .u64 x.e5, .int .u64 x.e6, .int .u64 x.e7, .int .u64 x.e8, .int .u64 x.e9, .int .u64 x.e10, .int .u64 x.e11, .int .u64 x.e12, .int .u64 x.e13, .int .u64 x.e14, .int .u64 x.e15]
structure Av_ where
 round:Int
 count:Int
deriving DecidableEq,Inhabited
def Av_.pc (x:Av_):List PV:=[.int .u64 x.round, .int .i64 x.count]
abbrev A8_SpentR:=V.A8 Av_
def A8_SpentR.pc (x:A8_SpentR):List PV:=[.int .u64 x.e0.round, .int .i64 x.e0.count, .int .u64 x.e1.round, .int .i64 x.e1.count, .int .u64 x.e2.round, .int .i64 x.e2.count, .int .u64 x.e3.round, .int .i64 x.e3.count, .int .u64 x.e4.round, .int .i64 x.e4.count, .int .u64 x.e5.round, .int .i64 x.e5.count, .int .u64 x.e6.round, .int .i64 x.e6.count, .int .u64 x.e7.round, .int .i64 x.e7.count]
structure F_ where
 next :Int
 bytes:Int
 rows:List Gi_
 rises:A16_RiseR
deriving DecidableEq,Inhabited
def F_.pc (x:F_):List PV:=[.int .u64 x.next, .int .i64 x.bytes, .sl Gi_.pc x.rows, .int .u64 x.rises.e0.total, .sl Mail.pc x.rises.e0.kept, .int .u64 x.rises.e1.total, .sl Mail.pc x.rises.e1.kept, .int .u64 x.rises.e2.total, .sl Mail.pc x.rises.e2.kept, .int .u64 x.rises.e3.total, .sl Mail.pc x.rises.e3.kept, .int .u64 x.rises.e4.total, .sl Mail.pc x.rises.e4.kept, .int .u64 x.rises.e5.total, .sl Mail.pc x.rises.e5.kept, .int .u64 x.rises.e6.total, .sl Mail.pc x.rises.e6.kept, .int .u64 x.rises.e7.total, .sl Mail.pc x.rises.e7.kept, .int .u64 x.rises.e8.total, .sl Mail.pc x.rises.e8.kept, .int .u64 x.rises.e9.total, .sl Mail.pc x.rises.e9.kept, .int .u64 x.rises.e10.total, .sl Mail.pc x.rises.e10.kept, .int .u64 x.rises.e11.total, .sl Mail.pc x.rises.e11.kept, .int .u64 x.rises.e12.total, .sl Mail.pc x.rises.e12.kept, .int .u64 x.rises.e13.total, .sl Mail.pc x.rises.e13.kept, .int .u64 x.rises.e14.total, .sl Mail.pc x.rises.e14.kept, .int .u64 x.rises.e15.total, .sl Mail.pc x.rises.e15.kept]
structure Z8_ where
 next :Int
 most:Int
 rows:List RRowR
 rises:A16_RiseR
deriving DecidableEq,Inhabited
def Z8_.pc (x:Z8_):List PV:=[.int .u64 x.next, .int .i64 x.most, .sl RRowR.pc x.rows, .int .u64 x.rises.e0.total, .sl Mail.pc x.rises.e0.kept, .int .u64 x.rises.e1.total, .sl Mail.pc x.rises.e1.kept, .int .u64 x.rises.e2.total, .sl Mail.pc x.rises.e2.kept, .int .u64 x.rises.e3.total, .sl Mail.pc x.rises.e3.kept, .int .u64 x.rises.e4.total, .sl Mail.pc x.rises.e4.kept, .int .u64 x.rises.e5.total, .sl Mail.pc x.rises.e5.kept, .int .u64 x.rises.e6.total, .sl Mail.pc x.rises.e6.kept, .int .u64 x.rises.e7.total, .sl Mail.pc x.rises.e7.kept, .int .u64 x.rises.e8.total, .sl Mail.pc x.rises.e8.kept, .int .u64 x.rises.e9.total, .sl Mail.pc x.rises.e9.kept, .int .u64 x.rises.e10.total, .sl Mail.pc x.rises.e10.kept, .int .u64 x.rises.e11.total, .sl Mail.pc x.rises.e11.kept, .int .u64 x.rises.e12.total, .sl Mail.pc x.rises.e12.kept, .int .u64 x.rises.e13.total, .sl Mail.pc x.rises.e13.kept, .int .u64 x.rises.e14.total, .sl Mail.pc x.rises.e14.kept, .int .u64 x.rises.e15.total, .sl Mail.pc x.rises.e15.kept]
structure U_ where
 book:Ap_
 D_:F_
 notes:B7_
 seen:A16_u64
 spent:A8_SpentR
deriving DecidableEq,Inhabited
def U_.pc (x:U_):List PV:=[.sl W_.pc x.book.Ba_, .sl P_.pc x.book.binds, .int .u64 x.D_.next, .int .i64 x.D_.bytes, .sl Gi_.pc x.D_.rows, .int .u64 x.D_.rises.e0.total, .sl Mail.pc x.D_.rises.e0.kept, .int .u64 x.D_.rises.e1.total, .sl Mail.pc x.D_.rises.e1.kept, .int .u64 x.D_.rises.e2.total, .sl Mail.pc x.D_.rises.e2.kept, .int .u64 x.D_.rises.e3.total, .sl Mail.pc x.D_.rises.e3.kept, .int .u64 x.D_.rises.e4.total, .sl Mail.pc x.D_.rises.e4.kept, .int .u64 x.D_.rises.e5.total, .sl Mail.pc x.D_.rises.e5.kept, .int .u64 x.D_.rises.e6.total, .sl Mail.pc x.D_.rises.e6.kept, .int .u64 x.D_.rises.e7.total, .sl Mail.pc x.D_.rises.e7.kept, .int .u64 x.D_.rises.e8.total, .sl Mail.pc x.D_.rises.e8.kept, .int .u64 x.D_.rises.e9.total, .sl Mail.pc x.D_.rises.e9.kept, .int .u64 x.D_.rises.e10.total, .sl Mail.pc x.D_.rises.e10.kept, .int .u64 x.D_.rises.e11.total, .sl Mail.pc x.D_.rises.e11.kept, .int .u64 x.D_.rises.e12.total, .sl Mail.pc x.D_.rises.e12.kept, .int .u64 x.D_.rises.e13.total, .sl Mail.pc x.D_.rises.e13.kept, .int .u64 x.D_.rises.e14.total, .sl Mail.pc x.D_.rises.e14.kept, .int .u64 x.D_.rises.e15.total, .sl Mail.pc x.D_.rises.e15.kept, .int .u64 x.notes.total, .sl D5_.pc x.notes.kept, .int .u64 x.seen.e0, .int .u64 x.seen.e1, .int .u64 x.seen.e2, .int .u64 x.seen.e3, .int .u64 x.seen.e4, .int .u64 x.seen.e5, .int .u64 x.seen.e6, .int .u64 x.seen.e7, .int .u64 x.seen.e8, .int .u64 x.seen.e9, .int .u64 x.seen.e10, .int .u64 x.seen.e11, .int .u64 x.seen.e12, .int .u64 x.seen.e13, .int .u64 x.seen.e14, .int .u64 x.seen.e15, .int .u64 x.spent.e0.round, .int .i64 x.spent.e0.count, .int .u64 x.spent.e1.round, .int .i64 x.spent.e1.count, .int .u64 x.spent.e2.round, .int .i64 x.spent.e2.count, .int .u64 x.spent.e3.round, .int .i64 x.spent.e3.count, .int .u64 x.spent.e4.round, .int .i64 x.spent.e4.count, .int .u64 x.spent.e5.round, .int .i64 x.spent.e5.count, .int .u64 x.spent.e6.round, .int .i64 x.spent.e6.count, .int .u64 x.spent.e7.round, .int .i64 x.spent.e7.count]
structure E_ where
 x:U_
 K_:C_
 place:Int
deriving DecidableEq,Inhabited
def E_.pc (x:E_):List PV:=[.sl W_.pc x.x.book.Ba_, .sl P_.pc x.x.book.binds, .int .u64 x.x.D_.next, .int .i64 x.x.D_.bytes, .sl Gi_.pc x.x.D_.rows, .int .u64 x.x.D_.rises.e0.total, .sl Mail.pc x.x.D_.rises.e0.kept, .int .u64 x.x.D_.rises.e1.total, .sl Mail.pc x.x.D_.rises.e1.kept, .int .u64 x.x.D_.rises.e2.total, .sl Mail.pc x.x.D_.rises.e2.kept, .int .u64 x.x.D_.rises.e3.total, .sl Mail.pc x.x.D_.rises.e3.kept, .int .u64 x.x.D_.rises.e4.total, .sl Mail.pc x.x.D_.rises.e4.kept, .int .u64 x.x.D_.rises.e5.total, .sl Mail.pc x.x.D_.rises.e5.kept, .int .u64 x.x.D_.rises.e6.total, .sl Mail.pc x.x.D_.rises.e6.kept, .int .u64 x.x.D_.rises.e7.total, .sl Mail.pc x.x.D_.rises.e7.kept, .int .u64 x.x.D_.rises.e8.total, .sl Mail.pc x.x.D_.rises.e8.kept, .int .u64 x.x.D_.rises.e9.total, .sl Mail.pc x.x.D_.rises.e9.kept, .int .u64 x.x.D_.rises.e10.total, .sl Mail.pc x.x.D_.rises.e10.kept, .int .u64 x.x.D_.rises.e11.total, .sl Mail.pc x.x.D_.rises.e11.kept, .int .u64 x.x.D_.rises.e12.total, .sl Mail.pc x.x.D_.rises.e12.kept, .int .u64 x.x.D_.rises.e13.total, .sl Mail.pc x.x.D_.rises.e13.kept, .int .u64 x.x.D_.rises.e14.total, .sl Mail.pc x.x.D_.rises.e14.kept, .int .u64 x.x.D_.rises.e15.total, .sl Mail.pc x.x.D_.rises.e15.kept, .int .u64 x.x.notes.total, .sl D5_.pc x.x.notes.kept, .int .u64 x.x.seen.e0, .int .u64 x.x.seen.e1, .int .u64 x.x.seen.e2, .int .u64 x.x.seen.e3, .int .u64 x.x.seen.e4, .int .u64 x.x.seen.e5, .int .u64 x.x.seen.e6, .int .u64 x.x.seen.e7, .int .u64 x.x.seen.e8, .int .u64 x.x.seen.e9, .int .u64 x.x.seen.e10, .int .u64 x.x.seen.e11, .int .u64 x.x.seen.e12, .int .u64 x.x.seen.e13, .int .u64 x.x.seen.e14, .int .u64 x.x.seen.e15, .int .u64 x.x.spent.e0.round, .int .i64 x.x.spent.e0.count, .int .u64 x.x.spent.e1.round, .int .i64 x.x.spent.e1.count, .int .u64 x.x.spent.e2.round, .int .i64 x.x.spent.e2.count, .int .u64 x.x.spent.e3.round, .int .i64 x.x.spent.e3.count, .int .u64 x.x.spent.e4.round, .int .i64 x.x.spent.e4.count, .int .u64 x.x.spent.e5.round, .int .i64 x.x.spent.e5.count, .int .u64 x.x.spent.e6.round, .int .i64 x.x.spent.e6.count, .int .u64 x.x.spent.e7.round, .int .i64 x.x.spent.e7.count, .int .i64 x.K_.work, .int .i64 x.K_.give, .sl A3_.pc x.K_.places, .sl i64c x.K_.slots, .sl B0_.pc x.K_.grants, .int .i64 x.place]
structure Z9_ where
 p:C_
 at_:Int
 book:Ap_
 D_:Z8_
 notes:B7_
 seen:A16_u64
 spent:A8_SpentR
deriving DecidableEq,Inhabited
def Z9_.pc (x:Z9_):List PV:=[.int .i64 x.p.work, .int .i64 x.p.give, .sl A3_.pc x.p.places, .sl i64c x.p.slots, .sl B0_.pc x.p.grants, .int .i64 x.at_, .sl W_.pc x.book.Ba_, .sl P_.pc x.book.binds, .int .u64 x.D_.next, .int .i64 x.D_.most, .sl RRowR.pc x.D_.rows, .int .u64 x.D_.rises.e0.total, .sl Mail.pc x.D_.rises.e0.kept, .int .u64 x.D_.rises.e1.total, .sl Mail.pc x.D_.rises.e1.kept, .int .u64 x.D_.rises.e2.total, .sl Mail.pc x.D_.rises.e2.kept, .int .u64 x.D_.rises.e3.total, .sl Mail.pc x.D_.rises.e3.kept, .int .u64 x.D_.rises.e4.total, .sl Mail.pc x.D_.rises.e4.kept, .int .u64 x.D_.rises.e5.total, .sl Mail.pc x.D_.rises.e5.kept, .int .u64 x.D_.rises.e6.total, .sl Mail.pc x.D_.rises.e6.kept, .int .u64 x.D_.rises.e7.total, .sl Mail.pc x.D_.rises.e7.kept, .int .u64 x.D_.rises.e8.total, .sl Mail.pc x.D_.rises.e8.kept, .int .u64 x.D_.rises.e9.total, .sl Mail.pc x.D_.rises.e9.kept, .int .u64 x.D_.rises.e10.total, .sl Mail.pc x.D_.rises.e10.kept, .int .u64 x.D_.rises.e11.total, .sl Mail.pc x.D_.rises.e11.kept, .int .u64 x.D_.rises.e12.total, .sl Mail.pc x.D_.rises.e12.kept, .int .u64 x.D_.rises.e13.total, .sl Mail.pc x.D_.rises.e13.kept, .int .u64 x.D_.rises.e14.total, .sl Mail.pc x.D_.rises.e14.kept, .int .u64 x.D_.rises.e15.total, .sl Mail.pc x.D_.rises.e15.kept, .int .u64 x.notes.total, .sl D5_.pc x.notes.kept, .int .u64 x.seen.e0, .int .u64 x.seen.e1, .int .u64 x.seen.e2, .int .u64 x.seen.e3, .int .u64 x.seen.e4, .int .u64 x.seen.e5, .int .u64 x.seen.e6, .int .u64 x.seen.e7, .int .u64 x.seen.e8, .int .u64 x.seen.e9, .int .u64 x.seen.e10, .int .u64 x.seen.e11, .int .u64 x.seen.e12, .int .u64 x.seen.e13, .int .u64 x.seen.e14, .int .u64 x.seen.e15, .int .u64 x.spent.e0.round, .int .i64 x.spent.e0.count, .int .u64 x.spent.e1.round, .int .i64 x.spent.e1.count, .int .u64 x.spent.e2.round, .int .i64 x.spent.e2.count, .int .u64 x.spent.e3.round, .int .i64 x.spent.e3.count, .int .u64 x.spent.e4.round, .int .i64 x.spent.e4.count, .int .u64 x.spent.e5.round, .int .i64 x.spent.e5.count, .int .u64 x.spent.e6.round, .int .i64 x.spent.e6.count, .int .u64 x.spent.e7.round, .int .i64 x.spent.e7.count]
structure Hp_ where
 queue:Bs
 Ab_:Mail
deriving DecidableEq,Inhabited
def Hp_.pc (x:Hp_):List PV:=[.str x.queue, .int .u64 x.Ab_.id, .str x.Ab_.Bb_, .str x.Ab_.key, .sl Pair.pc x.Ab_.head, .str x.Ab_.body, .int .u64 x.Ab_.due, .int .u8 x.Ab_.hops]
variable {P:Program} {n:Nat} {N:Rest} {H0:Env} {all:List Oper} {Q:Qs} {ks:List Kt} {s:St}
end Go.SW
namespace Go.SW.V
open Go.SW
variable {P:Program} {n:Nat} {N:Rest} {H0:Env} {all:List Oper} {Q:Qs} {ks:List Kt} {fF:Nat->PV} {fL:Nat->Blk}
end Go.SW.V
namespace Go.SW
variable {P:Program} {n:Nat} {N:Rest} {H0:Env} {all:List Oper} {Q:Qs} {ks:List Kt} {s:St}
theorem vw_l {ops:List Oper} {Lk:Ls} {Q:Qt} {fuel:Nat} {listed:Array Bool} {F:Fr} {H:Hp} {L:Ls} (i0:Nat) (r:List Nat) (hr:Region.ready .any ops.toArray listed=i0::r)
   (h:∀ i∈i0::r,∃ o,ops[i]? = some o/\Op1 P n N ops o (λF' H' L'=>(HLe H H'/\LLe Lk L')/\Vw P n N ops Lk Q fuel (listed.setIfInBounds i true) F' H' L') F H L):Vw P n N ops Lk Q (fuel+1) listed F H L:=by
 refine⟨λq=>(by rw[hr] at q;cases q),λj hj a w ha hm=>?_⟩
 rw[hr] at hj
 obtain⟨o,ho,h1⟩:=h j hj
 exact wpOp_mono (λa' w' ⟨F',H',L',x,y,z1,z2⟩=>⟨F',H',L',x,y, .inl ⟨z1.1, .inl z1.2⟩,z2⟩) (Rz_ ho h1 a w ha hm)
def Ej (P:Program) (n:Nat) (N:Rest) (H0:Env) (all:List Oper) (o:Oper) (xs:List Nat) (s:St) (K:St->Prop):Prop:=∃ j:Option Nat,(match j with|none=>true|some j=>memB xs j)=true/\E1 P n N H0 all o j s K
theorem ej {o:Oper} {xs:List Nat} {K:St->Prop} {j:Option Nat} (hj:(match j with|none=>true|some j=>memB xs j)=true) (h:E1 P n N H0 all o j s K):Ej P n N H0 all o xs s K:=⟨j,hj,h⟩
def AllE (P:Program) (n:Nat) (N:Rest) (H0:Env) (all:List Oper) (Q:Qs) (xs:List Nat) (fuel:Nat) (listed:Array Bool) (ks:List Kt) (s:St):List Nat->Prop
 |[]=>True
 |i::r=>(∃ o,nth all i=some o/\Ej P n N H0 all o xs s (λs'=>Hv P n N H0 Q (some xs) all fuel (listed.setIfInBounds i true) ks s'))/\AllE P n N H0 all Q xs fuel listed ks s r
theorem allE_mem {xs:List Nat} {fuel:Nat} {listed:Array Bool}:∀ {r:List Nat} {i:Nat},AllE P n N H0 all Q xs fuel listed ks s r->i∈r->∃ o,nth all i=some o/\Ej P n N H0 all o xs s (λs'=>Hv P n N H0 Q (some xs) all fuel (listed.setIfInBounds i true) ks s')
 |[],i,_,h=>by cases h
 |a::r,i,h,hm=>by
   rcases List.mem_cons.1 hm with e|q
   . subst e;exact h.1
   . exact allE_mem h.2 q
theorem veL {xs:List Nat} {fuel:Nat} {listed:Array Bool} (i0:Nat) (r:List Nat) (hr:Region.ready .any all.toArray listed=i0::r) (h:AllE P n N H0 all Q xs fuel listed ks s (i0::r)):Hv P n N H0 Q (some xs) all (fuel+1) listed ks s:=by
 intro F H L Lk ha hL
 refine vw_l i0 r hr λi hi=>?_
 obtain⟨o,ho,j,hj,he⟩:=allE_mem h hi
 rw[Jw_] at ho
 have hle:∀ L':Ls,(∀ i,j≠some i->L' i=L i)->LkR (some xs) Lk L':=λL' hL' i=>by
   rw[hL i]
   cases e:memB xs i with
   |true=>rfl
   |false=>
     refine (hL' i λz=>?_).symm
     subst z
     simp only at hj
     rw[e] at hj;cases hj
 have hlle:∀ L':Ls,(∀ i,j≠some i->L' i=L i)->LLe Lk L':=λL' hL' i x hx=>by
   have :=hle L' hL' i
   rw[this] at hx
   cases e:memB xs i with
   |true=>rw[e] at hx;cases hx
   |false=>rw[e] at hx;exact hx
 exact⟨o,ho,(he F H L ha).imp λF' H' L' ⟨h1,h2,s',h3,h4⟩=>⟨⟨h1,hlle L' h2⟩,h4 F' H' L' Lk h3 (hle L' h2)⟩⟩
end Go.SW
namespace Go.SW.V
open Go.SW
variable {P:Program} {n:Nat} {N:Rest} {H0:Env} {all:List Oper} {Q:Qs} {ks:List Kt} {fF:Nat->PV} {fL:Nat->Blk}
theorem roN {α:Type} {tb:Tb} {rs:List ResultVar} {ps:List PV} {res:Value->PV} {k e j:Nat} {enc:α->List PV} {xs xs':List α} {as0 bs:List Nat} {u0:Value} (u:Value) (h:Id_ tb ⟨fF,fL⟩ rs=some (ps,as0,bs)) (he:as0=bs) (hL:fL j = .arr u0 k e enc xs') (hu:u0=u) (hx:xs'=xs) (hp:PLe (tupP ps) (res u)):Hd P n N H0 (foK tb rs res k e enc xs) (.ex .ret) [] ⟨fF,fL⟩:=
 ⟨u,j,⟨.inr rfl,_,as0,bs,h,he,hp⟩,by show fL j=_;rw[hL,hx,hu]⟩
end Go.SW.V
namespace Go.SW.V
open Go.SW
variable {P:Program} {n:Nat} {N:Rest} {H0:Env} {all:List Oper} {Q:Qs} {ks:List Kt} {fF:Nat->PV} {fL:Nat->Blk} {T ty:Nat} {x y:Operand}
theorem lo_aidxA {F:Fr} {H:Hp} {L:Ls} {kk:IntKind} {len k m:Nat} {i:Int} {e:TypeId} {cs vs:List Value} (hx:ev F x = .agg cs.toArray) (hy:ev F y = .int kk i) (hT:P.underlying T=some (.array len e)) (hg:Ag P e true) (hk:Sz P e k) (hi:i=(m:Int)) (hm:m<len) (hv:sub cs (m*k) k=vs):SW.Lo P N (.index T x y) ty F H L (.agg vs.toArray):=λd pos af gg w _=>by
 subst hi
 simp[execOp,hy,hx,Instr.index,asIntOf,run_underlying hT,hk w,hm,part_A hg hk hv]
theorem lo_aidx1 {F:Fr} {H:Hp} {L:Ls} {kk:IntKind} {len k m:Nat} {i:Int} {e:TypeId} {cs:List Value} {v:Value} (hx:ev F x = .agg cs.toArray) (hy:ev F y = .int kk i) (hT:P.underlying T=some (.array len e)) (hg:Ag P e false) (hk:Sz P e k) (hi:i=(m:Int)) (hm:m<len) (hv:cs[m*k]? = some v):SW.Lo P N (.index T x y) ty F H L v:=λd pos af gg w _=>by
 subst hi
 simp[execOp,hy,hx,Instr.index,asIntOf,run_underlying hT,hk w,hm,part_1 hg hv]
theorem qaivA {tb:Tb} {te:TI} {kk:IntKind} {len k:Nat} {e:TypeId} {z:Int} {cs:List PV} (row:Nat->List PV) (m:Nat) (ht:tbB P tb=true) (hx:evP fF x = .agg cs) (hy:evP fF y = .int kk z) (hT:P.underlying T=some (.array len e)) (hte:lkT tb e=some te) (hag:te.k.isAgg=true) (hsz:te.size=k) (hi:z=(m:Int)) (hm:m<len) (hc:∀ q,q<len->(cs.drop (q*k)).take k=row q):Qy P N H0 ⟨fF,fL⟩ (.index T x y) ty (.agg (row m)):=λF H L ha=>by
 have h1:=(Do_ ha.f x).sim
 have h2:=(Do_ ha.f y).sim
 simp only at h1 h2
 rw[hx] at h1
 rw[hy] at h2
 obtain⟨vs,e1,h3⟩:=h1.inv_agg
 have hg:=(E0_ ht hte).ag
 rw[hag] at hg
 have hk:=(E0_ ht hte).sz
 rw[hsz] at hk
 exact⟨_,Sim.toAgg (by rw[<- hc m hm];exact (h3.drop _).take _),λ_ _ _=>lo_aidxA e1 h2.inv_int.1 hT hg hk hi hm rfl⟩
theorem qaiv1 {tb:Tb} {te:TI} {kk:IntKind} {len k:Nat} {e:TypeId} {z:Int} {cs:List PV} (row:Nat->PV) (m:Nat) (ht:tbB P tb=true) (hx:evP fF x = .agg cs) (hy:evP fF y = .int kk z) (hT:P.underlying T=some (.array len e)) (hte:lkT tb e=some te) (hag:te.k.isAgg=false) (hsz:te.size=k) (hi:z=(m:Int)) (hm:m<len) (hno:∀ q,(row q).noOsl=true) (hc:∀ q,q<len->cs[q*k]? = some (row q)):Qy P N H0 ⟨fF,fL⟩ (.index T x y) ty (row m):=λF H L ha=>by
 have h1:=(Do_ ha.f x).sim
 have h2:=(Do_ ha.f y).sim
 simp only at h1 h2
 rw[hx] at h1
 rw[hy] at h2
 obtain⟨vs,e1,h3⟩:=h1.inv_agg
 have hg:=(E0_ ht hte).ag
 rw[hag] at hg
 have hk:=(E0_ ht hte).sz
 rw[hsz] at hk
 obtain⟨v,hv,hsv⟩:=h3.get (hc m hm)
 exact⟨v,hsv.simT (hno m),λ_ _ _=>lo_aidx1 e1 h2.inv_int.1 hT hg hk hi hm hv⟩
end Go.SW.V
namespace Go.SW
variable {P:Program} {n:Nat} {N:Rest} {H0:Env} {all rest:List Oper} {Q:Qs} {ks:List Kt} {s:St} {T ty d:Nat} {pos:String} {af:Array Edge} {x y:Operand} {K:St->Prop} {op:Op} {p:PV}
end Go.SW
namespace Go.SW.V
open Go.SW
variable {P:Program} {n:Nat} {N:Rest} {H0:Env} {ks:List Kt} {fF:Nat->PV} {fL:Nat->Blk} {tb:Tb} {rs:List ResultVar} {res p q r t u:PV} {as0 bs:List Nat}
theorem rt4 (h:Id_ tb ⟨fF,fL⟩ rs=some ([p,q,r,t],as0,bs)) (he:as0=bs) (hp:PLe (.tup [p,q,r,t]) res):Hd P n N H0 (rtK tb rs res) (.ex .ret) [] ⟨fF,fL⟩:=rt h he hp
end Go.SW.V
namespace Go.SW
open Go.MapKept
variable {P:Program} {n:Nat} {N:Rest} {ops:List Oper} {F:Fr} {H:Hp} {L:Ls} {K:Fr->Hp->Ls->Prop} {T ty d:Nat} {pos:String} {af:Array Edge} {x y z:Operand} {κ ν:Type}
end Go.SW
namespace Go.SW.V
open Go.SW
variable {P:Program} {n:Nat} {N:Rest} {H0:Env} {all rest:List Oper} {Q:Qs} {ks:List Kt} {fF:Nat->PV} {fL:Nat->Blk} {T ty d:Nat} {pos:String} {af:Array Edge} {x y z:Operand} {K:St->Prop} {κ ν:Type}
end Go.SW.V
namespace Go.SW
variable {P:Program} {n:Nat} {N:Rest} {H0:Env} {all rest:List Oper} {Q:Qs} {ks:List Kt} {s:St} {T T' T2 ty d:Nat} {pos:String} {af:Array Edge} {x y z:Operand} {K:St->Prop} {op:Op} {p:PV}
structure Fx {α:Type} (P:Program) (G:Gb) (f:FuncId) (a0:PV) (args:List PV) (res:PV) (k e:Nat) (enc:α->List PV) (xs:List α):Prop where
 cb:Ad_ P f
 no:res.noOsl=true
 run:∀ (N:Rest) (H:Hp) (L:Ls) (w:World) (i:Nat) (v0 u:Value) (vs:List Value),G.p H->SimB (λ_=> .no) H (.arr u k e enc xs) (L i)->Sims H (a0::args) (v0::vs)->Mem N H L w ->
   Calls P f (v0::u::vs).toArray w λe' w'=>∃ v H',e' = .returned v/\Sim H' res v/\HLe H H'/\Mem N H' (lupd L i none) w'
theorem fx_cw {α:Type} {tb:Tb} {G:Gb} {m:Nat} {f:FuncId} {fn:Func} {c:Code} {a0:PV} {args:List PV} {res:PV} {k e:Nat} {enc:α->List PV} {xs:List α} (ht:tbB P tb=true) (hf:P.funcs[f]? = some fn) (hb:fn.body=some c) (hn:fn.ntmps=m) (hs:Nat.ble (args.length+2) m=true) (hcb:Ad_ P f) (hno:res.noOsl=true) (hna:Cs_ (a0::args)=true)
   (h:PV.wfs (a0::args)->xs.length<=140737488355328->∀ u N H,G.p H->Hd P m N ⟨H,G⟩ (rtK tb fn.results.toList res) (.code c) [] ⟨Ni_ (a0 :: .osl 0::args),lups (λ_=> .no) 0 (.arr u k e enc xs)⟩):Fx P G f a0 args res k e enc xs:=by
 refine⟨hcb,hno,λN H L w i v0 u vs hg hB hsim hm=>?_⟩
 subst hn
 have key:Pl P f (v0::u::vs).toArray H (L i) (λv H' _=>Sim H' res v):=by
   refine pl_of_cw hf hb (by have :=Nat.le_of_ble_eq_true hs;have :=hsim.1;simp at this ⊢;omega) λN=>?_
   have hlen:xs.length<=140737488355328:=by obtain⟨_,_,_,q⟩:=hB;exact q
   have h1:=h hsim.wf hlen u N H hg (Jy_ (v0::u::vs).toArray) H (ofE (L i)) ⟨.refl H,hg,λt=>?_,λj=>?_⟩
   . refine Jk_ (λe' F' H' L' hq=>?_) h1
     obtain⟨s',ha',hq'⟩:=hq
     obtain⟨he,v,hr,hv⟩:=Na_ (N:=N) ht ha' hq'
     rcases he with rfl|rfl
     . exact⟨v,hr,ha'.le,0,hv⟩
     . exact⟨v,hr,ha'.le,0,hv⟩
   . have hi:=Kx_ (sL:=lups (λ_=> .no) 0 (.arr u k e enc xs)) hsim hna
     match t with
     |0=>simpa [Ni_,nth,Jy_] using hi 0
     |1=>simp[Ni_,nth,SimT,Ec_,Jy_]
     |t+2=>simpa [Ni_,nth,Jy_] using hi (t+1)
   . by_cases e1:j=0
     . subst e1
       simp only[Ec_]
       have :ofE (L i) 0=L i:=by cases L i<;>rfl
       rw[this];exact hB
     . simp only[Hd_ _ _ _ _ e1];trivial
 refine (key N L w i rfl hm).mono λ_ _ ⟨v,H',en,h1,h5,h3,h4⟩=>⟨v,H',h1,h5,h3,?_⟩
 have h6:=h4.clear i
 have heq:lupd (lupd L i en) i none=lupd L i none:=funext λj=>by
   by_cases q:j=i
   . subst q;rw[Cj_,Cj_]
   . rw[B8_ _ _ _ _ q,B8_ _ _ _ _ q,B8_ _ _ _ _ q]
 rwa [heq] at h6
theorem ecallx' {α:Type} {f:FuncId} {a0:PV} {args:List PV} {res:PV} {i k e k2 e2:Nat} {enc:α->List PV} {xs:List α} {u:Value} {as0:Array Operand} {ats:Array TypeId} (h:Fx P H0.g f a0 args res k e enc xs) (hx:evP s.F x = .fn f [] []) (ha:evPs s.F as0.toList=a0 :: .osl i::args) (hna:Cs_ (a0::args)=true) (hb:s.L i = .arr u k2 e2 enc xs) (hk:k2=k) (he2:e2=e) (hd:Nat.blt d n=true)
   (kk:res.wf->K ⟨updp (Iz_ i s.F) d res,lups (Ho_ i s.L) i .no⟩):E1 P n N H0 all ⟨some d, .call ⟨.value x,as0,ats⟩,ty,pos,af,none⟩ (some i) s K:=by
 intro F H L hab
 subst hk;subst he2
 have h1:=(Do_ hab.f x).sim
 rw[hx] at h1
 obtain⟨v1,v2,ex,h2,h3⟩:=h1.inv_fn
 cases h2.inv_nil
 cases h3.inv_nil
 have hsT:=Wb_ (Ls:=s.L) (H:=H) (F:=F) (G:=s.F) (xs:=as0.toList) λy _=>Do_ hab.f y
 rw[ha] at hsT
 have hB:=hab.l i
 rw[hb] at hB
 cases hev:evs F as0.toList with
 |nil=>have :=hsT.1;rw[hev] at this;simp at this
 |cons v0 vs1=>cases vs1 with
   |nil=>have :=hsT.1;rw[hev] at this;simp at this
   |cons v1 vs=>
   rw[hev] at hsT
   have h4:=hsT.2 1 _ _ rfl rfl
   simp only[SimT,hb] at h4
   subst h4
   have h5:Sims H (a0::args) (v0::vs):=by
     obtain⟨q,r,e3,q1,q2⟩:=hsT.sims.inv_cons
     cases e3
     obtain⟨q',r',e4,_,q4⟩:=q2.inv_cons
     cases e4
     exact q4.cons q1
   have hen:En P (.call ⟨.value x,as0,ats⟩) F f (v0::v1::vs).toArray:=by
     have :=en_any (ats:=ats) (xs:=as0) ex h.cb
     rw[hev] at this
     simpa using this
   intro a w hA hm
   rw[if_pos (by simp[Region.wanted])]
   unfold Oper.wp
   rw[hA.eval,hen]
   refine (h.run N H L w i v0 v1 vs hab.g hB h5 hm).mono λe' w' ⟨v,H',he,hv,hl,hm'⟩=>?_
   subst he
   exact⟨_,H',_,hA.put (by simpa using hd) v,hm',hl,only,_,Abs.put (p:=res) ((hab.mono hl).turn i (B:= .no) (x:=none) trivial) d (hv.simT h.no),kk hv.wf⟩
end Go.SW
namespace Go.SW.V
open Go.SW
variable {P:Program} {n:Nat} {N:Rest} {H0:Env} {all rest:List Oper} {Q:Qs} {ks:List Kt} {fF:Nat->PV} {fL:Nat->Blk} {T T' T2 ty d:Nat} {pos:String} {af:Array Edge} {x y z:Operand} {K:St->Prop} {op:Op} {p:PV}
theorem ecallx {α:Type} {f:FuncId} {a0:PV} {args:List PV} {res:PV} {i k e k2 e2:Nat} {enc:α->List PV} {xs:List α} {u:Value} {as0:Array Operand} {ats:Array TypeId} (h:Fx P H0.g f a0 args res k e enc xs) (hx:evP fF x = .fn f [] []) (ha:evPs fF as0.toList=a0 :: .osl i::args) (hna:Cs_ (a0::args)=true) (hb:fL i = .arr u k2 e2 enc xs) (hk:k2=k) (he2:e2=e) (hd:Nat.blt d n=true)
   (kk:res.wf->K ⟨updp (Iz_ i fF) d res,lups (Ho_ i fL) i .no⟩):E1 P n N H0 all ⟨some d, .call ⟨.value x,as0,ats⟩,ty,pos,af,none⟩ (some i) ⟨fF,fL⟩ K:=
 SW.ecallx' (s:=⟨fF,fL⟩) h hx ha hna hb hk he2 hd kk
end Go.SW.V
namespace Go.SW
variable {P:Program} {n:Nat} {N:Rest} {H0:Env}
end Go.SW
namespace Go.SW.V
open Go.SW
variable {P:Program} {n:Nat} {N:Rest} {H0:Env} {fF:Nat->PV} {fL:Nat->Blk}
end Go.SW.V
namespace Go.SW
variable {P:Program}
end Go.SW
namespace Go.SW
variable {P:Program} {n:Nat} {N:Rest} {H0:Env}
theorem callgF' {all rest:List Oper} {Q:Qs} {ks:List Kt} {s:St} {f:FuncId} {args:List PV} {res:PV} {x:Operand} {xs:Array Operand} {ats:Array TypeId} {ty d j:Nat} {want g:Bool} {pos:String} {af:Array Edge} (hg:gOp s all j want=some g) (h:g=true->Fn P H0.g f args res) (ha:argsP (strG (Ir_ (x::xs.toList)) s.F) x xs.toList=some (f,args)) (hc:AllP (Ma_ s.F g (Ir_ (x::xs.toList)) [])) (hno:Jm_ s.F (Ir_ (x::xs.toList))=true) (hd:Nat.blt d n=true)
   (k:(g=true->res.wf)->Hd P n N H0 Q (.ops all rest) ks ⟨updp s.F d (.gv g res),s.L⟩):Hd P n N H0 Q (.ops all (⟨some d, .call ⟨.value x,xs,ats⟩,ty,pos,af,some (j,want)⟩::rest)) ks s:=by
 intro F H L hab
 obtain⟨c,b,hy,hge⟩:=Ps_ hab hg
 refine ow_gd hy hd (λe=>?_) (λe=>?_)
 . have hgt:=hge.trans e
   have hF:=h hgt
   obtain⟨vs,h1,h2⟩:=Is_ (ats:=ats) (Oa_ hab.f (λt ht c v e=>(J7_ hc).2 t ht c v e hgt) (Jn_ hno)) ha hF.cb
   refine Zh_ (hF.ph hab.g h1) h2 hd λv H' hv hl=>?_
   refine k (λ_=>hv.wf) _ _ _ ((hab.mono hl).put d ?_)
   rw[hgt]
   exact Sim.gvt hv
 . have hgf:=hge.trans e
   refine k (λe=>by rw[hgf] at e;cases e) _ _ _ (hab.put d ?_)
   rw[hgf]
   exact Sim.gvf
end Go.SW
namespace Go.SW.V
open Go.SW
variable {P:Program} {n:Nat} {N:Rest} {H0:Env} {fF:Nat->PV} {fL:Nat->Blk}
theorem callgF {all rest:List Oper} {Q:Qs} {ks:List Kt} {f:FuncId} {args:List PV} {res:PV} {x:Operand} {xs:Array Operand} {ats:Array TypeId} {ty d j:Nat} {want g:Bool} {pos:String} {af:Array Edge} (hg:gOp ⟨fF,fL⟩ all j want=some g) (h:g=true->Fn P H0.g f args res) (ha:argsP (strG (Ir_ (x::xs.toList)) fF) x xs.toList=some (f,args)) (hc:AllP (Ma_ fF g (Ir_ (x::xs.toList)) [])) (hno:Jm_ fF (Ir_ (x::xs.toList))=true) (hd:Nat.blt d n=true)
   (k:(g=true->res.wf)->Hd P n N H0 Q (.ops all rest) ks ⟨updp fF d (.gv g res),fL⟩):Hd P n N H0 Q (.ops all (⟨some d, .call ⟨.value x,xs,ats⟩,ty,pos,af,some (j,want)⟩::rest)) ks ⟨fF,fL⟩:=SW.callgF' (s:=⟨fF,fL⟩) hg h ha hc hno hd k
end Go.SW.V
namespace Go.SW
def MlOk (m:Mail):Prop:=m.head.length<=8/\0<=m.hops/\m.hops<=4/\m.key.length<=64
def Oz_ (l:List M_):Prop:=(l.map λx=>x.Ab_.id).Pairwise (· < ·)
def LnOk (l:Ae_):Prop:=l.items.length<=64/\(∀ x∈l.items,MlOk x.Ab_)/\Oz_ l.items
def RiOk (x:Bc_):Prop:=x.kept.length<=16/\∀ m∈x.kept,m.head.length<=8
def RwsOk (l:List Gi_):Prop:=l.length<=8/\(∀ r∈l,LnOk r.l)/\(l.map (·.q.name)).Nodup
def StkOk (s:F_):Prop:=RwsOk s.rows/\(∀ i,i<16->RiOk (s.rises.get i))/\0<=s.bytes/\s.bytes<=1000000
def BkOk (b:Ap_):Prop:=b.Ba_.length<=8/\b.binds.length<=32/\∀ y∈b.binds,y.key.length<=1000
def PoOk (p:C_):Prop:=0<p.places.length/\p.places.length<=16/\0<p.slots.length/\p.slots.length<=32/\p.grants.length<=8/\(∀ g∈p.grants,0<=g.frm/\g.frm<p.places.length/\0<=g.to'/\g.to'<p.places.length/\0<=g.budget/\g.budget<=16)/\∀ x∈p.places,0<=x.bytes/\x.bytes<=65536
def PrOk (x:U_):Prop:=BkOk x.book/\StkOk x.D_/\x.notes.kept.length<=32/\∀ i,i<8->0<=(x.spent.get i).count/\(x.spent.get i).count<=16
def DdOk (d:L_):Prop:=d.bind.key.length<=1000/\d.bind.want.length<=1000/\d.Ab_.head.length<=1000/\d.Ab_.key.length<=1000
def StOk (s:E_):Prop:=PrOk s.x/\PoOk s.K_/\0<=s.place/\s.place<s.K_.places.length
theorem M5_:LnOk ⟨[]⟩:=⟨Nat.zero_le _,(λ_ h=>by cases h),List.Pairwise.nil⟩
theorem LnOk.sub {l m:Ae_} (h:LnOk l) (hs:m.items.Sublist l.items):LnOk m:=⟨Nat.le_trans hs.length_le h.1,λx hx=>h.2.1 x (hs.subset hx),h.2.2.sublist (hs.map _)⟩
theorem RwsOk.at {l:List Gi_} (h:RwsOk l) {k:Nat} {x:Gi_} (hx:l[k]? = some x):LnOk x.l:=h.2.1 x (List.mem_of_getElem? hx)
theorem Lv_ {α β:Type} (f:α->β):∀ (l:List α) (k:Nat) (x y:α),l[k]? = some x->f y=f x->(l.set k y).map f=l.map f
 |[],_,_,_,h,_=>by cases h
 |a::r,0,x,y,h,e=>by simp at h;subst h;simp[e]
 |a::r,k+1,x,y,h,e=>by simpa using Lv_ f r k x y (by simpa using h) e
theorem RwsOk.set {l:List Gi_} (h:RwsOk l) {k:Nat} {x y:Gi_} (hx:l[k]? = some x) (hn:y.q.name=x.q.name) (hy:LnOk y.l):RwsOk (l.set k y):=by
 refine⟨by simpa using h.1,λr hr=>?_,?_⟩
 . rcases List.mem_or_eq_of_mem_set hr with q|q
   . exact h.2.1 r q
   . exact q ▸ hy
 . rw[Lv_ (λr:Gi_=>r.q.name) l k x y hx hn];exact h.2.2
theorem RwsOk.sub {l m:List Gi_} (h:RwsOk l) (hs:m.Sublist l):RwsOk m:=⟨Nat.le_trans hs.length_le h.1,λr hr=>h.2.1 r (hs.subset hr),(hs.map _).nodup h.2.2⟩
theorem StkOk.set {s:F_} (h:StkOk s) {v:Bc_} (m:Nat) (hm:m<16) (hv:RiOk v):StkOk {s with rises:=s.rises.set v m}:=by
 refine⟨h.1,λi hi=>?_,h.2.2⟩
 show RiOk ((s.rises.set v m).get i)
 rw[V.A16.get_set _ _ _ _ hm hi]
 split
 . exact hv
 . exact h.2.1 i hi
theorem StOk.stk {s:E_} (h:StOk s):StkOk s.x.D_:=h.1.2.1
end Go.SW
namespace Go.SW.V
open Go.SW
def H1_ (l:List Bs) (s:Bs):(List Bs):=
 (bif decide (s∈l) then
 l
 else (l++[s]))
def Bz_ (b:Ap_) (x:W_):Ap_×Int:=
 (bif !decide ((Kq_ x)=0) then
 (b,Kq_ x)
 else (bif (((Eo_ b.Ba_ x.name).isSome)&&(decide (x=((Eo_ b.Ba_ x.name).getD W_.zero)))) then
 (b,0)
 else (bif (Eo_ b.Ba_ x.name).isSome then
 (b,9)
 else (bif decide (8<=(b.Ba_.length:Int)) then
 (b,12)
 else ((⟨[b.Ba_,[x]].flatten,b.binds⟩:Ap_),0)))))
def Bn_ (b:Ap_) (x:P_):Int:=
 (idxP (λz_4:P_=>decide (x=z_4)) b.binds)
theorem put_len (l:List Bs) (s:Bs):(H1_ l s).length<=l.length+1:=by
 unfold H1_
 cases decide (s∈l)<;>simp
theorem there_r (b:Ap_) (x:P_):-1<=Bn_ b x/\Bn_ b x<b.binds.length:=H8_ _ _
def A4_ (b:Ap_) (x:P_):Ap_×Int:=
 (bif !((Eo_ b.Ba_ x.Bb_).isSome) then
 (b,10)
 else (bif decide ((((Eo_ b.Ba_ x.Bb_).getD W_.zero).sort)=4) then
 (b,8)
 else (bif !decide ((Ez_ x.to')=0) then
 (b,Ez_ x.to')
 else (bif !decide ((Qh_ (Ji_ x (((Eo_ b.Ba_ x.Bb_).getD W_.zero).sort)))=0) then
 (b,Qh_ (Ji_ x (((Eo_ b.Ba_ x.Bb_).getD W_.zero).sort)))
 else lt (Bn_ b x) λr=>
 (bif decide (0<=r) then
 (b,0)
 else (bif decide (32<=(b.binds.length:Int)) then
 (b,12)
 else ((⟨b.Ba_,[b.binds,[x]].flatten⟩:Ap_),0)))))))
def Br_ (b:Ap_) (Bb_:Bs) (key:Bs) (h:List Pair):List P_->List Bs->List Bs->(List Bs)×(List Bs)×Int
 |[],queues,places=>(queues,places,0)
 | x::t,queues,places=>(lt1 ((bif !decide ((x.Bb_)=Bb_) then
 (!decide ((x.Bb_)=Bb_))
 else (!(Qs_ (Ji_ x (((Eo_ b.Ba_ Bb_).getD W_.zero).sort)) key h)))) (λv=>
 (bif v then
 Br_ b Bb_ key h t queues places
 else (bif x.up then
 lt (H1_ places (x.to')) λr=>
 Br_ b Bb_ key h t queues r
 else lt (H1_ queues (x.to')) λr1=>
 Br_ b Bb_ key h t r1 places))))
def Cn_ (b:Ap_) (Bb_:Bs) (key:Bs) (h:List Pair):(List Bs)×(List Bs)×Int:=
 (bif !((Eo_ b.Ba_ Bb_).isSome) then
 ([],[],10)
 else (bif decide ((((Eo_ b.Ba_ Bb_).getD W_.zero).sort)=4) then
 ([],[((Eo_ b.Ba_ Bb_).getD W_.zero).to'],0)
 else Br_ b Bb_ key h b.binds [] []))
def Fd_ (l:List L_):List L_->Bool
 |[]=>(decide ((l.length:Int)<=40))
 | x::t=>(bif !(P1_ x) then
 false
 else Fd_ l t)
def Lb_ (l:List L_):Bool:=
 Fd_ l l
def D8_ (n:Int) (least:Int) (most:Int):Bool:=
 ((decide (least<=n))&&(decide (n<=most)))
def Hr_ (a:Cq_) (b:Cq_):Bool:=
 ((decide (a.level<=b.level))&&(decide ((IntKind.wrap .u32 ((BitVec.ofInt (IntKind.bits .u32) a.Z7_ &&& ~~~ BitVec.ofInt (IntKind.bits .u32) b.Z7_).toNat))=0)))
def B1_ (p:C_) (i:Int):Bool:=
 (D8_ i 0 ((p.places.length:Int)-1))
def Kf_ (x:A3_) (x1:Bs):Bool:=
 (decide (x.name=x1))
def Io_ (x:B0_) (x1:Int) (x2:Int):Bool:=
 ((decide (x.frm=x1))&&(decide (x.to'=x2)))
def In_ (n:B7_):Int:=
 n.total
def Lm_ (p:C_) (tick:Int):Int:=
 (tick/(p.slots.length:Int))
def J_ (m:Mail):Mail:=
 m
def Ex_ (m:Mail):Int:=
 ((Bp_ m).length:Int)
def B6_ (x:M_):M_:=
 lt (J_ x.Ab_) λr=>
 (⟨r,x.Ui_,x.again⟩:M_)
def W3_ (x0:Mail):Bool:=
 true
def M4_ (x:M_) (x1:Int):Bool:=
 (decide (x.Ab_.id=x1))
def A8_ (l:Ae_):Int:=
 (l.items.length:Int)
def Qw_ (m:Mail) (x1:Int):Bool:=
 ((!decide (m.due=0))&&(decide (m.due<=x1)))
def Ik_ (x:M_):Bool:=
 ((!x.Ui_)&&(W3_ x.Ab_))
def Hy_ (x:M_) (x1:Int):Bool:=
 ((!x.Ui_)&&(Qw_ x.Ab_ x1))
theorem Ri_ (m:Mail):0<=Ex_ m/\Ex_ m<=3000:=by
 have :=F8_ m
 simp only[Ex_];omega
def Ed_ (p:C_) (from_:Int) (to_:Int):Bool:=
 ((((!decide (from_=to_))&&(B1_ p from_))&&(B1_ p to_))&&(Hr_ ((gt p.places ((from_).toNat)).label) ((gt p.places ((to_).toNat)).label)))
def T_ (p:C_) (name:Bs):Int:=
 (idxP (λz_4:A3_=>(Kf_ z_4 name)) p.places)
def Ak_ (p:C_) (from_:Int) (to_:Int):Int:=
 (idxP (λz_5:B0_=>(Io_ z_5 from_ to_)) p.grants)
def C4_ (n:B7_) (x:D5_):B7_×Int:=
 (bif decide (64<(x.text.length:Int)) then
 (n,5)
 else (bif decide (n.total=18446744073709551615) then
 (n,18)
 else ((⟨(IntKind.wrap .u64 (n.total+1)),(([n.kept,[x]].flatten).drop ((max 0 ((([n.kept,[x]].flatten).length:Int)-32))).toNat)⟩:B7_),0)))
def Hm_ (n:B7_) (number:Int):D5_×Bool:=
 (bif ((decide (number<=(IntKind.wrap .u64 (n.total-(n.kept.length:Int)))))||(decide (n.total<number))) then
 ((⟨0,0,[]⟩:D5_),false)
 else ((gt n.kept (((IntKind.wrap .u64 ((IntKind.wrap .u64 (number-(IntKind.wrap .u64 (n.total-(n.kept.length:Int)))))-1))).toNat)),true))
def Dq_ (n:B7_):(List D5_):=
 n.kept
def Bd_ (l:Ae_) (id:Int):Int:=
 (idxP (λz_4:M_=>(M4_ z_4 id)) l.items)
def E6_ (l:Ae_) (m:Mail):Int:=
 (bif !decide ((Gt_ m)=0) then
 (Gt_ m)
 else (bif ((decide (0<(l.items.length:Int)))&&(decide (m.id<=((gt l.items ((((l.items.length:Int)-1)).toNat)).Ab_.id)))) then
 13
 else (bif decide (64<=(l.items.length:Int)) then
 12
 else 0)))
def Ci_ (l:Ae_):Int:=
 (idxP (λz_4:M_=>(Ik_ z_4)) l.items)
def Fr_ (l:Ae_) (so:Int):Int:=
 (idxP (λz_4:M_=>(Hy_ z_4 so)) l.items)
theorem Sz_ {α:Type} [Inhabited α] {p:α->Bool} {l:List α} (h:0<=idxP p l):p (gt l (idxP p l).toNat)=true:=by
 have hb:=H8_ p l
 exact (idxP_get (by omega) (getG (xs:=l) (k:=(idxP p l).toNat) (by omega))).1
theorem find_b (p:C_) (n:Bs):-1<=T_ p n/\T_ p n<p.places.length:=H8_ _ _
theorem Wj_ (p:C_) (a b:Int):-1<=Ak_ p a b/\Ak_ p a b<p.grants.length:=H8_ _ _
theorem grant_to {p:C_} {a b:Int} (h:0<=Ak_ p a b):(gt p.grants (Ak_ p a b).toNat).frm=a/\(gt p.grants (Ak_ p a b).toNat).to'=b:=by
 have :=Sz_ h
 simp only[Io_,Bool.and_eq_true] at this
 exact⟨of_decide_eq_true this.1,of_decide_eq_true this.2⟩
theorem lof_b (l:Ae_) (id:Int):-1<=Bd_ l id/\Bd_ l id<l.items.length:=H8_ _ _
theorem lof_at {l:Ae_} {id:Int} (h:0<=Bd_ l id):(gt l.items (Bd_ l id).toNat).Ab_.id=id:=by
 have :=Sz_ h
 exact of_decide_eq_true this
theorem Ry_ (l:Ae_):-1<=Ci_ l/\Ci_ l<l.items.length:=H8_ _ _
theorem llate_b (l:Ae_) (t:Int):-1<=Fr_ l t/\Fr_ l t<l.items.length:=H8_ _ _
theorem Yx_ {l:Ae_} {m:Mail} (h:E6_ l m=0):Gt_ m=0/\l.items.length<64/\(l.items.length=0\/(gt l.items ((l.items.length:Int)-1).toNat).Ab_.id<m.id):=by
 unfold E6_ at h
 cases e1:decide (Gt_ m=0) with
 |false=>rw[e1] at h;simp at h;simp[h] at e1
 |true=>
   rw[e1] at h
   simp only[Bool.not_true,cond_false] at h
   cases e2:((decide (0<(l.items.length:Int)))&&(decide (m.id<=((gt l.items ((((l.items.length:Int)-1)).toNat)).Ab_.id)))) with
   |true=>rw[e2] at h;cases h
   |false=>
     rw[e2] at h
     cases e3:decide (64<=(l.items.length:Int)) with
     |true=>rw[e3] at h;cases h
     |false=>
       simp only[Bool.and_eq_false_iff,decide_eq_false_iff_not] at e2
       simp at e3 e1
       exact⟨e1,by omega,by omega⟩
theorem mlOk_of {m:Mail} (h:Gt_ m=0) (h0:0<=m.hops):MlOk m:=by
 obtain⟨_,h2,h3,_,h5⟩:=Hs_ h
 exact⟨(Lp_ h3).1,h0,h5,h2⟩
theorem W8_ {n:B7_} {x:D5_} (h:n.kept.length<=32):(C4_ n x).1.kept.length<=32:=by
 unfold C4_
 cases decide (64<(x.text.length:Int)) with
 |true=>exact h
 |false=>
   cases decide (n.total=18446744073709551615) with
   |true=>exact h
   |false=>simp;omega
end Go.SW.V
namespace Go.SW.V
open Go.SW
theorem Xz_ {α:Type} [Inhabited α] {xs:List α} {k:Nat} {y:α} (h:k<xs.length):gt (xs.set k y) k=y:=by
 simp[gt,h]
end Go.SW.V
namespace Go.SW.V
open Go.SW
theorem Wk_ {p:C_} (h:PoOk p) (a b:Int):0<=Ak_ p a b->0<=b/\b<p.places.length/\0<=(gt p.grants (Ak_ p a b).toNat).budget/\(gt p.grants (Ak_ p a b).toNat).budget<=16:=λh0=>by
 have hb:=Wj_ p a b
 have ht:=grant_to h0
 have hg:=h.2.2.2.2.2.1 _ (List.mem_of_getElem? (getG (xs:=p.grants) (k:=(Ak_ p a b).toNat) (by omega)))
 omega
def Ej_ (l:Ae_) (x:M_):Ae_×Int:=
 lt (E6_ l x.Ab_) λr=>
 (bif !decide (r=0) then
 (l,r)
 else lt (B6_ x) λr1=>
 ((⟨[l.items,[r1]].flatten⟩:Ae_),0))
def Ct_ (l:Ae_) (m:Mail):Ae_×Int:=
 lt (Ej_ l (⟨m,false,false⟩:M_)) λr=>
 (r.1,r.2)
def An_ (l:Ae_) (id:Int):Ae_×M_×Int:=
 lt (Bd_ l id) λr=>
 (bif decide (r<0) then
 (l,(⟨(⟨0,[],[],[],[],0,0⟩:Mail),false,false⟩:M_),10)
 else lt (B6_ (gt l.items ((r).toNat))) λr1=>
 ((⟨[(l.items.take (r).toNat),(l.items.drop ((r+1)).toNat)].flatten⟩:Ae_),r1,0))
def C7_ (l:Ae_) (k:Int):Mail×Bool:=
 (bif decide (k<0) then
 ((⟨0,[],[],[],[],0,0⟩:Mail),false)
 else lt (J_ ((gt l.items ((k).toNat)).Ab_)) λr=>
 (r,true))
def B9_:List M_->Int->Int
 |[],n=>n
 |x::t,n=>lt (Ex_ (x.Ab_)) λr=>
 B9_ t (n+r)
def E2_ (l:Ae_):Int:=
 B9_ l.items 0
def C6_ (l:Ae_):Ae_×M_×Bool:=
 lt (Ci_ l) λr=>
 (bif decide (r<0) then
 (l,(⟨(⟨0,[],[],[],[],0,0⟩:Mail),false,false⟩:M_),false)
 else lt (B6_ (gt (l.items.set ((r).toNat) (⟨(gt l.items ((r).toNat)).Ab_,true,(gt l.items ((r).toNat)).again⟩:M_)) ((r).toNat))) λr1=>
 ((⟨(l.items.set ((r).toNat) (⟨(gt l.items ((r).toNat)).Ab_,true,(gt l.items ((r).toNat)).again⟩:M_))⟩:Ae_),r1,true))
def Eg_ (l:Ae_) (id:Int):Ae_×Int:=
 lt (Bd_ l id) λr=>
 (bif decide (r<0) then
 (l,10)
 else (bif !((gt l.items ((r).toNat)).Ui_) then
 (l,13)
 else ((⟨((l.items.set ((r).toNat) (⟨(gt l.items ((r).toNat)).Ab_,false,(gt l.items ((r).toNat)).again⟩:M_)).set ((r).toNat) (⟨(gt (l.items.set ((r).toNat) (⟨(gt l.items ((r).toNat)).Ab_,false,(gt l.items ((r).toNat)).again⟩:M_)) ((r).toNat)).Ab_,(gt (l.items.set ((r).toNat) (⟨(gt l.items ((r).toNat)).Ab_,false,(gt l.items ((r).toNat)).again⟩:M_)) ((r).toNat)).Ui_,true⟩:M_))⟩:Ae_),0)))
def Ca_:List M_->Nat->Ae_->Ae_
 |[],k,x=>x
 | x1::t,k,x=>(bif x1.Ui_ then
 Ca_ t (k+1) (⟨((x.items.set k (⟨(gt x.items k).Ab_,false,(gt x.items k).again⟩:M_)).set k (⟨(gt (x.items.set k (⟨(gt x.items k).Ab_,false,(gt x.items k).again⟩:M_)) k).Ab_,(gt (x.items.set k (⟨(gt x.items k).Ab_,false,(gt x.items k).again⟩:M_)) k).Ui_,true⟩:M_))⟩:Ae_)
 else Ca_ t (k+1) x)
def Eq_ (l:Ae_):Ae_:=
 Ca_ l.items 0 l
def Cr_ (l:Ae_):Mail×Bool:=
 lt (C7_ l (Ci_ l)) λr=>
 (r.1,r.2)
def Fn_ (l:Ae_) (tick:Int):Mail×Bool:=
 lt (C7_ l (Fr_ l tick)) λr=>
 (r.1,r.2)
def Dc_:List M_->List M_->(List M_)
 |[],out=>out
 |x::t,out=>lt (B6_ x) λr=>
 Dc_ t (out++[r])
def Et_ (l:Ae_):(List M_):=
 Dc_ l.items []
def Cc_ (x:Bc_) (m:Mail):Bc_×Int:=
 (bif !decide ((Gt_ m)=0) then
 (x,Gt_ m)
 else (bif decide (x.total=18446744073709551615) then
 (x,18)
 else lt (J_ m) λr=>
 ((⟨(IntKind.wrap .u64 (x.total+1)),(([x.kept,[r]].flatten).drop ((max 0 ((([x.kept,[r]].flatten).length:Int)-16))).toNat)⟩:Bc_),0)))
def Go_ (x:Bc_) (number:Int):Int×Mail×Bool:=
 (bif decide (x.total<=number) then
 (0,(⟨0,[],[],[],[],0,0⟩:Mail),false)
 else lt (J_ (gt x.kept (((IntKind.wrap .u64 ((max (IntKind.wrap .u64 ((IntKind.wrap .u64 (x.total-(x.kept.length:Int)))+1)) (IntKind.wrap .u64 (number+1)))-(IntKind.wrap .u64 ((IntKind.wrap .u64 (x.total-(x.kept.length:Int)))+1))))).toNat))) λr=>
 ((max (IntKind.wrap .u64 ((IntKind.wrap .u64 (x.total-(x.kept.length:Int)))+1)) (IntKind.wrap .u64 (number+1))),r,true))
def Dr_ (x:Bc_):Int:=
 x.total
def Df_:List Mail->Int->Int
 |[],n=>n
 |x1::t,n=>lt (Ex_ x1) λr=>
 Df_ t (n+r)
def Dl_ (x:Bc_):Int:=
 Df_ x.kept 0
def F1_:List Mail->List Mail->(List Mail)
 |[],out=>out
 |x1::t,out=>lt (J_ x1) λr=>
 F1_ t (out++[r])
def Iq_ (x:Bc_):(List Mail):=
 F1_ x.kept []
def B4_ (base:Int) (bytes:Int):F_:=
 (⟨base,(max 0 bytes),[],(⟨(⟨0,[]⟩:Bc_),(⟨0,[]⟩:Bc_),(⟨0,[]⟩:Bc_),(⟨0,[]⟩:Bc_),(⟨0,[]⟩:Bc_),(⟨0,[]⟩:Bc_),(⟨0,[]⟩:Bc_),(⟨0,[]⟩:Bc_),(⟨0,[]⟩:Bc_),(⟨0,[]⟩:Bc_),(⟨0,[]⟩:Bc_),(⟨0,[]⟩:Bc_),(⟨0,[]⟩:Bc_),(⟨0,[]⟩:Bc_),(⟨0,[]⟩:Bc_),(⟨0,[]⟩:Bc_)⟩:A16_RiseR)⟩:F_)
def Bj_ (q:Q_):Int:=
 (bif !decide ((Ez_ q.name)=0) then
 (Ez_ q.name)
 else (bif ((decide (q.most<1))||(decide (64<q.most))) then
 7
 else (bif !decide (q.dead=[]) then
 (Ez_ q.dead)
 else 0)))
def N7_ (x:Gi_) (x1:Bs):Bool:=
 (decide (x.q.name=x1))
def I_ (s:F_) (name:Bs):Int:=
 (idxP (λz_4:Gi_=>(N7_ z_4 name)) s.rows)
theorem bt {α:Type} {b:Bool} {x y:α} {P:α->Prop} (h1:b=true->P x) (h2:b=false->P y):P (bif b then x else y):=by
 cases b
 . exact h2 rfl
 . exact h1 rfl
theorem T5_ {l:List M_} (h:Oz_ l) {i j:Nat} {x y:M_} (hi:l[i]? = some x) (hj:l[j]? = some y) (hij:i<j):x.Ab_.id<y.Ab_.id:=by
 have h1:=List.pairwise_iff_getElem.1 h i j
 obtain⟨a,rfl⟩:=List.getElem?_eq_some_iff.1 hi
 obtain⟨b,rfl⟩:=List.getElem?_eq_some_iff.1 hj
 have h2:=h1 (by simpa using a) (by simpa using b) hij
 rw[List.getElem_map,List.getElem_map] at h2
 exact h2
theorem rising_app {l:List M_} {x:M_} (h:Oz_ l) (hx:∀ y,l[l.length-1]? = some y->y.Ab_.id<x.Ab_.id):Oz_ (l++[x]):=by
 unfold Oz_
 rw[List.map_append,List.pairwise_append]
 refine⟨h,by simp,λa ha b hb=>?_⟩
 obtain⟨y,hy,rfl⟩:=List.mem_map.1 ha
 simp at hb;subst hb
 obtain⟨i,hi⟩:=List.getElem?_of_mem hy
 have hil:=(List.getElem?_eq_some_iff.1 hi).1
 have hl:=List.getElem?_eq_getElem (l:=l) (i:=l.length-1) (by omega)
 have h1:=hx _ hl
 by_cases e:i=l.length-1
 . subst e;rw[hl] at hi;cases hi;exact h1
 . exact Int.lt_trans (T5_ h hi hl (by omega)) h1
theorem lput_ok {l:Ae_} {x:M_} (h:LnOk l) (h0:0<=x.Ab_.hops):LnOk (Ej_ l x).1:=by
 unfold Ej_ lt
 refine bt (P:=λr:Ae_×Int=>LnOk r.1) (λ_=>h) λe=>?_
 simp only[Bool.not_eq_eq_eq_not,Bool.not_false,decide_eq_true_eq] at e
 obtain⟨h1,h2,h3⟩:=Yx_ e
 refine⟨by simp;omega,λy hy=>?_,?_⟩
 . simp[B6_,lt,J_] at hy
   rcases hy with hy|rfl
   . exact h.2.1 y hy
   . exact mlOk_of h1 h0
 . show Oz_ ([l.items,[B6_ x]].flatten)
   simp only[List.flatten_cons,List.flatten_nil,List.append_nil]
   refine rising_app h.2.2 λy hy=>?_
   have hl:=(List.getElem?_eq_some_iff.1 hy).1
   rcases h3 with q|q
   . omega
   . have :((l.items.length:Int)-1).toNat=l.items.length-1:=by omega
     rw[this] at q
     rw[getG (xs:=l.items) (k:=l.items.length-1) (by omega)] at hy
     cases hy
     exact q
theorem Wz_ {l:Ae_} {m:Mail} (h:LnOk l) (h0:0<=m.hops):LnOk (Ct_ l m).1:=lput_ok (x:=⟨m,false,false⟩) h h0
theorem Hz_:MlOk ⟨0,[],[],[],[],0,0⟩:=⟨by simp,by simp,by simp,by simp⟩
theorem Ib_ {α:Type} [Inhabited α] {xs:List α} {k:Nat} (h:k<xs.length):gt xs k∈xs:=List.mem_of_getElem? (getG h)
theorem Ql_ {α:Type} (l:List α) (k:Nat):([l.take k,l.drop (k+1)].flatten).Sublist l:=by
 simp only[List.flatten_cons,List.flatten_nil,List.append_nil]
 have h:l=l.take k++l.drop k:=(List.take_append_drop k l).symm
 conv=>rhs;rw[h]
 refine List.Sublist.append (List.Sublist.refl _) ?_
 rw[<- List.drop_drop]
 exact List.drop_sublist 1 _
theorem Oi_ {l:Ae_} {id:Int} (h:LnOk l):LnOk (An_ l id).1/\MlOk (An_ l id).2.1.Ab_:=by
 unfold An_ lt
 refine bt (P:=λr:Ae_×M_×Int=>LnOk r.1/\MlOk r.2.1.Ab_) (λ_=>⟨h,Hz_⟩) λe=>?_
 simp only[decide_eq_false_iff_not] at e
 have hb:=lof_b l id
 refine⟨h.sub ?_,?_⟩
 . have :(Bd_ l id+1).toNat=(Bd_ l id).toNat+1:=by omega
   rw[this];exact Ql_ _ _
 . exact h.2.1 _ (Ib_ (by omega))
theorem Tl_ {l:Ae_} {k:Nat} {y:M_} (h:LnOk l) (hk:k<l.items.length) (he:y.Ab_=(gt l.items k).Ab_):LnOk ⟨l.items.set k y⟩:=by
 have hm:=h.2.1 _ (Ib_ hk)
 refine⟨by simpa using h.1,λx hx=>?_,?_⟩
 . rcases List.mem_or_eq_of_mem_set hx with q|q
   . exact h.2.1 x q
   . subst q;rw[he];exact hm
 . show Oz_ (l.items.set k y)
   unfold Oz_
   rw[Lv_ (λx:M_=>x.Ab_.id) l.items k _ y (getG hk) (by rw[he])]
   exact h.2.2
theorem Rw_ {l:Ae_} (h:LnOk l):LnOk (C6_ l).1/\MlOk (C6_ l).2.1.Ab_:=by
 unfold C6_ lt
 refine bt (P:=λr:Ae_×M_×Bool=>LnOk r.1/\MlOk r.2.1.Ab_) (λ_=>⟨h,Hz_⟩) λe=>?_
 simp only[decide_eq_false_iff_not] at e
 have hb:=Ry_ l
 have hm:=h.2.1 _ (Ib_ (xs:=l.items) (k:=(Ci_ l).toNat) (by omega))
 refine⟨Tl_ h (by omega) rfl,?_⟩
 simp only[B6_,lt,J_]
 rw[Xz_ (by omega)]
 exact hm
theorem W0_ {l:Ae_} {id:Int} (h:LnOk l):LnOk (Eg_ l id).1:=by
 unfold Eg_ lt
 refine bt (P:=λr:Ae_×Int=>LnOk r.1) (λ_=>h) λe=>?_
 refine bt (P:=λr:Ae_×Int=>LnOk r.1) (λ_=>h) λ_=>?_
 simp only[decide_eq_false_iff_not] at e
 have hb:=lof_b l id
 exact Tl_ (l:=⟨_⟩) (Tl_ h (by omega) rfl) (by simp;omega) rfl
theorem Tn_:∀ (t:List M_) (k:Nat) (l:Ae_),LnOk l->k+t.length<=l.items.length->LnOk (Ca_ t k l)
 |[],_,_,h,_=>h
 |x::t,k,l,h,hk=>by
   simp only[List.length_cons] at hk
   unfold Ca_
   refine bt (P:=LnOk) (λ_=>Tn_ t (k+1) _ ?_ (by simp;omega)) (λ_=>Tn_ t (k+1) l h (by omega))
   exact Tl_ (l:=⟨_⟩) (Tl_ h (by omega) rfl) (by simp;omega) rfl
theorem lwake_ok {l:Ae_} (h:LnOk l):LnOk (Eq_ l):=Tn_ l.items 0 l h (by omega)
theorem ltold_ok {l:Ae_} {k:Int} (h:LnOk l) (hk:k<l.items.length):MlOk (C7_ l k).1:=by
 unfold C7_ lt
 refine bt (P:=λr:Mail×Bool=>MlOk r.1) (λ_=>Hz_) λe=>?_
 simp only[decide_eq_false_iff_not] at e
 exact h.2.1 _ (Ib_ (by omega))
theorem llate_ok {l:Ae_} {t:Int} (h:LnOk l):MlOk (Fn_ l t).1:=ltold_ok h (llate_b l t).2
theorem lsize_r0:∀ (t:List M_) (n:Int),n<=B9_ t n/\B9_ t n<=n+3000*t.length
 |[],n=>⟨Int.le_refl _,by simp[B9_]⟩
 |x::t,n=>by
   have h:=Ri_ x.Ab_
   have hi:=lsize_r0 t (n+Ex_ x.Ab_)
   simp only[B9_,lt,List.length_cons]
   omega
theorem lsize_r (l:Ae_):0<=E2_ l/\E2_ l<=3000*l.items.length:=by
 have :=lsize_r0 l.items 0
 simp only[E2_];omega
theorem rsize_r0:∀ (t:List Mail) (n:Int),n<=Df_ t n/\Df_ t n<=n+3000*t.length
 |[],n=>⟨Int.le_refl _,by simp[Df_]⟩
 |x::t,n=>by
   have h:=Ri_ x
   have hi:=rsize_r0 t (n+Ex_ x)
   simp only[Df_,lt,List.length_cons]
   omega
theorem Xf_ (x:Bc_):0<=Dl_ x/\Dl_ x<=3000*x.kept.length:=by
 have :=rsize_r0 x.kept 0
 simp only[Dl_];omega
theorem rput_ok {x:Bc_} {m:Mail} (h:RiOk x):RiOk (Cc_ x m).1:=by
 unfold Cc_ lt
 refine bt (P:=λr:Bc_×Int=>RiOk r.1) (λ_=>h) λe=>?_
 refine bt (P:=λr:Bc_×Int=>RiOk r.1) (λ_=>h) λ_=>?_
 simp only[Bool.not_eq_eq_eq_not,Bool.not_false,decide_eq_true_eq] at e
 have hm:=(Lp_ (Hs_ e).2.2.1).1
 refine⟨by simp;omega,λy hy=>?_⟩
 have hy:=List.mem_of_mem_drop hy
 simp[J_] at hy
 rcases hy with hy|rfl
 . exact h.2 y hy
 . exact hm
theorem at_b (s:F_) (n:Bs):-1<=I_ s n/\I_ s n<s.rows.length:=H8_ _ _
theorem at_n {s:F_} {n:Bs} (h:0<=I_ s n):(gt s.rows (I_ s n).toNat).q.name=n:=by
 have :=Sz_ h
 exact of_decide_eq_true this
def Ao_ (s:F_) (q:Q_):F_×Int:=
 lt (Bj_ q) λr=>
 (bif !decide (r=0) then
 (s,r)
 else lt (I_ s q.name) λr1=>
 (bif ((decide (0<=r1))&&(decide ((gt s.rows ((r1).toNat)).q=q))) then
 (s,0)
 else (bif decide (0<=r1) then
 (s,9)
 else (bif decide (8<=(s.rows.length:Int)) then
 (s,12)
 else ((⟨s.next,s.bytes,[s.rows,[(⟨q,(⟨[]⟩:Ae_)⟩:Gi_)]].flatten,s.rises⟩:F_),0)))))
def A6_ (s:F_) (name:Bs):F_×Int:=
 lt (I_ s name) λr=>
 (bif decide (r<0) then
 (s,10)
 else ((⟨s.next,s.bytes,[(s.rows.take (r).toNat),(s.rows.drop ((r+1)).toNat)].flatten,s.rises⟩:F_),0))
def Ah_ (s:F_) (name:Bs):Q_×Bool:=
 lt (I_ s name) λr=>
 (bif decide (r<0) then
 ((⟨[],0,0,[]⟩:Q_),false)
 else ((gt s.rows ((r).toNat)).q,true))
def Bk_:List Gi_->List Q_->(List Q_)
 |[],out=>out
 |x::t,out=>Bk_ t (out++[x.q])
def X_ (s:F_):(List Q_):=
 Bk_ s.rows []
def Gw_ (s:F_) (name:Bs):Ae_:=
 lt (I_ s name) λr=>
 (bif decide (r<0) then
 (⟨[]⟩:Ae_)
 else ((gt s.rows ((r).toNat)).l))
def Ff_ (s:F_) (place:Int):Bc_:=
 (bif ((decide (place<0))||(decide (16<=place))) then
 (⟨0,[]⟩:Bc_)
 else (A16.get s.rises ((place).toNat)))
def Ac_ (s:F_) (k:Int) (l:Ae_):F_:=
 (⟨s.next,s.bytes,(s.rows.set ((k).toNat) (⟨(gt s.rows ((k).toNat)).q,l⟩:Gi_)),s.rises⟩:F_)
def C9_ (s:F_):Nat->Int->Nat->Int
 |0,_,_=>default
 | f2+1,n1,v=>(bif decide ((v:Int)<16) then
 lt (Dl_ (A16.get s.rises v)) λr1=>
 C9_ s f2 (n1+r1) (v+1)
 else n1)
def Bs_ (s:F_):List Gi_->Int->Int
 |[],n=>C9_ s (16-0+1) n 0
 |x::t,n=>lt (E2_ (x.l)) λr=>
 Bs_ s t (n+r)
def A0_ (s:F_):Int:=
 Bs_ s s.rows 0
theorem ksize1 {s:F_} (h:∀ i,i<16->RiOk (s.rises.get i)):∀ (f:Nat) (n:Int) (v:Nat),16<f+v->v<=16->n<=C9_ s f n v/\C9_ s f n v<=n+48000*(16-v)
 |0,n,v,h1,h2=>by omega
 |f+1,n,v,h1,h2=>by
   unfold C9_ lt
   refine bt (P:=λr:Int=>n<=r/\r<=n+48000*(16-(v:Int))) (λe=>?_) λe=>⟨Int.le_refl _,by omega⟩
   simp only[decide_eq_true_eq] at e
   have hr:=Xf_ (s.rises.get v)
   have hk:=(h v (by omega)).1
   have hi:=ksize1 h f (n+Dl_ (s.rises.get v)) (v+1) (by omega) (by omega)
   dsimp only
   omega
theorem ksize0 {s:F_} (h:∀ i,i<16->RiOk (s.rises.get i)):∀ (t:List Gi_) (n:Int),(∀ r∈t,LnOk r.l)->n<=Bs_ s t n/\Bs_ s t n<=n+192000*t.length+768000
 |[],n,_=>by
   have :=ksize1 h (16-0+1) n 0 (by omega) (by omega)
   simp only[Bs_,List.length_nil];omega
 |x::t,n,hl=>by
   have hr:=lsize_r x.l
   have hk:=(hl x (List.mem_cons_self ..)).1
   have hi:=ksize0 h t (n+E2_ x.l) λr hr=>hl r (List.mem_cons_of_mem _ hr)
   simp only[Bs_,lt,List.length_cons]
   omega
theorem Wx_ (s:F_) (h:StkOk s):0<=A0_ s/\A0_ s<=2304000:=by
 have :=ksize0 h.2.1 s.rows 0 h.1.2.1
 have :=h.1.1
 simp only[A0_];omega
theorem at_neg {s:F_} {n:Bs} (h:I_ s n<0):∀ x∈s.rows,x.q.name≠n:=λx hx e=>by
 have :=Pt_ h
 rw[List.find?_eq_none] at this
 exact this x hx (decide_eq_true e)
theorem M2_ {s:F_} {q:Q_} (h:StkOk s):StkOk (Ao_ s q).1:=by
 unfold Ao_ lt
 refine bt (P:=λr:F_×Int=>StkOk r.1) (λ_=>h) λ_=>?_
 refine bt (P:=λr:F_×Int=>StkOk r.1) (λ_=>h) λ_=>?_
 refine bt (P:=λr:F_×Int=>StkOk r.1) (λ_=>h) λe=>?_
 refine bt (P:=λr:F_×Int=>StkOk r.1) (λ_=>h) λe1=>?_
 simp only[decide_eq_false_iff_not] at e e1
 have hn:=at_neg (s:=s) (n:=q.name) (by omega)
 refine⟨⟨by simp;omega,λr hr=>?_,?_⟩,h.2⟩
 . simp at hr
   rcases hr with hr|rfl
   . exact h.1.2.1 r hr
   . exact M5_
 . simp only[List.flatten_cons,List.flatten_nil,List.append_nil,List.map_append,List.map_cons,List.map_nil]
   rw[List.nodup_append]
   refine⟨h.1.2.2,by simp,λa ha b hb=>?_⟩
   obtain⟨x,hx,rfl⟩:=List.mem_map.1 ha
   rw[List.mem_singleton.1 hb]
   exact hn x hx
theorem Wr_ {s:F_} {n:Bs} (h:StkOk s):StkOk (A6_ s n).1:=by
 unfold A6_ lt
 refine bt (P:=λr:F_×Int=>StkOk r.1) (λ_=>h) λe=>?_
 simp only[decide_eq_false_iff_not] at e
 have :(I_ s n+1).toNat=(I_ s n).toNat+1:=by omega
 refine⟨h.1.sub ?_,h.2⟩
 show List.Sublist [s.rows.take _,s.rows.drop _].flatten _
 rw[this];exact Ql_ _ _
theorem M3_ {s:F_} {k:Int} {l:Ae_} (h:StkOk s) (hl:LnOk l) (hk:0<=k/\k<s.rows.length):StkOk (Ac_ s k l):=
 ⟨h.1.set (getG (by omega)) rfl hl,h.2⟩
theorem kroom_r0 {s:F_} (h:StkOk s):-2304000<=s.bytes-A0_ s/\s.bytes-A0_ s<=1000000:=by
 have :=Wx_ s h
 have :=h.2.2
 omega
end Go.SW.V
namespace Go.SW.V
open Go.SW
theorem Iw_ (s:F_) (k:Int) (l:Ae_):(Ac_ s k l).rows.length=s.rows.length:=by simp[Ac_]
def Dt_ (s:F_):Int:=
 (s.bytes-(A0_ s))
theorem kroom_r (s:F_) (h:StkOk s):-2304000<=Dt_ s/\Dt_ s<=1000000:=kroom_r0 h
def Ay_ (s:F_) (name:Bs) (m:Mail):F_×Int×Mail×Int:=
 lt (I_ s name) λr=>
 (bif decide (r<0) then
 (s,0,(⟨0,[],[],[],[],0,0⟩:Mail),10)
 else (bif !decide ((Gt_ m)=0) then
 (s,0,(⟨0,[],[],[],[],0,0⟩:Mail),Gt_ m)
 else (bif decide (s.next = 0) then
 (s,0,(⟨0,[],[],[],[],0,0⟩:Mail),18)
 else (lp2 ((bif decide (((gt s.rows ((r).toNat)).q.most)<=(IntKind.wrap .u64 (A8_ ((gt s.rows ((r).toNat)).l)))) then
 lt (Cr_ ((gt s.rows ((r).toNat)).l)) λr1=>
 (bif !r1.2 then
 .ret (s,0,(⟨0,[],[],[],[],0,0⟩:Mail),12)
 else lt (An_ ((gt s.rows ((r).toNat)).l) r1.1.id) λr2=>
 .fin (r2.1,r1.1))
 else .fin ((gt s.rows ((r).toNat)).l,(⟨0,[],[],[],[],0,0⟩:Mail)))) (λx x1=>
 (bif decide (((Dt_ s)+(Ex_ x1))<(Ex_ (⟨s.next,m.Bb_,m.key,m.head,m.body,m.due,m.hops⟩:Mail))) then
 (s,0,(⟨0,[],[],[],[],0,0⟩:Mail),12)
 else lt (Ct_ x (⟨s.next,m.Bb_,m.key,m.head,m.body,m.due,m.hops⟩:Mail)) λr3=>
 (bif !decide (r3.2=0) then
 (s,0,(⟨0,[],[],[],[],0,0⟩:Mail),r3.2)
 else lt (Ac_ s r r3.1) λr4=>
 ((⟨(IntKind.wrap .u64 (r4.next + 1)),r4.bytes,r4.rows,r4.rises⟩:F_),s.next,x1,0)))) (λr=>r)))))
def B5_ (s:F_) (name:Bs):F_×M_×Bool:=
 lt (I_ s name) λr=>
 (bif decide (r<0) then
 (s,(⟨(⟨0,[],[],[],[],0,0⟩:Mail),false,false⟩:M_),false)
 else lt (C6_ ((gt s.rows ((r).toNat)).l)) λr1=>
 lt (Ac_ s r r1.1) λr2=>
 (r2,r1.2.1,r1.2.2))
def Co_ (s:F_) (name:Bs) (id:Int):F_×Int:=
 lt (I_ s name) λr=>
 (bif decide (r<0) then
 (s,10)
 else lt (Eg_ ((gt s.rows ((r).toNat)).l) id) λr1=>
 lt (Ac_ s r r1.1) λr2=>
 (r2,r1.2))
def Ai_ (s:F_) (name:Bs) (id:Int):F_×M_×Int:=
 lt (I_ s name) λr=>
 (bif decide (r<0) then
 (s,(⟨(⟨0,[],[],[],[],0,0⟩:Mail),false,false⟩:M_),10)
 else lt (An_ ((gt s.rows ((r).toNat)).l) id) λr1=>
 lt (Ac_ s r r1.1) λr2=>
 (r2,r1.2.1,r1.2.2))
def Bl_ (s:F_) (place:Int) (m:Mail):F_×Int:=
 (bif ((decide (place<0))||(decide (16<=place))) then
 (s,7)
 else lt (Cc_ (A16.get s.rises ((place).toNat)) m) λr=>
 (bif !decide (r.2=0) then
 (s,r.2)
 else (bif decide (s.bytes<(((A0_ s)-(Dl_ (A16.get s.rises ((place).toNat))))+(Dl_ (r.1)))) then
 (s,12)
 else ((⟨s.next,s.bytes,s.rows,(A16.set s.rises (r.1) ((place).toNat))⟩:F_),0))))
def Be_ (tick:Int):List Gi_->Bs×Mail×Bool
 |[]=>([],(⟨0,[],[],[],[],0,0⟩:Mail),false)
 |x::t=>lt (Fn_ (x.l) tick) λr=>
 (bif r.2 then
 (x.q.name,r.1,true)
 else Be_ tick t)
def Az_ (s:F_) (tick:Int):Bs×Mail×Bool:=
 Be_ tick s.rows
def Bt_:List Gi_->Nat->F_->F_
 |[],k,x=>x
 |x1::t,k,x=>lt (Eq_ (x1.l)) λr=>
 lt (Ac_ x (k:Int) r) λr1=>
 Bt_ t (k+1) r1
def Ew_ (s:F_):F_:=
 Bt_ s.rows 0 s
def LoP {σ ρ:Type} (I:σ->Prop) (R:ρ->Prop):Lo σ ρ->Prop
 | .fin s=>I s
 | .ret r=>R r
theorem lp0E {ρ β:Type} {P:β->Prop} {o:Lo Unit ρ} {f:β} {g:ρ->β} (I:Unit->Prop) (ho:LoP I (λr=>P (g r)) o) (hf:I ()->P f):P (lp0 o f g):=by
 cases o with
 |fin s=>exact hf ho
 |ret r=>exact ho
theorem lp1E {σ ρ β:Type} {P:β->Prop} {o:Lo σ ρ} {f:σ->β} {g:ρ->β} (I:σ->Prop) (ho:LoP I (λr=>P (g r)) o) (hf:∀ a,I a->P (f a)):P (lp1 o f g):=by
 cases o with
 |fin s=>exact hf _ ho
 |ret r=>exact ho
theorem lp2E {σ τ ρ β:Type} {P:β->Prop} {o:Lo (σ×τ) ρ} {f:σ->τ->β} {g:ρ->β} (I:σ×τ->Prop) (ho:LoP I (λr=>P (g r)) o) (hf:∀ a b,I (a,b)->P (f a b)):P (lp2 o f g):=by
 cases o with
 |fin s=>exact hf _ _ ho
 |ret r=>exact ho
def wtm (m:Mail):Nat:=33 ^ (5-m.hops.toNat)
def wtl (l:List M_):Nat:=(l.map λx=>wtm x.Ab_).sum
def wtk (s:F_):Nat:=(s.rows.map λr=>wtl r.l.items).sum
def wto (l:List Hp_):Nat:=(l.map λx=>wtm x.Ab_).sum
def wt1 (m:Mail):Nat:=bif decide (m.Bb_=[]) then 0 else wtm m
theorem sum_cut {α:Type} [Inhabited α] (f:α->Nat) (l:List α) (k:Nat) (h:k<l.length):(([l.take k,l.drop (k+1)].flatten).map f).sum+f (gt l k)=(l.map f).sum:=by
 have e:l=l.take k++(gt l k::l.drop (k+1)):=by
   conv=>lhs;rw[<- List.take_append_drop k l]
   congr 1
   rw[List.drop_eq_getElem_cons h]
   congr 1
   simp[gt,h]
 have e2:(l.map f).sum=((l.take k++(gt l k::l.drop (k+1))).map f).sum:=by rw[<- e]
 rw[e2]
 simp only[List.flatten_cons,List.flatten_nil,List.append_nil,List.map_append,List.map_cons,List.sum_append,List.sum_cons]
 omega
theorem sum_set {α:Type} [Inhabited α] (f:α->Nat):∀ (l:List α) (k:Nat) (y:α),k<l.length->((l.set k y).map f).sum+f (gt l k)=(l.map f).sum+f y
 |[],k,y,h=>by cases h
 |a::r,0,y,h=>by simp[gt];omega
 |a::r,k+1,y,h=>by
   have :=sum_set f r k y (by simpa using h)
   simp only[List.set_cons_succ,List.map_cons,List.sum_cons]
   have e:gt (a::r) (k+1)=gt r k:=by simp[gt]
   rw[e];omega
theorem W6_ {l:Ae_} (h:LnOk l) {k:Nat} (hk:k<l.items.length):Bd_ l (gt l.items k).Ab_.id=k:=by
 have h0:0<=Bd_ l (gt l.items k).Ab_.id:=by
   refine Int.not_lt.1 λq=>?_
   have :=Pt_ q
   rw[List.find?_eq_none] at this
   exact this _ (Ib_ hk) (decide_eq_true rfl)
 have hb:=lof_b l (gt l.items k).Ab_.id
 have ha:=lof_at h0
 obtain⟨j,hj⟩:∃ j:Nat,Bd_ l (gt l.items k).Ab_.id=j:=⟨_,(Int.toNat_of_nonneg h0).symm⟩
 rw[hj] at ha hb ⊢
 simp only[Int.toNat_natCast] at ha
 have hjl:j<l.items.length:=by omega
 rcases Nat.lt_trichotomy j k with q|q|q
 . have :=T5_ h.2.2 (getG hjl) (getG hk) q;omega
 . rw[q]
 . have :=T5_ h.2.2 (getG hk) (getG hjl) q;omega
theorem Yy_ {l:Ae_} (h:(Cr_ l).2=true):∃ k:Nat,k<l.items.length/\(Cr_ l).1=(gt l.items k).Ab_:=by
 have hb:=Ry_ l
 unfold Cr_ lt C7_ lt at h ⊢
 dsimp only at h ⊢
 cases e:decide (Ci_ l<0) with
 |true=>rw[e] at h;cases h
 |false=>
   simp only[decide_eq_false_iff_not] at e
   exact⟨(Ci_ l).toNat,by omega,rfl⟩
theorem lremove_w {l:Ae_} (h:LnOk l) {k:Nat} (hk:k<l.items.length):wtl (An_ l (gt l.items k).Ab_.id).1.items+wtm (gt l.items k).Ab_=wtl l.items:=by
 unfold An_ lt
 dsimp only
 rw[W6_ h hk]
 have e:decide ((k:Int)<0)=false:=by simp
 rw[e]
 have :=sum_cut (λx:M_=>wtm x.Ab_) l.items k hk
 exact this
theorem ladd_w {l:Ae_} {m:Mail} (h:(Ct_ l m).2=0):wtl (Ct_ l m).1.items=wtl l.items+wtm m:=by
 unfold Ct_ Ej_ lt at h ⊢
 dsimp only at h ⊢
 cases e:decide (E6_ l m=0) with
 |false=>rw[e] at h;simp at h;simp[h] at e
 |true=>
   simp[wtl,B6_,lt,J_]
theorem kwith_w {s:F_} {k:Int} {l:Ae_} (hk:0<=k/\k<s.rows.length):wtk (Ac_ s k l)+wtl (gt s.rows k.toNat).l.items=wtk s+wtl l.items:=
 sum_set (λr:Gi_=>wtl r.l.items) s.rows k.toNat ⟨(gt s.rows k.toNat).q,l⟩ (by omega)
theorem Wv_ {s:F_} {n:Bs} {m:Mail} (h:StkOk s) (h0:0<=m.hops):StkOk (Ay_ s n m).1/\MlOk (Ay_ s n m).2.2.1/\((Ay_ s n m).2.2.2=0->Gt_ m=0/\wtk (Ay_ s n m).1+wt1 (Ay_ s n m).2.2.1<=wtk s+wtm m):=by
 unfold Ay_ lt
 let Q:F_×Int×Mail×Int->Prop:=λr=>StkOk r.1/\MlOk r.2.2.1/\(r.2.2.2=0->Gt_ m=0/\wtk r.1+wt1 r.2.2.1<=wtk s+wtm m)
 have hno:∀ e:Int,e≠0->Q (s,0,⟨0,[],[],[],[],0,0⟩,e):=λe he=>⟨h,Hz_,λq=>(he q).elim⟩
 refine bt (P:=Q) (λ_=>hno _ (by decide)) λe=>?_
 refine bt (P:=Q) (λe=>hno _ (by simpa using e)) λec=>?_
 refine bt (P:=Q) (λ_=>hno _ (by decide)) λ_=>?_
 simp only[decide_eq_false_iff_not] at e
 have ec':Gt_ m=0:=by simpa using ec
 have hb:=at_b s n
 obtain⟨k,hk⟩:∃ k:Nat,I_ s n=k:=⟨_,(Int.toNat_of_nonneg (by omega)).symm⟩
 rw[hk] at hb ⊢
 simp only[Int.toNat_natCast]
 have hl:LnOk (gt s.rows k).l:=RwsOk.at h.1 (getG (by omega))
 refine lp2E (P:=Q) (λq=>LnOk q.1/\MlOk q.2/\wtl q.1.items+wt1 q.2<=wtl (gt s.rows k).l.items) ?_ λx x1 hx=>?_
 . refine bt (P:=LoP _ _) (λ_=>?_) λ_=>⟨hl,Hz_,by simp[wt1]⟩
   refine bt (P:=LoP _ _) (λ_=>hno _ (by decide)) λe2=>?_
   obtain⟨j,hj,he⟩:=Yy_ (l:=(gt s.rows k).l) (by simpa using e2)
   have hw:=lremove_w hl hj
   show LnOk _/\MlOk _/\_
   rw[he]
   refine⟨(Oi_ hl).1,hl.2.1 _ (Ib_ hj),?_⟩
   have :wt1 (gt (gt s.rows k).l.items j).Ab_<=wtm (gt (gt s.rows k).l.items j).Ab_:=by
     unfold wt1
     cases decide ((gt (gt s.rows k).l.items j).Ab_.Bb_=[])<;>simp
   simp only
   omega
 . obtain⟨hx1,hx2,hx3⟩:=hx
   refine bt (P:=Q) (λ_=>hno _ (by decide)) λ_=>?_
   refine bt (P:=Q) (λe3=>hno _ (by simpa using e3)) λe3=>?_
   have e3':(Ct_ x ⟨s.next,m.Bb_,m.key,m.head,m.body,m.due,m.hops⟩).2=0:=by simpa using e3
   have ha:=ladd_w e3'
   have hok:=Wz_ (l:=x) (m:=⟨s.next,m.Bb_,m.key,m.head,m.body,m.due,m.hops⟩) hx1 h0
   have hw:=kwith_w (s:=s) (k:=(k:Int)) (l:=(Ct_ x ⟨s.next,m.Bb_,m.key,m.head,m.body,m.due,m.hops⟩).1) (by omega)
   have hs:=M3_ (k:=(k:Int)) h hok (by omega)
   refine⟨hs,hx2,λ_=>⟨ec',?_⟩⟩
   simp only[Int.toNat_natCast] at hw
   show wtk (Ac_ s k _)+wt1 x1<=_
   have he:wtm ⟨s.next,m.Bb_,m.key,m.head,m.body,m.due,m.hops⟩=wtm m:=rfl
   rw[he] at ha
   have hx4:wtl x.items+wt1 x1<=wtl (gt s.rows k).l.items:=hx3
   rw[ha] at hw
   omega
theorem klend_ok {s:F_} {n:Bs} (h:StkOk s):StkOk (B5_ s n).1/\MlOk (B5_ s n).2.1.Ab_:=by
 unfold B5_ lt
 refine bt (P:=λr:F_×M_×Bool=>StkOk r.1/\MlOk r.2.1.Ab_) (λ_=>⟨h,Hz_⟩) λe=>?_
 simp only[decide_eq_false_iff_not] at e
 have hb:=at_b s n
 have hl:=Rw_ (RwsOk.at h.1 (getG (xs:=s.rows) (k:=(I_ s n).toNat) (by omega)))
 exact⟨M3_ h hl.1 (by omega),hl.2⟩
theorem kback_ok {s:F_} {n:Bs} {id:Int} (h:StkOk s):StkOk (Co_ s n id).1:=by
 unfold Co_ lt
 refine bt (P:=λr:F_×Int=>StkOk r.1) (λ_=>h) λe=>?_
 simp only[decide_eq_false_iff_not] at e
 have hb:=at_b s n
 exact M3_ h (W0_ (RwsOk.at h.1 (getG (xs:=s.rows) (k:=(I_ s n).toNat) (by omega)))) (by omega)
theorem K4_ {s:F_} {n:Bs} {id:Int} (h:StkOk s):StkOk (Ai_ s n id).1/\MlOk (Ai_ s n id).2.1.Ab_:=by
 unfold Ai_ lt
 refine bt (P:=λr:F_×M_×Int=>StkOk r.1/\MlOk r.2.1.Ab_) (λ_=>⟨h,Hz_⟩) λe=>?_
 simp only[decide_eq_false_iff_not] at e
 have hb:=at_b s n
 have hl:=Oi_ (id:=id) (RwsOk.at h.1 (getG (xs:=s.rows) (k:=(I_ s n).toNat) (by omega)))
 exact⟨M3_ h hl.1 (by omega),hl.2⟩
theorem Ya_ {s:F_} {p:Int} {m:Mail} (h:StkOk s):StkOk (Bl_ s p m).1/\(Bl_ s p m).1.rows=s.rows:=by
 unfold Bl_ lt
 let Q:F_×Int->Prop:=λr=>StkOk r.1/\r.1.rows=s.rows
 refine bt (P:=Q) (λ_=>⟨h,rfl⟩) λe=>?_
 refine bt (P:=Q) (λ_=>⟨h,rfl⟩) λ_=>?_
 refine bt (P:=Q) (λ_=>⟨h,rfl⟩) λ_=>?_
 simp only[Bool.or_eq_false_iff,decide_eq_false_iff_not] at e
 exact⟨h.set p.toNat (by omega) (rput_ok (h.2.1 _ (by omega))),rfl⟩
theorem Yd_:∀ (t:List Gi_) (k:Nat) (s:F_),StkOk s->(∀ r∈t,LnOk r.l)->k+t.length<=s.rows.length->StkOk (Bt_ t k s)
 |[],_,_,h,_,_=>h
 |x::t,k,s,h,hl,hk=>by
   simp only[List.length_cons] at hk
   unfold Bt_ lt
   refine Yd_ t (k+1) _ (M3_ h (lwake_ok (hl x (List.mem_cons_self ..))) (by omega)) (λr hr=>hl r (List.mem_cons_of_mem _ hr)) ?_
   simp[Ac_];omega
theorem kwake_ok {s:F_} (h:StkOk s):StkOk (Ew_ s):=Yd_ s.rows 0 s h h.1.2.1 (by omega)
theorem X8_ {t:Int}:∀ (l:List Gi_),(∀ r∈l,LnOk r.l)->MlOk (Be_ t l).2.1
 |[],_=>Hz_
 |x::l,h=>by
   unfold Be_ lt
   refine bt (P:=λr:Bs×Mail×Bool=>MlOk r.2.1) (λ_=>llate_ok (h x (List.mem_cons_self ..))) (λ_=>X8_ l λr hr=>h r (List.mem_cons_of_mem _ hr))
theorem Wu_ {s:F_} {t:Int} (h:StkOk s):MlOk (Az_ s t).2.1:=X8_ s.rows h.1.2.1
def Cd_ (so_p:P_->Bool):List P_->List P_->(List P_)
 |[],out=>out
 | x::t,out=>(bif so_p x then
 Cd_ so_p t (out++[x])
 else Cd_ so_p t out)
def Gp_ (b:Ap_) (so_p:P_->Bool):(List P_):=
 Cd_ so_p b.binds []
def Je_ (x:P_) (x1:Bs):Bool:=
 (x.up||(!decide (x.to'=x1)))
def Dg_ (b:Ap_) (queue:Bs):Ap_:=
 lt (Gp_ b (λz_5:P_=>(Je_ z_5 queue))) λr=>
 (⟨b.Ba_,r⟩:Ap_)
def Cu_ (x:W_) (x1:Bs):Bool:=
 (decide (x.name=x1))
def L9_ (x:P_) (x1:Bs):Bool:=
 (!decide (x.Bb_=x1))
def Ds_ (b:Ap_) (name:Bs):Ap_×Int:=
 (bif decide ((idxP (λz_5:W_=>(Cu_ z_5 name)) b.Ba_)<0) then
 (b,10)
 else lt (Gp_ (⟨[(b.Ba_.take (idxP (λz_5:W_=>(Cu_ z_5 name)) b.Ba_).toNat),(b.Ba_.drop (((idxP (λz_5:W_=>(Cu_ z_5 name)) b.Ba_)+1)).toNat)].flatten,b.binds⟩:Ap_) (λz_18:P_=>(L9_ z_18 name))) λr=>
 ((⟨[(b.Ba_.take (idxP (λz_5:W_=>(Cu_ z_5 name)) b.Ba_).toNat),(b.Ba_.drop (((idxP (λz_5:W_=>(Cu_ z_5 name)) b.Ba_)+1)).toNat)].flatten,r⟩:Ap_),0))
def C1_ (b:Ap_) (x:P_):Ap_×Int:=
 lt (Bn_ b x) λr=>
 (bif decide (r<0) then
 (b,10)
 else ((⟨b.Ba_,[(b.binds.take (r).toNat),(b.binds.drop ((r+1)).toNat)].flatten⟩:Ap_),0))
def Fb_ (p:C_) (place:Int) (x:U_):E_:=
 (⟨x,p,place⟩:E_)
def Al_ (p:C_) (place:Int):E_:=
 lt (B4_ ((gt p.places ((place).toNat)).base) ((gt p.places ((place).toNat)).bytes)) λr=>
 lt (Fb_ p place (⟨(⟨[],[]⟩:Ap_),r,(⟨0,[]⟩:B7_),(⟨0,0,0,0,0,0,0,0,0,0,0,0,0,0,0,0⟩:A16_u64),(⟨(⟨0,0⟩:Av_),(⟨0,0⟩:Av_),(⟨0,0⟩:Av_),(⟨0,0⟩:Av_),(⟨0,0⟩:Av_),(⟨0,0⟩:Av_),(⟨0,0⟩:Av_),(⟨0,0⟩:Av_)⟩:A8_SpentR)⟩:U_)) λr1=>
 r1
def Js_ (own:Int) (tick:Int) (life:Int):Int:=
 (bif ((decide (life=0))||(decide ((IntKind.wrap .u64 (18446744073709551615-tick))<life))) then
 own
 else (bif decide (own=0) then
 (IntKind.wrap .u64 (tick+life))
 else (min own (IntKind.wrap .u64 (tick+life)))))
def Af_ (s:E_):U_:=
 s.x
def C2_ (s:E_) (tick:Int) (kind:Int) (text:Bs):E_:=
 lt (C4_ s.x.notes (⟨tick,kind,text⟩:D5_)) λr=>
 (⟨(⟨s.x.book,s.x.D_,r.1,s.x.seen,s.x.spent⟩:U_),s.K_,s.place⟩:E_)
theorem Wt_ (p:P_->Bool):∀ (t out:List P_),Cd_ p t out=out++t.filter p
 |[],out=>by simp[Cd_]
 |x::t,out=>by
   unfold Cd_
   cases e:p x with
   |true=>simp[Wt_ p t,e]
   |false=>simp[Wt_ p t,e]
theorem Ws_ (b:Ap_) (p:P_->Bool):Gp_ b p=b.binds.filter p:=by simp[Gp_,Wt_]
theorem Xp_ {b:Ap_} (h:BkOk b) (p:P_->Bool) (l:List W_) (hl:l.length<=8):BkOk ⟨l,b.binds.filter p⟩:=
 ⟨hl,Nat.le_trans (List.length_filter_le ..) h.2.1,λy hy=>h.2.2 y (List.mem_filter.1 hy).1⟩
theorem bforget_ok {b:Ap_} {q:Bs} (h:BkOk b):BkOk (Dg_ b q):=by
 unfold Dg_ lt
 rw[Ws_]
 exact Xp_ h _ _ h.1
theorem bdrop_ok {b:Ap_} {n:Bs} (h:BkOk b):BkOk (Ds_ b n).1:=by
 unfold Ds_ lt
 refine bt (P:=λr:Ap_×Int=>BkOk r.1) (λ_=>h) λe=>?_
 simp only[decide_eq_false_iff_not] at e
 dsimp only
 rw[Ws_]
 refine Xp_ h _ _ ?_
 have hs:=h.1
 have hc:=(Ql_ b.Ba_ (idxP (λz_5:W_=>Cu_ z_5 n) b.Ba_).toNat).length_le
 have :(idxP (λz_5:W_=>Cu_ z_5 n) b.Ba_+1).toNat=(idxP (λz_5:W_=>Cu_ z_5 n) b.Ba_).toNat+1:=by omega
 rw[this];omega
theorem bunbind_ok {b:Ap_} {x:P_} (h:BkOk b):BkOk (C1_ b x).1:=by
 unfold C1_ lt
 refine bt (P:=λr:Ap_×Int=>BkOk r.1) (λ_=>h) λe=>?_
 simp only[decide_eq_false_iff_not] at e
 have hc:=Ql_ b.binds (Bn_ b x).toNat
 have :(Bn_ b x+1).toNat=(Bn_ b x).toNat+1:=by omega
 dsimp only
 rw[this]
 exact⟨h.1,Nat.le_trans hc.length_le h.2.1,λy hy=>h.2.2 y (hc.subset hy)⟩
theorem bmake_ok {b:Ap_} {x:W_} (h:BkOk b):BkOk (Bz_ b x).1:=by
 unfold Bz_
 refine bt (P:=λr:Ap_×Int=>BkOk r.1) (λ_=>h) λ_=>?_
 refine bt (P:=λr:Ap_×Int=>BkOk r.1) (λ_=>h) λ_=>?_
 refine bt (P:=λr:Ap_×Int=>BkOk r.1) (λ_=>h) λ_=>?_
 refine bt (P:=λr:Ap_×Int=>BkOk r.1) (λ_=>h) λe=>?_
 simp only[decide_eq_false_iff_not] at e
 exact⟨by simp;omega,h.2⟩
theorem bbind_ok {b:Ap_} {x:P_} (h:BkOk b) (hx:x.key.length<=1000):BkOk (A4_ b x).1:=by
 unfold A4_ lt
 refine bt (P:=λr:Ap_×Int=>BkOk r.1) (λ_=>h) λ_=>?_
 refine bt (P:=λr:Ap_×Int=>BkOk r.1) (λ_=>h) λ_=>?_
 refine bt (P:=λr:Ap_×Int=>BkOk r.1) (λ_=>h) λ_=>?_
 refine bt (P:=λr:Ap_×Int=>BkOk r.1) (λ_=>h) λ_=>?_
 refine bt (P:=λr:Ap_×Int=>BkOk r.1) (λ_=>h) λ_=>?_
 refine bt (P:=λr:Ap_×Int=>BkOk r.1) (λ_=>h) λe=>?_
 simp only[decide_eq_false_iff_not] at e
 refine⟨h.1,by simp;omega,λy hy=>?_⟩
 simp at hy
 rcases hy with hy|rfl
 . exact h.2.2 y hy
 . exact hx
theorem Kn_ {s:E_} {t k:Int} {x:Bs} (h:StOk s):StOk (C2_ s t k x)/\(C2_ s t k x).x.D_=s.x.D_:=
 ⟨⟨⟨h.1.1,h.1.2.1,W8_ h.1.2.2.1,h.1.2.2.2⟩,h.2⟩,rfl⟩
theorem Mq_ {p:C_} {k:Int} (h:PoOk p) (hk:0<=k/\k<p.places.length):StOk (Al_ p k):=by
 have hb:=h.2.2.2.2.2.2 _ (Ib_ (xs:=p.places) (k:=k.toNat) (by omega))
 refine⟨⟨⟨by simp[Al_,lt,Fb_],by simp[Al_,lt,Fb_],by simp[Al_,lt,Fb_]⟩,⟨⟨by simp[Al_,lt,Fb_,B4_],by simp[Al_,lt,Fb_,B4_],by simp[Al_,lt,Fb_,B4_]⟩,λi hi=>?_,?_,?_⟩,by simp[Al_,lt,Fb_],λi hi=>?_⟩,h,hk⟩
 . have :(Al_ p k).x.D_.rises.get i=⟨0,[]⟩:=by
     unfold Al_ lt Fb_ B4_
     unfold A16.get
     repeat' split
     all_goals rfl
   rw[this];exact⟨by simp,by simp⟩
 . show 0<=max 0 _
   omega
 . show max 0 (gt p.places k.toNat).bytes<=_
   omega
 . have :(Al_ p k).x.spent.get i=⟨0,0⟩:=by
     unfold Al_ lt Fb_ B4_
     unfold A8.get
     repeat' split
     all_goals rfl
   rw[this];simp
theorem rput_len (l:List Bs) (s:Bs):(H1_ l s).length<=l.length+1:=by
 unfold H1_
 cases decide (s∈l)<;>simp
theorem Og_ (b:Ap_) (n k:Bs) (h:List Pair):∀ (t:List P_) (q p:List Bs),(Br_ b n k h t q p).1.length<=q.length+t.length/\(Br_ b n k h t q p).2.1.length<=p.length+t.length
 |[],q,p=>⟨by simp[Br_],by simp[Br_]⟩
 |x::t,q,p=>by
   unfold Br_ lt lt1
   let Q:List Bs×List Bs×Int->Prop:=λr=>r.1.length<=q.length+(x::t).length/\r.2.1.length<=p.length+(x::t).length
   have h0:=Og_ b n k h t q p
   have h1:=Og_ b n k h t q (H1_ p x.to')
   have h2:=Og_ b n k h t (H1_ q x.to') p
   have h3:=rput_len p x.to'
   have h4:=rput_len q x.to'
   refine bt (P:=Q) (λ_=>?_) λ_=>bt (P:=Q) (λ_=>?_) λ_=>?_
   all_goals (show _/\_;simp only[List.length_cons];omega)
theorem Te_ {b:Ap_} (n k:Bs) (h:List Pair) (hb:BkOk b):(Cn_ b n k h).1.length<=32/\(Cn_ b n k h).2.1.length<=33:=by
 unfold Cn_
 let Q:List Bs×List Bs×Int->Prop:=λr=>r.1.length<=32/\r.2.1.length<=33
 refine bt (P:=Q) (λ_=>⟨by simp,by simp⟩) λ_=>bt (P:=Q) (λ_=>⟨by simp,by simp⟩) λ_=>?_
 have h0:=Og_ b n k h b.binds [] []
 have :=hb.2.1
 simp only[List.length_nil] at h0
 exact⟨by omega,by omega⟩
def D1_ (s:E_) (to_:Int) (tick:Int):E_×Int:=
 lt (Ak_ s.K_ s.place to_) λr=>
 (bif decide (r<0) then
 (s,19)
 else (lt1 (lt (Lm_ s.K_ tick) λr1=>
 (bif !decide (((A8.get s.x.spent ((r).toNat)).round)=r1) then
 (⟨r1,0⟩:Av_)
 else (A8.get s.x.spent ((r).toNat)))) (λx=>
 (bif decide (((gt s.K_.grants ((r).toNat)).budget)<=x.count) then
 (s,19)
 else lt (C2_ (⟨(⟨s.x.book,s.x.D_,s.x.notes,s.x.seen,(A8.set s.x.spent (⟨x.round,(x.count+1)⟩:Av_) ((r).toNat))⟩:U_),s.K_,s.place⟩:E_) tick 2 ((gt s.K_.places ((to_).toNat)).name)) λr2=>
 (r2,0)))))
def A2_ (s:E_) (d:L_):E_×Int:=
 (bif decide (d.kind=2) then
 lt (Ao_ s.x.D_ d.queue) λr=>
 ((⟨(⟨s.x.book,r.1,s.x.notes,s.x.seen,s.x.spent⟩:U_),s.K_,s.place⟩:E_),r.2)
 else lt (A6_ s.x.D_ d.name) λr1=>
 (bif decide (r1.2=0) then
 lt (Dg_ s.x.book d.name) λr2=>
 ((⟨(⟨r2,r1.1,s.x.notes,s.x.seen,s.x.spent⟩:U_),s.K_,s.place⟩:E_),r1.2)
 else ((⟨(⟨s.x.book,r1.1,s.x.notes,s.x.seen,s.x.spent⟩:U_),s.K_,s.place⟩:E_),r1.2)))
def Du_ (s:E_) (d:L_):E_×Bh_×Int:=
 lt (Ah_ s.x.D_ d.name) λr=>
 (bif !r.2 then
 (s,(⟨(⟨(⟨0,[],[],[],[],0,0⟩:Mail),false,false⟩:M_),0,0⟩:Bh_),10)
 else lt (B5_ s.x.D_ d.name) λr1=>
 (bif !r1.2.2 then
 (s,(⟨(⟨(⟨0,[],[],[],[],0,0⟩:Mail),false,false⟩:M_),0,0⟩:Bh_),15)
 else ((⟨(⟨s.x.book,r1.1,s.x.notes,s.x.seen,s.x.spent⟩:U_),s.K_,s.place⟩:E_),(⟨r1.2.1,0,0⟩:Bh_),0)))
def Ax_ (s:E_) (d:L_):E_×Int:=
 (bif decide (d.kind=0) then
 (lp0 (lt (T_ s.K_ d.Bb_.to') λr=>
 (bif decide (d.Bb_.sort=4) then
 (bif decide (r<0) then
 .ret (s,10)
 else lt (Ak_ s.K_ s.place r) λr1=>
 (bif decide (r1<0) then
 .ret (s,11)
 else .fin ()))
 else .fin ())) (
 lt (Bz_ s.x.book d.Bb_) λr2=>
 ((⟨(⟨r2.1,s.x.D_,s.x.notes,s.x.seen,s.x.spent⟩:U_),s.K_,s.place⟩:E_),r2.2)) (λr=>r))
 else (bif decide (d.kind=1) then
 lt (Ds_ s.x.book d.name) λr3=>
 ((⟨(⟨r3.1,s.x.D_,s.x.notes,s.x.seen,s.x.spent⟩:U_),s.K_,s.place⟩:E_),r3.2)
 else (bif decide (d.kind=5) then
 lt (C1_ s.x.book d.bind) λr4=>
 ((⟨(⟨r4.1,s.x.D_,s.x.notes,s.x.seen,s.x.spent⟩:U_),s.K_,s.place⟩:E_),r4.2)
 else lt (Ah_ s.x.D_ d.bind.to') λr5=>
 (lp0 (lt (T_ s.K_ d.bind.to') λr6=>
 (lt1 ((bif (d.bind.up&&(decide (r6<0))) then
 (d.bind.up&&(decide (r6<0)))
 else ((!d.bind.up)&&(!r5.2)))) (λv=>
 (bif v then
 .ret (s,10)
 else (bif (d.bind.up&&(!(Ed_ s.K_ s.place r6))) then
 .ret (s,11)
 else .fin ()))))) (
 lt (A4_ s.x.book d.bind) λr7=>
 ((⟨(⟨r7.1,s.x.D_,s.x.notes,s.x.seen,s.x.spent⟩:U_),s.K_,s.place⟩:E_),r7.2)) (λr=>r)))))
theorem lt1E {σ β:Type} {P:β->Prop} {o:σ} {f:σ->β} (I:σ->Prop) (ho:I o) (hf:∀ a,I a->P (f a)):P (lt1 o f):=hf _ ho
theorem spend_ok {s:E_} {to' t:Int} (h:StOk s):StOk (D1_ s to' t).1/\(D1_ s to' t).1.x.D_=s.x.D_:=by
 unfold D1_ lt
 let Q:E_×Int->Prop:=λr=>StOk r.1/\r.1.x.D_=s.x.D_
 have hn:∀ e,Q (s,e):=λe=>⟨h,rfl⟩
 refine bt (P:=Q) (λ_=>hn _) λe=>?_
 simp only[decide_eq_false_iff_not] at e
 have hg:=Wk_ h.2.1 s.place to' (by omega)
 have hb:=Wj_ s.K_ s.place to'
 have hl:=h.2.1.2.2.2.2.1
 have hu:=h.1.2.2.2
 refine lt1E (P:=Q) (λx:Av_=>0<=x.count) ?_ λx hx=>?_
 . refine bt (P:=λx:Av_=>0<=x.count) (λ_=>?_) λ_=>?_
   . exact Int.le_refl _
   . exact (hu _ (by omega)).1
 . refine bt (P:=Q) (λ_=>hn _) λe2=>?_
   simp only[decide_eq_false_iff_not] at e2
   refine Kn_ (s:=⟨⟨s.x.book,s.x.D_,s.x.notes,s.x.seen,_⟩,s.K_,s.place⟩) ⟨⟨h.1.1,h.1.2.1,h.1.2.2.1,λi hi=>?_⟩,h.2⟩
   show 0<=((s.x.spent.set _ _).get i).count/\_
   dsimp only
   rw[A8.get_set _ _ _ _ (by omega) hi]
   split
   . exact⟨by show 0<=x.count+1;omega,by show x.count+1<=16;omega⟩
   . exact hu i hi
theorem Ms_ {s:E_} {b:Ap_} (h:StOk s) (hb:BkOk b):StOk ⟨⟨b,s.x.D_,s.x.notes,s.x.seen,s.x.spent⟩,s.K_,s.place⟩:=⟨⟨hb,h.1.2⟩,h.2⟩
theorem Cz_ {s:E_} {k:F_} (h:StOk s) (hk:StkOk k):StOk ⟨⟨s.x.book,k,s.x.notes,s.x.seen,s.x.spent⟩,s.K_,s.place⟩:=⟨⟨h.1.1,hk,h.1.2.2⟩,h.2⟩
theorem queues_ok {s:E_} {d:L_} (h:StOk s):StOk (A2_ s d).1:=by
 unfold A2_ lt
 let Q:E_×Int->Prop:=λr=>StOk r.1
 refine bt (P:=Q) (λ_=>Cz_ h (M2_ h.1.2.1)) λ_=>?_
 refine bt (P:=Q) (λ_=>?_) λ_=>Cz_ h (Wr_ h.1.2.1)
 exact Ms_ (s:=⟨⟨s.x.book,_,s.x.notes,s.x.seen,s.x.spent⟩,s.K_,s.place⟩) (Cz_ h (Wr_ h.1.2.1)) (bforget_ok h.1.1)
theorem lend_ok {s:E_} {d:L_} (h:StOk s):StOk (Du_ s d).1/\MlOk (Du_ s d).2.1.item.Ab_:=by
 unfold Du_ lt
 let Q:E_×Bh_×Int->Prop:=λr=>StOk r.1/\MlOk r.2.1.item.Ab_
 refine bt (P:=Q) (λ_=>⟨h,Hz_⟩) λ_=>?_
 refine bt (P:=Q) (λ_=>⟨h,Hz_⟩) λ_=>?_
 have :=klend_ok (n:=d.name) h.1.2.1
 exact⟨Cz_ h this.1,this.2⟩
theorem shops_ok {s:E_} {d:L_} (h:StOk s) (hd:DdOk d):StOk (Ax_ s d).1:=by
 unfold Ax_ lt
 let Q:E_×Int->Prop:=λr=>StOk r.1
 have hn:∀ e,Q (s,e):=λe=>h
 refine bt (P:=Q) (λ_=>?_) λ_=>?_
 . refine lp0E (P:=Q) (λ_=>True) ?_ λ_=>Ms_ h (bmake_ok h.1.1)
   refine bt (P:=LoP _ _) (λ_=>?_) λ_=>trivial
   refine bt (P:=LoP _ _) (λ_=>hn _) λ_=>?_
   exact bt (P:=LoP _ _) (λ_=>hn _) λ_=>trivial
 . refine bt (P:=Q) (λ_=>Ms_ h (bdrop_ok h.1.1)) λ_=>?_
   refine bt (P:=Q) (λ_=>Ms_ h (bunbind_ok h.1.1)) λ_=>?_
   refine lp0E (P:=Q) (λ_=>True) ?_ λ_=>Ms_ h (bbind_ok h.1.1 hd.1)
   refine lt1E (P:=LoP _ _) (λ_=>True) trivial λv _=>?_
   refine bt (P:=LoP _ _) (λ_=>hn _) λ_=>?_
   exact bt (P:=LoP _ _) (λ_=>hn _) λ_=>trivial
end Go.SW.V
namespace Go.SW.V
open Go.SW
theorem Nf_ (n:Int):0<=IntKind.wrap .u8 n:=by
 simp only[IntKind.wrap,IntKind.bits,IntKind.signed];simp;omega
def B2_ (s:E_) (m:Mail) (tick:Int) (r:(List Bs)×(List Bs)×Int) (gone:List Hp_):List Bs->Int->E_->E_×(List Hp_)×Int×Int
 |[],n1,x1=>(x1,gone,n1,0)
 |x3::t,n1,x1=>lt (T_ x1.K_ x3) λr4=>
 (lp1 ((bif decide ((((Eo_ s.x.book.Ba_ m.Bb_).getD W_.zero).sort)=4) then
 lt (D1_ x1 r4 tick) λr5=>
 (bif !decide (r5.2=0) then
 .ret (s,[],0,r5.2)
 else .fin r5.1)
 else .fin x1)) (λx2=>
 lt (Bl_ x2.x.D_ r4 (⟨0,m.Bb_,m.key,m.head,m.body,m.due,m.hops⟩:Mail)) λr6=>
 (bif !decide (r6.2=0) then
 (s,[],0,r6.2)
 else B2_ s m tick r gone t (n1+1) (⟨(⟨x2.x.book,r6.1,x2.x.notes,x2.x.seen,x2.x.spent⟩:U_),x2.K_,x2.place⟩:E_))) (λr=>r))
def Au_ (s:E_) (m:Mail) (tick:Int) (r:(List Bs)×(List Bs)×Int):List Bs->List Hp_->Int->E_->E_×(List Hp_)×Int×Int
 |[],gone,n,x=>B2_ s m tick r gone r.2.1 n x
 |x4::t1,gone,n,x=>lt (Ah_ x.x.D_ x4) λr1=>
 (bif !r1.2 then
 Au_ s m tick r t1 gone n x
 else lt (Js_ m.due tick r1.1.life) λr2=>
 lt (Ay_ x.x.D_ x4 (⟨0,m.Bb_,m.key,m.head,m.body,r2,m.hops⟩:Mail)) λr3=>
 (bif !decide (r3.2.2.2=0) then
 (s,[],0,r3.2.2.2)
 else (bif !decide (r3.2.2.1.Bb_=[]) then
 Au_ s m tick r t1 (gone++[(⟨x4,r3.2.2.1⟩:Hp_)]) (n+1) (⟨(⟨x.x.book,r3.1,x.x.notes,x.x.seen,x.x.spent⟩:U_),x.K_,x.place⟩:E_)
 else Au_ s m tick r t1 gone (n+1) (⟨(⟨x.x.book,r3.1,x.x.notes,x.x.seen,x.x.spent⟩:U_),x.K_,x.place⟩:E_))))
def Ag_ (s:E_) (m:Mail) (tick:Int):E_×(List Hp_)×Int×Int:=
 lt (Cn_ s.x.book m.Bb_ m.key m.head) λr=>
 (bif !decide (r.2.2=0) then
 (s,[],0,r.2.2)
 else Au_ s m tick r r.1 [] 0 s)
def Rj_ (W:Nat) (r:E_×List Hp_×Int×Int):Prop:=StOk r.1/\(∀ g∈r.2.1,MlOk g.Ab_)/\(r.2.2.2=0->wtk r.1.x.D_+wto r.2.1<=W)
theorem Sc_ {W:Nat} {s:E_} {e:Int} (h:StOk s) (he:e≠0):Rj_ W (s,[],0,e):=⟨h,(λ_ hg=>by cases hg),λq=>(he q).elim⟩
theorem send1 {s:E_} {m:Mail} {tick:Int} {r:List Bs×List Bs×Int} {gone:List Hp_} {W:Nat} (hs:StOk s) (hg:∀ g∈gone,MlOk g.Ab_):∀ (t:List Bs) (n:Int) (x:E_),StOk x->wtk x.x.D_+wto gone<=W->Rj_ W (B2_ s m tick r gone t n x)
 |[],n,x,hx,hw=>⟨hx,hg,λ_=>hw⟩
 |q::t,n,x,hx,hw=>by
   unfold B2_ lt
   refine lp1E (P:=Rj_ W) (λy:E_=>StOk y/\y.x.D_=x.x.D_) ?_ λy hy=>?_
   . refine bt (P:=LoP _ _) (λ_=>?_) λ_=>⟨hx,rfl⟩
     refine bt (P:=LoP _ _) (λe=>Sc_ hs ?_) λ_=>spend_ok hx
     simpa using e
   . have hr:=Ya_ (p:=T_ x.K_ q) (m:=⟨0,m.Bb_,m.key,m.head,m.body,m.due,m.hops⟩) hy.1.stk
     refine bt (P:=Rj_ W) (λe=>Sc_ hs (by simpa using e)) λ_=>?_
     refine send1 hs hg t _ _ (Cz_ hy.1 hr.1) ?_
     have :wtk (Bl_ y.x.D_ (T_ x.K_ q) ⟨0,m.Bb_,m.key,m.head,m.body,m.due,m.hops⟩).1=wtk x.x.D_:=by
       unfold wtk;rw[hr.2,hy.2]
     show wtk (Bl_ y.x.D_ (T_ x.K_ q) ⟨0,m.Bb_,m.key,m.head,m.body,m.due,m.hops⟩).1+_<=W
     omega
theorem wto_app (a b:List Hp_):wto (a++b)=wto a+wto b:=by simp[wto]
theorem send0 {s:E_} {m:Mail} {tick:Int} {r:List Bs×List Bs×Int} (hs:StOk s) (h0:0<=m.hops):∀ (t:List Bs) (gone:List Hp_) (n:Int) (x:E_),StOk x->(∀ g∈gone,MlOk g.Ab_)->Rj_ (wtk x.x.D_+wto gone+t.length*wtm m) (Au_ s m tick r t gone n x)
 |[],gone,n,x,hx,hg=>by
   unfold Au_
   exact send1 hs hg r.2.1 n x hx (by simp)
 |q::t,gone,n,x,hx,hg=>by
   unfold Au_ lt
   have hmono:∀ {W W':Nat} {r:E_×List Hp_×Int×Int},W<=W'->Rj_ W r->Rj_ W' r:=λhw h=>⟨h.1,h.2.1,λe=>Nat.le_trans (h.2.2 e) hw⟩
   have hl:(q::t).length*wtm m=t.length*wtm m+wtm m:=by rw[List.length_cons,Nat.succ_mul]
   refine bt (P:=Rj_ _) (λ_=>hmono (by omega) (send0 hs h0 t gone n x hx hg)) λ_=>?_
   generalize hd:Js_ m.due tick (Ah_ x.x.D_ q).1.life=due
   have hp:=Wv_ (s:=x.x.D_) (n:=q) (m:=⟨0,m.Bb_,m.key,m.head,m.body,due,m.hops⟩) hx.stk h0
   dsimp only
   generalize hv:Ay_ x.x.D_ q ⟨0,m.Bb_,m.key,m.head,m.body,due,m.hops⟩=v at hp ⊢
   obtain⟨p1,p2,p3⟩:=hp
   have he:wtm ⟨0,m.Bb_,m.key,m.head,m.body,due,m.hops⟩=wtm m:=rfl
   rw[he] at p3
   refine bt (P:=Rj_ _) (λe=>Sc_ hs (by simpa using e)) λe=>?_
   have hw:=(p3 (by simpa using e)).2
   refine bt (P:=Rj_ _) (λe2=>?_) λe2=>?_
   . refine hmono ?_ (send0 hs h0 t (gone++[⟨q,v.2.2.1⟩]) (n+1) ⟨⟨x.x.book,v.1,x.x.notes,x.x.seen,x.x.spent⟩,x.K_,x.place⟩ (Cz_ hx p1) ?_)
     . rw[wto_app]
       have :wt1 v.2.2.1=wto [(⟨q,v.2.2.1⟩:Hp_)]:=by
         have :decide (v.2.2.1.Bb_=[])=false:=by simpa using e2
         simp[wt1,wto,this]
       show wtk v.1+_+_<=_
       omega
     . intro g hg'
       rcases List.mem_append.1 hg' with q|q
       . exact hg g q
       . rw[List.mem_singleton.1 q];exact p2
   . refine hmono ?_ (send0 hs h0 t gone (n+1) ⟨⟨x.x.book,v.1,x.x.notes,x.x.seen,x.x.spent⟩,x.K_,x.place⟩ (Cz_ hx p1) hg)
     show wtk v.1+_+_<=_
     omega
theorem Nc_ {s:E_} {m:Mail} {tick:Int} (hs:StOk s) (h0:0<=m.hops):Rj_ (wtk s.x.D_+32*wtm m) (Ag_ s m tick):=by
 unfold Ag_ lt
 refine bt (P:=Rj_ _) (λe=>Sc_ hs (by simpa using e)) λ_=>?_
 have hl:=(Te_ m.Bb_ m.key m.head hs.1.1).1
 have h:=send0 (tick:=tick) (r:=Cn_ s.x.book m.Bb_ m.key m.head) hs h0 (Cn_ s.x.book m.Bb_ m.key m.head).1 [] 0 s hs (λ_ hg=>by cases hg)
 refine⟨h.1,h.2.1,λe=>Nat.le_trans (h.2.2 e) ?_⟩
 have :=Nat.mul_le_mul_right (wtm m) hl
 simp only[wto,List.map_nil,List.sum_nil]
 omega
theorem Zv_ {s:E_} {m:Mail} {tick:Int} {r:List Bs×List Bs×Int} {gone:List Hp_} {k:Nat} (hk:gone.length<=k):∀ (t:List Bs) (n:Int) (x:E_),(B2_ s m tick r gone t n x).2.1.length<=k
 |[],n,x=>hk
 |q::t,n,x=>by
   unfold B2_ lt
   let Q:E_×List Hp_×Int×Int->Prop:=λr=>r.2.1.length<=k
   refine lp1E (P:=Q) (λ_=>True) ?_ λy _=>?_
   . refine bt (P:=LoP _ _) (λ_=>?_) λ_=>trivial
     exact bt (P:=LoP _ _) (λ_=>Nat.zero_le _) λ_=>trivial
   . exact bt (P:=Q) (λ_=>Nat.zero_le _) λ_=>Zv_ hk t _ _
theorem Qj_ {s:E_} {m:Mail} {tick:Int} {r:List Bs×List Bs×Int} {k:Nat}:∀ (t:List Bs) (gone:List Hp_) (n:Int) (x:E_),gone.length+t.length<=k->(Au_ s m tick r t gone n x).2.1.length<=k
 |[],gone,n,x,hk=>by
   unfold Au_
   exact Zv_ (by simpa using hk) _ _ _
 |q::t,gone,n,x,hk=>by
   simp only[List.length_cons] at hk
   unfold Au_ lt
   let Q:E_×List Hp_×Int×Int->Prop:=λr=>r.2.1.length<=k
   refine bt (P:=Q) (λ_=>Qj_ t _ _ _ (by omega)) λ_=>?_
   refine bt (P:=Q) (λ_=>Nat.zero_le _) λ_=>?_
   exact bt (P:=Q) (λ_=>Qj_ t _ _ _ (by simp;omega)) λ_=>Qj_ t _ _ _ (by omega)
theorem Nb_ {s:E_} {m:Mail} {tick:Int} (hs:StOk s):(Ag_ s m tick).2.1.length<=32:=by
 unfold Ag_ lt
 let Q:E_×List Hp_×Int×Int->Prop:=λr=>r.2.1.length<=32
 refine bt (P:=Q) (λ_=>Nat.zero_le _) λ_=>?_
 have hl:=(Te_ m.Bb_ m.key m.head hs.1.1).1
 exact Qj_ _ _ _ _ (by simpa using hl)
theorem wtm_r (m:Mail):1<=wtm m/\wtm m<=39135393:=by
 unfold wtm
 refine⟨Nat.one_le_pow _ _ (by decide),?_⟩
 have :33 ^ (5-m.hops.toNat)<=33 ^ 5:=Nat.pow_le_pow_right (by decide) (by omega)
 simpa using this
theorem wto_r:∀ l:List Hp_,l.length<=wto l/\wto l<=39135393*l.length
 |[]=>⟨Nat.zero_le _,by simp[wto]⟩
 |x::l=>by
   have h:=wto_r l
   have hx:=wtm_r x.Ab_
   simp only[wto,List.map_cons,List.sum_cons,List.length_cons] at h ⊢
   omega
theorem wtl_r:∀ l:List M_,wtl l<=39135393*l.length
 |[]=>by simp[wtl]
 |x::l=>by
   have h:=wtl_r l
   have hx:=wtm_r x.Ab_
   simp only[wtl,List.map_cons,List.sum_cons,List.length_cons] at h ⊢
   omega
theorem wtr_r:∀ l:List Gi_,(∀ r∈l,LnOk r.l)->(l.map λr=>wtl r.l.items).sum<=2504665152*l.length
 |[],_=>by simp
 |x::l,h=>by
   have h1:=wtr_r l λr hr=>h r (List.mem_cons_of_mem _ hr)
   have h2:=wtl_r x.l.items
   have h3:=(h x (List.mem_cons_self ..)).1
   simp only[List.map_cons,List.sum_cons,List.length_cons]
   omega
theorem wtk_r {s:F_} (h:StkOk s):wtk s<=20037321216:=by
 have h1:=wtr_r s.rows h.1.2.1
 have h2:=h.1.1
 unfold wtk;omega
theorem Se_ {l:List Hp_} (h:0<l.length):wto (l.drop 1)+wtm (gt l 0).Ab_=wto l:=by
 cases l with
 |nil=>cases h
 |cons a r=>simp[wto,gt];omega
def Sf_ (gone:List Hp_) (lost:Int) (x:E_):Prop:=StOk x/\(∀ g∈gone,MlOk g.Ab_)/\0<=lost/\lost+((wtk x.x.D_+wto gone:Nat):Int)<=50000000000
theorem buryI0 {gone:List Hp_} {x:E_} (h:StOk x) (hg:gone.length<=600/\∀ g∈gone,MlOk g.Ab_):Sf_ gone 0 x:=by
 have h1:=wtk_r h.stk
 have h2:=(wto_r gone).2
 refine⟨h,hg.2,Int.le_refl _,?_⟩
 have :=hg.1
 omega
section
variable {gone more:List Hp_} {lost:Int} {x y:E_} {f:Nat} {m:Mail} {e:Int}
theorem Us_ (hn:0<gone.length) (h:wtk x.x.D_+wto gone<f+1):wtk x.x.D_+wto (gone.drop 1)<f:=by
 have :=Se_ hn;have :=(wtm_r (gt gone 0).Ab_).1;omega
theorem Si_ (h:Sf_ gone lost x) (hn:0<gone.length):Sf_ (gone.drop 1) lost x:=by
 have h1:=Se_ hn
 exact⟨h.1,λg hg=>h.2.1 g (List.mem_of_mem_drop hg),h.2.2.1,by have :=h.2.2.2;omega⟩
theorem Xq_ (hs:y.x.D_=x.x.D_) (hn:0<gone.length) (h:wtk x.x.D_+wto gone<f+1):wtk y.x.D_+wto (gone.drop 1)<f:=by
 rw[hs];exact Us_ hn h
theorem Sj_ (h:Sf_ gone lost x) (hy:StOk y) (hs:y.x.D_=x.x.D_) (hn:0<gone.length):Sf_ (gone.drop 1) (lost+1) y:=by
 have h1:=Se_ hn
 have h2:=(wtm_r (gt gone 0).Ab_).1
 have h3:=h.2.2.2
 exact⟨hy,λg hg=>h.2.1 g (List.mem_of_mem_drop hg),by have :=h.2.2.1;omega,by rw[hs];omega⟩
theorem bury_w {r:Mail} (hr:r=J_ (gt gone 0).Ab_) (hm:MlOk (gt gone 0).Ab_) (h4:¬4<IntKind.wrap .u8 (r.hops+1)) (hmm:m.hops=IntKind.wrap .u8 (r.hops+1)):33*wtm m=wtm (gt gone 0).Ab_:=by
 subst hr
 have h1:=hm.2.1
 have h2:=hm.2.2.1
 have hw:IntKind.wrap .u8 ((gt gone 0).Ab_.hops+1)=(gt gone 0).Ab_.hops+1:=by
   simp only[IntKind.wrap,IntKind.bits,IntKind.signed];simp;omega
 simp only[J_] at h4 hmm
 rw[hw] at h4 hmm
 unfold wtm
 rw[hmm]
 have :5-(gt gone 0).Ab_.hops.toNat=(5-((gt gone 0).Ab_.hops+1).toNat)+1:=by omega
 rw[this,Nat.pow_succ,Nat.mul_comm]
theorem Ut_ {r:Mail} (hn:0<gone.length) (h:wtk x.x.D_+wto gone<f+1) (hr:r=J_ (gt gone 0).Ab_) (hm:MlOk (gt gone 0).Ab_) (h4:¬4<IntKind.wrap .u8 (r.hops+1)) (hw:e=0->wtk y.x.D_+wto more<=wtk x.x.D_+32*wtm m) (hmm:m.hops=IntKind.wrap .u8 (r.hops+1)) (he:e=0):wtk y.x.D_+wto ((gone++more).drop 1)<f:=by
 have h1:=Se_ hn
 have h2:=bury_w (m:=m) hr hm h4 hmm
 have h3:=hw he
 have h5:(gone++more).drop 1=gone.drop 1++more:=by cases gone with
   |nil=>cases hn
   |cons a r=>simp
 have h6:=(wtm_r m).1
 rw[h5,wto_app];omega
theorem Sk_ {r:Mail} (h:Sf_ gone lost x) (hy:StOk y) (hg:∀ g∈more,MlOk g.Ab_) (hn:0<gone.length) (hr:r=J_ (gt gone 0).Ab_) (hm:MlOk (gt gone 0).Ab_) (h4:¬4<IntKind.wrap .u8 (r.hops+1)) (hw:e=0->wtk y.x.D_+wto more<=wtk x.x.D_+32*wtm m) (hmm:m.hops=IntKind.wrap .u8 (r.hops+1)) (he:e=0):Sf_ ((gone++more).drop 1) lost y:=by
 have h1:=Ut_ (f:=wtk x.x.D_+wto gone) hn (by omega) hr hm h4 hw hmm he
 refine⟨hy,λg hg'=>?_,h.2.2.1,by have :=h.2.2.2;omega⟩
 rcases List.mem_append.1 (List.mem_of_mem_drop hg') with q|q
 . exact h.2.1 g q
 . exact hg g q
theorem app_fit (h:Sf_ gone lost x) (hw:e=0->wtk y.x.D_+wto more<=wtk x.x.D_+32*wtm m) (he:e=0):gone.length+more.length<=200000000000:=by
 have h1:=(wto_r gone).1
 have h2:=(wto_r more).1
 have h3:=(wtm_r m).2
 have h4:=hw he
 have h5:=h.2.2.2
 have h6:=h.2.2.1
 omega
end
def nik (s:F_):Nat:=(s.rows.map λr=>r.l.items.length).sum
theorem at_self {s:F_} (h:StkOk s) {k:Nat} (hk:k<s.rows.length):I_ s (gt s.rows k).q.name=k:=by
 have h0:0<=I_ s (gt s.rows k).q.name:=Int.not_lt.1 λq=>at_neg q _ (Ib_ hk) rfl
 have hb:=at_b s (gt s.rows k).q.name
 have ha:=at_n h0
 obtain⟨j,hj⟩:∃ j:Nat,I_ s (gt s.rows k).q.name=j:=⟨_,(Int.toNat_of_nonneg h0).symm⟩
 rw[hj] at ha hb ⊢
 simp only[Int.toNat_natCast] at ha
 have hjl:j<s.rows.length:=by omega
 have hnd:∀ i q:Nat,(hi:i<s.rows.length)->(hq:q<s.rows.length)->i<q->(gt s.rows i).q.name≠(gt s.rows q).q.name:=λi q hi hq hiq=>by
   have h1:=List.pairwise_iff_getElem.1 h.1.2.2 i q (by simpa using hi) (by simpa using hq) hiq
   rw[List.getElem_map,List.getElem_map] at h1
   have e1:gt s.rows i=s.rows[i]:=by simp[gt,hi]
   have e2:gt s.rows q=s.rows[q]:=by simp[gt,hq]
   rw[e1,e2];exact h1
 rcases Nat.lt_trichotomy j k with q|q|q
 . exact absurd ha (hnd j k hjl hk q)
 . rw[q]
 . exact absurd ha.symm (hnd k j hk hjl q)
theorem X7_ {t:Int}:∀ (l:List Gi_),(Be_ t l).2.2=true->∃ k j,k<l.length/\j<(gt l k).l.items.length/\(Be_ t l).1=(gt l k).q.name/\(Be_ t l).2.1=(gt (gt l k).l.items j).Ab_
 |[],h=>by cases h
 |x::l,h=>by
   unfold Be_ lt at h ⊢
   dsimp only at h ⊢
   cases e:(Fn_ x.l t).2 with
   |true=>
     have hb:=llate_b x.l t
     have hl:∃ j:Nat,j<x.l.items.length/\(Fn_ x.l t).1=(gt x.l.items j).Ab_:=by
       unfold Fn_ lt C7_ lt at e ⊢
       dsimp only at e ⊢
       cases e1:decide (Fr_ x.l t<0) with
       |true=>rw[e1] at e;cases e
       |false=>
         simp only[decide_eq_false_iff_not] at e1
         exact⟨(Fr_ x.l t).toNat,by omega,rfl⟩
     obtain⟨j,hj,he⟩:=hl
     exact⟨0,j,by simp,hj,rfl,he⟩
   |false=>
     rw[e] at h
     obtain⟨k,j,h1,h2,h3,h4⟩:=X7_ l h
     have hg:gt (x::l) (k+1)=gt l k:=by simp[gt]
     exact⟨k+1,j,by simpa using h1,by rw[hg];exact h2,by rw[hg];exact h3,by rw[hg];exact h4⟩
theorem late_n {s:F_} {t:Int} (h:StkOk s) (hl:(Az_ s t).2.2=true):nik (Ai_ s (Az_ s t).1 (Az_ s t).2.1.id).1+1=nik s:=by
 obtain⟨k,j,h1,h2,h3,h4⟩:=X7_ s.rows hl
 have h3':(Az_ s t).1=_:=h3
 have h4':(Az_ s t).2.1=_:=h4
 rw[h3',h4']
 unfold Ai_ lt
 rw[at_self h h1]
 have hk:decide ((k:Int)<0)=false:=by simp
 have hln:=RwsOk.at h.1 (getG h1)
 have hrm:(An_ (gt s.rows k).l (gt (gt s.rows k).l.items j).Ab_.id).1.items.length+1=(gt s.rows k).l.items.length:=by
   unfold An_ lt
   rw[W6_ hln h2]
   dsimp only
   have hj:decide ((j:Int)<0)=false:=by simp
   rw[hj]
   simp only[cond_false,List.flatten_cons,List.flatten_nil,List.append_nil,List.length_append,List.length_take,List.length_drop]
   omega
 have hs:=sum_set (λr:Gi_=>r.l.items.length) s.rows k ⟨(gt s.rows k).q,(An_ (gt s.rows k).l (gt (gt s.rows k).l.items j).Ab_.id).1⟩ h1
 dsimp only at hs ⊢
 rw[hk]
 unfold nik
 simp only[cond_false,Int.toNat_natCast,Ac_]
 omega
theorem nik_r0:∀ l:List Gi_,(∀ r∈l,LnOk r.l)->(l.map λr=>r.l.items.length).sum<=64*l.length
 |[],_=>by simp
 |x::l,h=>by
   have h1:=nik_r0 l λr hr=>h r (List.mem_cons_of_mem _ hr)
   have h3:=(h x (List.mem_cons_self ..)).1
   simp only[List.map_cons,List.sum_cons,List.length_cons]
   omega
theorem nik_r {s:F_} (h:StkOk s):nik s<=512:=by
 have h1:=nik_r0 s.rows h.1.2.1
 have h2:=h.1.1
 unfold nik;omega
theorem D0_ {s:E_} {a:A16_u64} (h:StOk s):StOk ⟨⟨s.x.book,s.x.D_,s.x.notes,a,s.x.spent⟩,s.K_,s.place⟩:=h
theorem Xt_ (m:Mail):(J_ m).head.length=m.head.length/\(J_ m).key.length=m.key.length/\(J_ m).hops=m.hops:=⟨rfl,rfl,rfl⟩
theorem st_nts {s:E_} (h:StOk s):s.x.notes.kept.length<=1000:=Nat.le_trans h.1.2.2.1 (by decide)
theorem late_mu {k:F_} {t:Int} {r:Bs×Mail×Bool} {r1:F_×M_×Int} {f:Nat} (h:StkOk k) (hr:Az_ k t=r) (h2:r.2.2=true) (hr1:Ai_ k r.1 r.2.1.id=r1) (hf:nik k<f+1):nik r1.1<f:=by
 subst hr;subst hr1
 have :=late_n h h2;omega
theorem late_in {k:F_} {t:Int} {r:Bs×Mail×Bool} {r1:F_×M_×Int} {gone:List Hp_} {g:Hp_} (h:StkOk k) (hr:Az_ k t=r) (h2:r.2.2=true) (hr1:Ai_ k r.1 r.2.1.id=r1) (hf:gone.length+nik k<=512):(gone++[g]).length+nik r1.1<=512:=by
 subst hr;subst hr1
 have :=late_n h h2
 simp only[List.length_append,List.length_cons,List.length_nil];omega
def Da_ (tick:Int):Nat->List Hp_->Int->E_->E_×Int
 |0,_,_,_=>default
 | f2+1,gone1,lost,x=>(bif decide (0<(gone1.length:Int)) then
 lt (Ah_ x.x.D_ ((gt gone1 0).queue)) λr=>
 (bif decide (((r.1).dead)=[]) then
 Da_ tick f2 (gone1.drop 1) lost x
 else lt (J_ ((gt gone1 0).Ab_)) λr1=>
 lt (Ag_ x (⟨r1.id,(r.1).dead,r1.key,r1.head,r1.body,0,(IntKind.wrap .u8 (r1.hops+1))⟩:Mail) tick) λr2=>
 (bif ((decide (4<(IntKind.wrap .u8 (r1.hops+1))))||(!decide (r2.2.2.2=0))) then
 lt (C2_ x tick 1 ((gt gone1 0).queue)) λr3=>
 Da_ tick f2 (gone1.drop 1) (lost+1) r3
 else Da_ tick f2 ((gone1++r2.2.1).drop 1) lost r2.1))
 else (x,lost))
def Cp_ (s:E_) (gone:List Hp_) (tick:Int):E_×Int:=
 Da_ tick (wtk s.x.D_+wto gone+1) gone 0 s
def Dm_ (s:E_) (d:L_):E_×Bh_×Int:=
 lt (Co_ s.x.D_ d.name d.id) λr=>
 (bif !decide (r.2=0) then
 (s,(⟨(⟨(⟨0,[],[],[],[],0,0⟩:Mail),false,false⟩:M_),0,0⟩:Bh_),r.2)
 else (bif decide (d.how=2) then
 ((⟨(⟨s.x.book,r.1,s.x.notes,s.x.seen,s.x.spent⟩:U_),s.K_,s.place⟩:E_),(⟨(⟨(⟨0,[],[],[],[],0,0⟩:Mail),false,false⟩:M_),0,0⟩:Bh_),0)
 else lt (Ai_ s.x.D_ d.name d.id) λr1=>
 (bif decide (d.how=1) then
 (((Cp_ (⟨(⟨s.x.book,r1.1,s.x.notes,s.x.seen,s.x.spent⟩:U_),s.K_,s.place⟩:E_) [(⟨d.name,r1.2.1.Ab_⟩:Hp_)] d.tick).1),(⟨(⟨(⟨0,[],[],[],[],0,0⟩:Mail),false,false⟩:M_),0,(Cp_ (⟨(⟨s.x.book,r1.1,s.x.notes,s.x.seen,s.x.spent⟩:U_),s.K_,s.place⟩:E_) [(⟨d.name,r1.2.1.Ab_⟩:Hp_)] d.tick).2⟩:Bh_),0)
 else ((⟨(⟨s.x.book,r1.1,s.x.notes,s.x.seen,s.x.spent⟩:U_),s.K_,s.place⟩:E_),(⟨(⟨(⟨0,[],[],[],[],0,0⟩:Mail),false,false⟩:M_),0,0⟩:Bh_),0))))
def Ee_ (tick:Int):Nat->List Hp_->E_->E_×Bh_
 |0,_,_=>default
 |f2+1,gone,x=>lt (Az_ x.x.D_ tick) λr=>
 (bif !r.2.2 then
 (((Cp_ x gone tick).1),(⟨(⟨(⟨0,[],[],[],[],0,0⟩:Mail),false,false⟩:M_),(gone.length:Int),(Cp_ x gone tick).2⟩:Bh_))
 else lt (Ai_ x.x.D_ r.1 r.2.1.id) λr1=>
 Ee_ tick f2 (gone++[(⟨r.1,r.2.1⟩:Hp_)]) (⟨(⟨x.x.book,r1.1,x.x.notes,x.x.seen,x.x.spent⟩:U_),x.K_,x.place⟩:E_))
def F2_ (s:E_) (tick:Int):E_×Bh_:=
 Ee_ tick (nik s.x.D_+1) [] s
def Dv_ (s:E_) (d:L_):E_×Bh_×Int:=
 (bif decide ((s.K_.places.length:Int)<=d.frm) then
 (s,(⟨(⟨(⟨0,[],[],[],[],0,0⟩:Mail),false,false⟩:M_),0,0⟩:Bh_),10)
 else (bif ((!(Ed_ s.K_ d.frm s.place))&&(decide ((Ak_ s.K_ d.frm s.place)<0))) then
 (s,(⟨(⟨(⟨0,[],[],[],[],0,0⟩:Mail),false,false⟩:M_),0,0⟩:Bh_),11)
 else (bif decide (d.number<=(A16.get s.x.seen ((d.frm).toNat))) then
 (s,(⟨(⟨(⟨0,[],[],[],[],0,0⟩:Mail),false,false⟩:M_),0,0⟩:Bh_),13)
 else (lt1 ((bif !(Ed_ s.K_ d.frm s.place) then
 lt (C2_ (⟨(⟨s.x.book,s.x.D_,s.x.notes,(A16.set s.x.seen d.number ((d.frm).toNat)),s.x.spent⟩:U_),s.K_,s.place⟩:E_) d.tick 2 ((gt s.K_.places ((d.frm).toNat)).name)) λr=>
 r
 else (⟨(⟨s.x.book,s.x.D_,s.x.notes,(A16.set s.x.seen d.number ((d.frm).toNat)),s.x.spent⟩:U_),s.K_,s.place⟩:E_))) (λx=>
 lt (J_ d.Ab_) λr1=>
 lt (Ag_ x (⟨r1.id,r1.Bb_,r1.key,r1.head,r1.body,r1.due,(IntKind.wrap .u8 (r1.hops+1))⟩:Mail) d.tick) λr2=>
 (bif ((decide (4<(IntKind.wrap .u8 (r1.hops+1))))||(!decide (r2.2.2.2=0))) then
 lt (C2_ x d.tick 1 r1.Bb_) λr3=>
 (r3,(⟨(⟨(⟨0,[],[],[],[],0,0⟩:Mail),false,false⟩:M_),0,1⟩:Bh_),0)
 else (((Cp_ r2.1 r2.2.1 d.tick).1),(⟨(⟨(⟨0,[],[],[],[],0,0⟩:Mail),false,false⟩:M_),r2.2.2.1,(Cp_ r2.1 r2.2.1 d.tick).2⟩:Bh_),0)))))))
def Es_ (s:E_) (d:L_):E_×Bh_×Int:=
 lt (J_ d.Ab_) λr=>
 lt (Ag_ s r d.tick) λr1=>
 (bif !decide (r1.2.2.2=0) then
 (s,(⟨(⟨(⟨0,[],[],[],[],0,0⟩:Mail),false,false⟩:M_),0,0⟩:Bh_),r1.2.2.2)
 else (((Cp_ (r1.1) r1.2.1 d.tick).1),(⟨(⟨(⟨0,[],[],[],[],0,0⟩:Mail),false,false⟩:M_),r1.2.2.1,(Cp_ (r1.1) r1.2.1 d.tick).2⟩:Bh_),0))
def O_ (s:E_) (d:L_):E_×Bh_×Int:=
 (bif !decide ((F7_ d)=0) then
 (s,(⟨(⟨(⟨0,[],[],[],[],0,0⟩:Mail),false,false⟩:M_),0,0⟩:Bh_),F7_ d)
 else (lt3 ((lt1 ((bif decide (d.kind=2) then
 (decide (d.kind=2))
 else (decide (d.kind=3)))) (λv=>
 (bif v then
 lt (A2_ s d) λr=>
 (r.2,r.1,(⟨(⟨(⟨0,[],[],[],[],0,0⟩:Mail),false,false⟩:M_),0,0⟩:Bh_))
 else (bif decide (d.kind=6) then
 lt (Es_ s d) λr1=>
 (r1.2.2,r1.1,r1.2.1)
 else (bif decide (d.kind=7) then
 lt (Du_ s d) λr2=>
 (r2.2.2,r2.1,r2.2.1)
 else (bif decide (d.kind=8) then
 lt (Dm_ s d) λr3=>
 (r3.2.2,r3.1,r3.2.1)
 else (bif decide (d.kind=9) then
 lt (F2_ s d.tick) λr4=>
 (0,r4.1,r4.2)
 else (bif decide (d.kind=10) then
 lt (Dv_ s d) λr5=>
 (r5.2.2,r5.1,r5.2.1)
 else (bif decide (d.kind=11) then
 lt (Ew_ s.x.D_) λr6=>
 lt (C2_ (⟨(⟨s.x.book,r6,s.x.notes,s.x.seen,s.x.spent⟩:U_),s.K_,s.place⟩:E_) d.tick 3 []) λr7=>
 (0,r7,(⟨(⟨(⟨0,[],[],[],[],0,0⟩:Mail),false,false⟩:M_),0,0⟩:Bh_))
 else (bif decide (d.kind=12) then
 lt (C4_ s.x.notes (⟨d.tick,d.code,d.text⟩:D5_)) λr8=>
 (r8.2,(⟨(⟨s.x.book,s.x.D_,r8.1,s.x.seen,s.x.spent⟩:U_),s.K_,s.place⟩:E_),(⟨(⟨(⟨0,[],[],[],[],0,0⟩:Mail),false,false⟩:M_),0,0⟩:Bh_))
 else lt (Ax_ s d) λr9=>
 (r9.2,r9.1,(⟨(⟨(⟨0,[],[],[],[],0,0⟩:Mail),false,false⟩:M_),0,0⟩:Bh_))))))))))))) (λe_1 x x1=>
 (bif !decide (e_1=0) then
 (s,(⟨(⟨(⟨0,[],[],[],[],0,0⟩:Mail),false,false⟩:M_),0,0⟩:Bh_),e_1)
 else (x,x1,0)))))
theorem Rq_ (tick:Int):∀ (f:Nat) (gone:List Hp_) (lost:Int) (x:E_),Sf_ gone lost x->wtk x.x.D_+wto gone<f->StOk (Da_ tick f gone lost x).1
 |0,_,_,_,_,h=>by omega
 |f+1,gone,lost,x,hI,hf=>by
   unfold Da_ lt
   let Q:E_×Int->Prop:=λr=>StOk r.1
   refine bt (P:=Q) (λe=>?_) λ_=>hI.1
   have hn:0<gone.length:=by simpa using e
   refine bt (P:=Q) (λ_=>Rq_ tick f _ _ _ (Si_ hI hn) (Us_ hn hf)) λ_=>?_
   have hm:MlOk (gt gone 0).Ab_:=hI.2.1 _ (Ib_ hn)
   refine bt (P:=Q) (λ_=>?_) λe4=>?_
   . have h:=Kn_ (s:=x) (t:=tick) (k:=1) (x:=(gt gone 0).queue) hI.1
     exact Rq_ tick f _ _ _ (Sj_ hI h.1 h.2 hn) (Xq_ h.2 hn hf)
   . simp only[Bool.or_eq_false_iff,decide_eq_false_iff_not,Bool.not_eq_false',decide_eq_true_eq] at e4
     have hs:=Nc_ (s:=x) (m:=⟨(J_ (gt gone 0).Ab_).id,(Ah_ x.x.D_ (gt gone 0).queue).1.dead,(J_ (gt gone 0).Ab_).key,(J_ (gt gone 0).Ab_).head,(J_ (gt gone 0).Ab_).body,0,IntKind.wrap .u8 ((J_ (gt gone 0).Ab_).hops+1)⟩) (tick:=tick) hI.1 (Nf_ _)
     exact Rq_ tick f _ _ _ (Sk_ hI hs.1 hs.2.1 hn rfl hm e4.1 hs.2.2 rfl e4.2) (Ut_ hn hf rfl hm e4.1 hs.2.2 rfl e4.2)
theorem Vv_ {s:E_} {gone:List Hp_} {tick:Int} (h:StOk s) (hg:gone.length<=600/\∀ g∈gone,MlOk g.Ab_):StOk (Cp_ s gone tick).1:=
 Rq_ tick _ gone 0 s (buryI0 h hg) (Nat.lt_succ_self _)
theorem settle_ok {s:E_} {d:L_} (h:StOk s):StOk (Dm_ s d).1:=by
 unfold Dm_ lt
 let Q:E_×Bh_×Int->Prop:=λr=>StOk r.1
 refine bt (P:=Q) (λ_=>h) λ_=>?_
 refine bt (P:=Q) (λ_=>Cz_ h (kback_ok h.stk)) λ_=>?_
 have hr:=K4_ (n:=d.name) (id:=d.id) h.stk
 refine bt (P:=Q) (λ_=>Vv_ (Cz_ h hr.1) ⟨by simp,λg hg=>?_⟩) λ_=>Cz_ h hr.1
 rw[List.mem_singleton.1 hg];exact hr.2
theorem late_ok0 (t:Int):∀ (f:Nat) (gone:List Hp_) (x:E_),StOk x->(∀ g∈gone,MlOk g.Ab_)->gone.length+nik x.x.D_<=512->nik x.x.D_<f->StOk (Ee_ t f gone x).1
 |0,_,_,_,_,_,h=>by omega
 |f+1,gone,x,h,hg,hl,hf=>by
   unfold Ee_ lt
   let Q:E_×Bh_->Prop:=λr=>StOk r.1
   refine bt (P:=Q) (λ_=>Vv_ h ⟨by omega,hg⟩) λe=>?_
   have e':(Az_ x.x.D_ t).2.2=true:=by simpa using e
   have hr:=K4_ (n:=(Az_ x.x.D_ t).1) (id:=(Az_ x.x.D_ t).2.1.id) h.stk
   refine late_ok0 t f _ _ (Cz_ h hr.1) (λg q=>?_) (late_in h.stk rfl e' rfl hl) (late_mu h.stk rfl e' rfl hf)
   rcases List.mem_append.1 q with q|q
   . exact hg g q
   . rw[List.mem_singleton.1 q];exact Wu_ h.stk
theorem late_ok {s:E_} {t:Int} (h:StOk s):StOk (F2_ s t).1:=
 late_ok0 t _ [] s h (λ_ h=>by cases h) (by have :=nik_r h.stk;simpa using this) (Nat.lt_succ_self _)
theorem put_ok {s:E_} {d:L_} (h:StOk s) (hd:DdOk d) (h0:0<=d.Ab_.hops):StOk (Es_ s d).1:=by
 unfold Es_ lt
 let Q:E_×Bh_×Int->Prop:=λr=>StOk r.1
 have hs:=Nc_ (s:=s) (m:=J_ d.Ab_) (tick:=d.tick) h h0
 have hl:=Nb_ (s:=s) (m:=J_ d.Ab_) (tick:=d.tick) h
 exact bt (P:=Q) (λ_=>h) λ_=>Vv_ hs.1 ⟨by omega,hs.2.1⟩
theorem pull_ok {s:E_} {d:L_} (h:StOk s) (hd:DdOk d):StOk (Dv_ s d).1:=by
 unfold Dv_ lt
 let Q:E_×Bh_×Int->Prop:=λr=>StOk r.1
 refine bt (P:=Q) (λ_=>h) λ_=>?_
 refine bt (P:=Q) (λ_=>h) λ_=>?_
 refine bt (P:=Q) (λ_=>h) λ_=>?_
 refine lt1E (P:=Q) StOk ?_ λx hx=>?_
 . exact bt (P:=StOk) (λ_=>(Kn_ (D0_ h)).1) λ_=>D0_ h
 . refine bt (P:=Q) (λ_=>(Kn_ hx).1) λ_=>?_
   have hs:=Nc_ (s:=x) (m:=⟨(J_ d.Ab_).id,(J_ d.Ab_).Bb_,(J_ d.Ab_).key,(J_ d.Ab_).head,(J_ d.Ab_).body,(J_ d.Ab_).due,IntKind.wrap .u8 ((J_ d.Ab_).hops+1)⟩) (tick:=d.tick) hx (Nf_ _)
   have hl:=Nb_ (s:=x) (m:=⟨(J_ d.Ab_).id,(J_ d.Ab_).Bb_,(J_ d.Ab_).key,(J_ d.Ab_).head,(J_ d.Ab_).body,(J_ d.Ab_).due,IntKind.wrap .u8 ((J_ d.Ab_).hops+1)⟩) (tick:=d.tick) hx
   exact Vv_ hs.1 ⟨by omega,hs.2.1⟩
theorem lt3E {σ τ ρ β:Type} {P:β->Prop} {o:σ×τ×ρ} {f:σ->τ->ρ->β} (I:σ×τ×ρ->Prop) (ho:I o) (hf:∀ a b c,I (a,b,c)->P (f a b c)):P (lt3 o f):=hf _ _ _ ho
theorem V5_ {s:E_} {d:L_} (h:StOk s) (hd:DdOk d) (h0:0<=d.Ab_.hops):StOk (O_ s d).1:=by
 unfold O_ lt
 let Q:E_×Bh_×Int->Prop:=λr=>StOk r.1
 refine bt (P:=Q) (λ_=>h) λ_=>?_
 let I:Int×E_×Bh_->Prop:=λr=>StOk r.2.1
 refine lt3E (P:=Q) I ?_ λa b c hb=>bt (P:=Q) (λ_=>h) λ_=>hb
 refine lt1E (P:=I) (λ_=>True) trivial λv _=>?_
 refine bt (P:=I) (λ_=>queues_ok h) λ_=>?_
 refine bt (P:=I) (λ_=>put_ok h hd h0) λ_=>?_
 refine bt (P:=I) (λ_=>(lend_ok h).1) λ_=>?_
 refine bt (P:=I) (λ_=>settle_ok h) λ_=>?_
 refine bt (P:=I) (λ_=>late_ok h) λ_=>?_
 refine bt (P:=I) (λ_=>pull_ok h hd) λ_=>?_
 refine bt (P:=I) (λ_=>(Kn_ (Cz_ h (kwake_ok h.stk))).1) λ_=>?_
 refine bt (P:=I) (λ_=>⟨⟨h.1.1,h.1.2.1,W8_ h.1.2.2.1,h.1.2.2.2⟩,h.2⟩) λ_=>?_
 exact shops_ok h hd
instance {σ ρ:Type} [Inhabited ρ]:Inhabited (Lo σ ρ):=⟨.ret default⟩
theorem has_fd (a:Cq_) (i:Int) (h:0<=a.Z7_):0<=a.Z7_.fdiv (2 ^ min i.toNat IntKind.u32.bits):=
 Int.fdiv_nonneg h (Int.le_of_lt (Int.pow_pos (by decide)))
theorem poOk_l {p:C_} (h:PoOk p):p.places.length<=100000/\p.slots.length<=100000/\p.grants.length<=100000:=by
 obtain⟨_,h2,_,h4,h5,_⟩:=h
 omega
def Xc_ (a:Cq_) (i:Int):Bool:=
 (decide (((Int.fdiv a.Z7_ (2 ^ (min (i:Int).toNat (IntKind.bits .u32))))%2)=1))
def Lz_ (a:Cq_) (b:Cq_):Nat->Nat->Bool
 |0,_=>default
 | f2+1,i=>(bif decide ((i:Int)<32) then
 (bif ((Xc_ a (i:Int))&&(!(Xc_ b (i:Int)))) then
 false
 else Lz_ a b f2 (i+1))
 else true)
def Qe_ (a:Cq_) (b:Cq_):Bool:=
 (bif decide (b.level<a.level) then
 false
 else Lz_ a b (32-0+1) 0)
def G5_ (y:A3_):List A3_->Lo Unit Int
 |[]=> .fin ()
 | x::t=>(bif ((decide ((x.name)=(y.name)))||(decide (x.label=y.label))) then
 .ret 9
 else G5_ y t)
def G6_ (y1:B0_):List B0_->Lo Unit Int
 |[]=> .fin ()
 | x1::t1=>(bif ((decide ((x1.frm)=(y1.frm)))&&(decide ((x1.to')=(y1.to')))) then
 .ret 9
 else G6_ y1 t1)
def Il_ (i:Nat):List Int->Bool->Lo Unit Int
 | [],has=>(bif !has then
 .ret 15
 else .fin ())
 |x2::t2,has=>Il_ i t2 (has||(decide (x2=(i:Int))))
def L0_ (p:C_):Nat->Nat->Int
 |0,_=>default
 | f2+1,i=>(bif decide ((i:Int)<(p.places.length:Int)) then
 (lp0 (Il_ i p.slots false) (
 L0_ p f2 (i+1)) (λr=>r))
 else 0)
def Gf_ (p:C_):List B0_->Nat->Int
 |[],k3=>L0_ p (p.places.length-0+1) 0
 | x3::t3,k3=>(lp0 ((bif ((((decide ((x3.frm)<0))||(decide ((p.places.length:Int)<=(x3.frm))))||(decide ((x3.to')<0)))||(decide ((p.places.length:Int)<=(x3.to')))) then
 .ret 10
 else (bif (Qe_ ((gt p.places ((x3.frm).toNat)).label) ((gt p.places ((x3.to').toNat)).label)) then
 .ret 11
 else (bif ((decide ((x3.budget)<0))||(decide (16<(x3.budget)))) then
 .ret 7
 else G6_ x3 (p.grants.take k3))))) (
 Gf_ p t3 (k3+1)) (λr=>r))
def Fu_ (p:C_):List Int->Int
 | []=>(bif decide (8<(p.grants.length:Int)) then
 6
 else Gf_ p p.grants 0)
 | x4::t4=>(bif ((decide (x4<0))||(decide ((p.places.length:Int)<=x4))) then
 10
 else Fu_ p t4)
def Ge_ (p:C_):List A3_->Nat->Int
 | [],k=>(bif decide ((p.slots.length:Int)=0) then
 15
 else (bif decide (32<(p.slots.length:Int)) then
 6
 else Fu_ p p.slots))
 | x5::t5,k=>(lp0 ((bif !decide ((Ez_ (x5.name))=0) then
 .ret (Ez_ (x5.name))
 else (bif ((((decide (15<(x5.label.level)))||(decide ((x5.bytes)<0)))||(decide (65536<(x5.bytes))))||(decide ((x5.base)=0))) then
 .ret 7
 else G5_ x5 (p.places.take k)))) (
 Ge_ p t5 (k+1)) (λr=>r))
def N3_ (p:C_):Int:=
 (bif ((((decide (p.work<1))||(decide (16<p.work)))||(decide (p.give<1)))||(decide (16<p.give))) then
 7
 else (bif decide ((p.places.length:Int)=0) then
 15
 else (bif decide (16<(p.places.length:Int)) then
 6
 else Ge_ p p.places 0)))
def Ys_ (p:C_) (n:Int):Int:=
 (n%(p.places.length:Int))
def G0_:List A3_->Bool
 |[]=>true
 | x::t=>(bif decide (40<((x.name).length:Int)) then
 false
 else G0_ t)
def La_ (p:C_):Bool:=
 (bif (((decide (20<(p.places.length:Int)))||(decide (40<(p.slots.length:Int))))||(decide (10<(p.grants.length:Int)))) then
 false
 else G0_ p.places)
def Iy_:List B0_->Int->Int->List A3_->List Int->List B0_->C_
 |[],work1,give_1,places1,slots1,grants1=>(⟨work1,give_1,places1,slots1,grants1⟩:C_)
 |x::t,work1,give_1,places1,slots1,grants1=>Iy_ t work1 give_1 places1 slots1 (grants1++[x])
def Ix_ (p:C_):List A3_->Int->Int->List A3_->List Int->List B0_->C_
 |[],work,give_,places,slots,grants=>Iy_ p.grants work give_ places (slots++p.slots) grants
 |x1::t1,work,give_,places,slots,grants=>Ix_ p t1 work give_ (places++[x1]) slots grants
def S4_ (p:C_):C_:=
 Ix_ p p.places p.work p.give [] [] []
theorem l05_light {p:C_} (h:La_ p=true):p.places.length<=100000/\p.slots.length<=100000/\p.grants.length<=100000:=by
 unfold La_ at h
 cases e:(decide (20<(p.places.length:Int)) || decide (40<(p.slots.length:Int)) || decide (10<(p.grants.length:Int))) with
 |true=>rw[e] at h;cases h
 |false=>
   simp only[Bool.or_eq_false_iff,decide_eq_false_iff_not] at e
   omega
def L7_ (p:C_):Bool:=
 ((La_ p)&&(decide ((N3_ (S4_ p))=0)))
end Go.SW.V
namespace Go.SW
open Go.RowKit
def cuts (p:UInt8):Bs->List Bs
 |[]=>[[]]
 |c::r=>if c=p then []::cuts p r else match cuts p r with
   |[]=>[[c]]
   |w::t=>(c::w)::t
theorem T9_ (p:UInt8):∀ s:Bs,Lib.splitK [p] 0 (Lib.count s [p]) s=cuts p s
 |[]=>by rw[Lib.count_miss (by simp[Lib.index])];rfl
 |b::l=>by
   have ih:=T9_ p l
   by_cases hb:b=p
   . subst hb
     rw[Lib.count_cons_eq,Nat.add_comm]
     have hix:Lib.index (b::l) [b]=0:=by rw[Lib.index];simp[List.isPrefixOf]
     unfold Lib.splitK cuts
     rw[hix]
     simp[ih]
   . rw[Lib.count_cons_ne _ _ _ hb]
     have hp:([p]:List UInt8).isPrefixOf (b::l)=false:=by simp[List.isPrefixOf,Ne.symm hb]
     have hix:Lib.index (b::l) [p] = if Lib.index l [p] == -1 then -1 else Lib.index l [p]+1:=by rw[Lib.index,hp];simp
     unfold cuts
     rw[if_neg hb,<- ih]
     cases hc:Lib.count l [p] with
     |zero=>rfl
     |succ k=>
       unfold Lib.splitK
       rw[hix]
       by_cases hm:Lib.index l [p] = -1
       . rw[Lib.count_miss hm] at hc;cases hc
       . have hge:=Lib.index_ge l [p]
         obtain⟨j,hj⟩:∃ j:Nat,Lib.index l [p]=j:=⟨(Lib.index l [p]).toNat,by omega⟩
         rw[hj]
         have e1:¬(((j:Nat):Int) == -1)=true:=by simp<;>omega
         have e2:¬(((j:Nat):Int)+1 == -1)=true:=by simp<;>omega
         rw[if_neg e1,if_neg e1,if_neg e2]
         have e3:(((j:Nat):Int)+1).toNat=j+1:=by omega
         rw[e3,Int.toNat_natCast]
         simp
theorem T7_ (p:UInt8) (s:Bs):(Lib.splitB ⟨#[p]⟩ 0 (Lib.countB ⟨s.toArray⟩ ⟨#[p]⟩) ⟨s.toArray⟩).map Value.string=(cuts p s).map str:=by
 have h:=Lib.splitB_data ⟨#[p]⟩ 0 (Lib.countB ⟨s.toArray⟩ ⟨#[p]⟩) ⟨s.toArray⟩
 have hc:Lib.countB ⟨s.toArray⟩ ⟨#[p]⟩=Lib.count s [p]:=by simp[Lib.countB]
 rw[hc] at h ⊢
 have e:=T9_ p s
 simp only at h
 rw[e] at h
 rw[<- h,List.map_map]
 congr 1
theorem splitB_clen (p:UInt8) (s:Bs):Lib.countB ⟨s.toArray⟩ ⟨#[p]⟩+1=(cuts p s).length:=by
 have h:=congrArg List.length (T7_ p s)
 rw[List.length_map,List.length_map,Lib.splitB_all ⟨#[p]⟩ (by simp[ByteArray.size]) 0 _ _ rfl] at h
 exact h
theorem Qm_ (p:UInt8):∀ (s w:Bs),w∈cuts p s->w.length<=s.length
 |[],w,h=>by simp[cuts] at h;simp[h]
 |c::r,w,h=>by
   unfold cuts at h
   split at h
   . rcases List.mem_cons.1 h with rfl|h
     . simp
     . have :=Qm_ p r w h;simp;omega
   . split at h
     . simp at h;subst h;simp
     . rename_i x t e
       have ih:=Qm_ p r
       rw[e] at ih
       rcases List.mem_cons.1 h with rfl|h
       . have :=ih x (by simp);simp;omega
       . have :=ih w (by simp[h]);simp;omega
theorem cuts_le (p:UInt8):∀ s:Bs,(cuts p s).length<=s.length+1
 |[]=>by simp[cuts]
 |c::r=>by
   have ih:=cuts_le p r
   unfold cuts
   split
   . simp;omega
   . split
     . simp
     . rename_i e;rw[e] at ih;simp at ih ⊢;omega
theorem Mem.addH {N:Rest} {H:Hp} {L:Ls} {w w':World} (h:Mem N H L w) (hb:Below w.heap.size w w') {g:Nat} {o:Obj} (hg:w.heap.size<=g) (ho:w'.heap[g]? = some o):Mem N (hadd H g o) L w'/\HLe H (hadd H g o):=by
 have hs:∀ (b:Nat) o',w.heap[b]? = some o'->b<w.heap.size:=λb o' x=>by
   by_cases q:b<w.heap.size
   . exact q
   . rw[Array.getElem?_eq_none (by omega)] at x;cases x
 have hk:∀ (b:Nat) o',w.heap[b]? = some o'->w'.heap[b]? = some o':=λb o' x=>by rw[hb.block b (hs b o' x)];exact x
 have hH:H g=none:=by
   cases q:H g with
   |none=>rfl
   |some o1=>have :=hs _ _ (h.h _ _ q);omega
 refine⟨⟨hb.os.trans h.os,hb.tape.trans h.tape,hb.output.trans h.output,λb o' x=>hk _ _ (h.n b o' x),λb o' x=>?_,λi b o' x=>hk _ _ (h.l i b o' x),λb o' x=>?_,λi b o' x=>⟨(h.nl i b o' x).1,?_⟩,h.ll⟩,Wl_ hH⟩
 . by_cases e:b=g
   . subst e;simp[hadd] at x;subst x;exact ho
   . simp[hadd,e] at x;exact hk _ _ (h.h b o' x)
 . have :=hs b o' (h.n b o' x)
   have e:b≠g:=by omega
   simp[hadd,e];exact h.nh b o' x
 . have :=hs b o' (h.l i b o' x)
   have e:b≠g:=by omega
   simp[hadd,e];exact (h.nl i b o' x).2
theorem ph_rowB {P:Program} {f:FuncId} {args:Array Value} {H:Hp} {T:TypeId} {xs:List Bs} {ys:List Value} (hy:ys=xs.map str) (hx:∀ s∈xs,s.length<=9223372036854775807)
   (h:∀ N L w,Mem N H L w->Calls P f args w λe w'=>∃ A,e = .returned (.slice (some ⟨A,0,none⟩) ys.length ys.length)/\w.heap.size<=A/\w'.ownsRow w.heap.size T 1 (.slice (some ⟨A,0,none⟩) ys.length ys.length) ys.length ys/\Below w.heap.size w w') :
   Ph P f args H (λv H'=>∃ (a:Option Addr) (c:Nat),v = .slice a xs.length c/\SlH strE 1 H' (.slice a xs.length c) xs):=by
 subst hy
 intro N L w hm
 refine (h N L w hm).mono λe w' ⟨A,he,hA,hr,hb⟩=>?_
 simp only[List.length_map] at he hr
 rcases hr.2 with ⟨h0,_⟩|⟨g,cap,cur,hv,hg,ho,hn,_,hc,ht⟩
 . cases h0
 . cases hv
   obtain⟨hm',hl⟩:=hm.addH hb hA ho
   have hcur:cur=(xs.map str).toArray:=by
     apply Array.ext'
     rw[<- ht]
     have :cur.toList.length=xs.length*1:=by simpa using hc
     rw[List.take_of_length_le (by omega)]
   refine⟨_,_,he,⟨_,_,rfl,⟨_,_,rfl,Nat.le_refl _⟩,λm hmm=>⟨[str xs[m]],⟨rfl,hx _ (List.getElem_mem hmm)⟩,A,0,xs.length,xs.length,cur,T,(0,0),rfl,?_,rfl,λj hj=>?_⟩⟩,hl,hm'⟩
   . simp[hadd]
   . obtain rfl :j=0:=by simpa using hj
     subst hcur
     simp[hmm]
def flds (s:Bs):List Bs:=(Lib.goFieldsP (λx=>decide ((x:Int)=32)) ⟨s.toArray⟩).map λb=>b.data.toList
theorem flds_str (s:Bs):(Lib.goFieldsP (λx=>decide ((x:Int)=32)) ⟨s.toArray⟩).map Value.string=(flds s).map str:=by
 unfold flds
 rw[List.map_map]
 congr 1
theorem flds_piece (s w:Bs) (h:w∈flds s):w.length<=s.length:=by
 simp only[flds,Lib.goFieldsP,List.map_map,List.mem_map,Function.comp] at h
 obtain⟨x,_,rfl⟩:=h
 simp only[Array.length_toList]
 show ((⟨s.toArray⟩:ByteArray).extract x.1 x.2).size<=s.length
 rw[ByteArray.size_extract]
 have :(⟨s.toArray⟩:ByteArray).size=s.length:=by simp[ByteArray.size]
 omega
def plen (s:Bs):Bool:=decide (s.length<=65536)&&(cuts 10 s).all λl=>decide (l.length<=65536) && decide ((flds l).length<=65536)&&(flds l).all λw=>decide (0<w.length) && decide (w.length<=19)
theorem plen_ok {s:Bs} (h:plen s=true):s.length<=65536/\∀ l∈cuts 10 s,l.length<=65536/\(flds l).length<=65536/\∀ w∈flds l,0<w.length/\w.length<=19:=by
 simp only[plen,Bool.and_eq_true,decide_eq_true_eq,List.all_eq_true] at h
 exact⟨h.1,λl hl=>⟨(h.2 l hl).1.1,(h.2 l hl).1.2,(h.2 l hl).2⟩⟩
def dec (s:Bs):Nat:=match Lib.parseUintB 64 s with| .ok n=>n|_=>0
def Ie_ (s:Bs):Bool:=s.all λc=>decide (48<=c.toNat) && decide (c.toNat<=57)
theorem pu_ok:∀ (s:Bs) (a k:Nat),a<10 ^ k->k+s.length<=19->Ie_ s=true->∃ n,Lib.parseUintM 18446744073709551615 a s = .ok n/\n<10 ^ 19
 |[],a,k,ha,hk,_=>⟨a,rfl,Nat.lt_of_lt_of_le ha (Nat.pow_le_pow_right (by decide) (by simpa using hk))⟩
 |c::r,a,k,ha,hk,hd=>by
   simp only[Ie_,List.all_cons,Bool.and_eq_true,decide_eq_true_eq,List.length_cons] at hd hk
   have h18:10 ^ k<=10 ^ 18:=Nat.pow_le_pow_right (by decide) (by omega)
   have h19:a*10+(c.toNat-48)<10 ^ (k+1):=by rw[Nat.pow_succ];omega
   have e18:(10:Nat) ^ 18=1000000000000000000:=by decide
   unfold Lib.parseUintM
   rw[if_pos hd.1,if_neg (by omega),if_neg (by omega)]
   exact pu_ok r _ (k+1) h19 (by omega) hd.2
theorem dec_ok {s:Bs} (hl:s.length<=19) (h0:0<s.length) (hd:Ie_ s=true):Lib.parseUintB 64 s = .ok (dec s)/\(dec s:Int)<=18446744073709551615:=by
 obtain⟨n,h,hn⟩:=pu_ok s 0 0 (by decide) (by simpa using hl) hd
 have h:Lib.parseUintB 64 s = .ok n:=by
   unfold Lib.parseUintB
   rw[if_neg (by intro q;subst q;cases h0)]
   exact h
 have e19:(10:Nat) ^ 19=10000000000000000000:=by decide
 have e:dec s=n:=by unfold dec;rw[h]
 rw[e];exact⟨h,by omega⟩
theorem Mem.below {N:Rest} {H:Hp} {L:Ls} {w w':World} (hm:Mem N H L w) (hb:Below w.heap.size w w'):Mem N H L w':=
 hm.of_same hb.os hb.tape hb.output λc o ho=>by
   rw[hb.block c (by by_cases q:c<w.heap.size;exact q;rw[Array.getElem?_eq_none (by omega)] at ho;cases ho)]
   exact ho
theorem dig_step {s:Bs} {k:Nat} (h:Ie_ (s.take k)=true) (hk:k<s.length) (hc:(decide (((s.getD k 0).toNat:Int)<48) || decide (57<((s.getD k 0).toNat:Int)))=false):Ie_ (s.take (k+1))=true:=by
 have e:s.take (k+1)=s.take k++[s.getD k 0]:=by
   rw[List.take_add_one,List.getElem?_eq_getElem hk,List.getD_eq_getElem?_getD,List.getElem?_eq_getElem hk];rfl
 rw[e]
 simp only[Bool.or_eq_false_iff,decide_eq_false_iff_not] at hc
 simp only[Ie_,List.all_append,Bool.and_eq_true,List.all_cons,List.all_nil,decide_eq_true_eq,Bool.and_true]
 exact⟨h,by omega,by omega⟩
theorem dig_all {s:Bs} {k:Nat} (h:Ie_ (s.take k)=true) (hk:s.length<=k):Ie_ s=true:=by
 rwa [List.take_of_length_le hk] at h
end Go.SW
namespace Go.SW.V
open Go.SW
theorem Sb_:RiOk ⟨0,[]⟩:=⟨Nat.zero_le _,λ_ h=>by cases h⟩
theorem plen05:plen [119,111,114,107,32,52,10,103,105,118,101,32,49,10,108,97,98,101,108,32,108,111,119,32,48,32,53,49,50,32,49,10,115,108,111,116,32,108,111,119]=true:=by decide +kernel
theorem rput_ne {x:Bc_} {m:Mail} (h:x.total=0\/0<x.kept.length):(Cc_ x m).1.total=0\/0<(Cc_ x m).1.kept.length:=by
 unfold Cc_ lt
 let Q:Bc_×Int->Prop:=λr=>r.1.total=0\/0<r.1.kept.length
 refine bt (P:=Q) (λ_=>h) λ_=>?_
 refine bt (P:=Q) (λ_=>h) λ_=> .inr ?_
 simp only[List.flatten_cons,List.flatten_nil,List.append_nil,List.length_drop,List.length_append,List.length_cons,List.length_nil]
 omega
theorem knew_ok (b n:Int) (h:n<=1000000):StkOk (B4_ b n):=by
 refine⟨⟨by simp[B4_],by simp[B4_],by simp[B4_]⟩,λi hi=>?_,?_,?_⟩
 . have :(B4_ b n).rises.get i=⟨0,[]⟩:=by
     unfold B4_ A16.get
     repeat' split
     all_goals rfl
   rw[this];exact Sb_
 . show 0<=max 0 n
   omega
 . show max 0 n<=1000000
   omega
def poB (p:C_):Bool:=decide (0<p.places.length) && decide (p.places.length<=16) && decide (0<p.slots.length) && decide (p.slots.length<=32) && decide (p.grants.length<=8)&&(p.grants.all λg=>decide (0<=g.frm) && decide (g.frm<p.places.length) && decide (0<=g.to') && decide (g.to'<p.places.length) && decide (0<=g.budget) && decide (g.budget<=16))&&p.places.all λx=>decide (0<=x.bytes) && decide (x.bytes<=65536)
theorem O2_ {p:C_} (h:poB p=true):PoOk p:=by
 simp only[poB,List.all_eq_true,Bool.and_eq_true,decide_eq_true_eq] at h
 obtain⟨⟨⟨⟨⟨⟨h1,h2⟩,h3⟩,h4⟩,h5⟩,h6⟩,h7⟩:=h
 exact⟨h1,h2,h3,h4,h5,λg hg=>by have :=h6 g hg;omega,h7⟩
def ddB (l:List L_):Bool:=l.all λd=>decide (d.bind.key.length<=1000) && decide (d.bind.want.length<=1000) && decide (d.Ab_.head.length<=1000) && decide (d.Ab_.key.length<=1000) && decide (0<=d.Ab_.hops)
theorem ddB_ok {l:List L_} (h:ddB l=true):∀ d∈l,DdOk d/\0<=d.Ab_.hops:=λd hd=>by
 simp only[ddB,List.all_eq_true,Bool.and_eq_true,decide_eq_true_eq] at h
 have :=h d hd
 exact⟨⟨this.1.1.1.1,this.1.1.1.2,this.1.1.2,this.1.2⟩,this.2⟩
theorem dd1 {d:L_} (h:ddB [d]=true):DdOk d:=(ddB_ok h d List.mem_cons_self).1
theorem s23_mem0 (l0:List L_):∀ {l:List L_} {d:L_},Fd_ l0 l=true->d∈l->P1_ d=true
 |[],d,_,hd=>by simp at hd
 |x::l,d,h,hd=>by
   simp only[Fd_] at h
   cases e:P1_ x with
   |false=>rw[e] at h;cases h
   |true=>
     rw[e] at h
     rcases List.mem_cons.1 hd with rfl|q
     . exact e
     . exact s23_mem0 l0 h q
theorem s23_len0 (l0:List L_):∀ {l:List L_},Fd_ l0 l=true->l0.length<=40
 |[],h=>by simp[Fd_] at h;omega
 |x::l,h=>by
   simp only[Fd_] at h
   cases e:P1_ x with
   |false=>rw[e] at h;cases h
   |true=>rw[e] at h;exact s23_len0 l0 h
def DdA (l:List L_):Prop:=(∀ d∈l,DdOk d)/\l.length<=40
theorem l23_dd {l:List L_} (h:Lb_ l=true):DdA l:=⟨λd hd=>by
 have e:=s23_mem0 _ h hd
 have h1:=U7_ d e
 simp only[P1_,Bool.and_eq_true,decide_eq_true_eq] at e
 have h2:=Tf_ _ h1.2.2.2
 refine⟨by omega,by omega,by omega,by omega⟩,s23_len0 _ h⟩
theorem dd_mem {l:List L_} {k:Nat} {d:L_} (h:DdA l) (hd:l[k]? = some d):DdOk d:=h.1 d (List.mem_of_getElem? hd)
theorem at_r (p:C_) (n:Int) (h:0<p.places.length):0<=Ys_ p n/\Ys_ p n<p.places.length:=
 ⟨Int.emod_nonneg _ (by omega),Int.emod_lt_of_pos _ (by omega)⟩
theorem to_eq1:∀ (l:List B0_) (w g:Int) (p:List A3_) (s:List Int) (o:List B0_),Iy_ l w g p s o=⟨w,g,p,s,o++l⟩
 |[],w,g,p,s,o=>by simp[Iy_]
 |x::l,w,g,p,s,o=>by simp[Iy_,to_eq1 l]
theorem to_eq0 (q:C_):∀ (l:List A3_) (w g:Int) (p:List A3_) (s:List Int) (o:List B0_),Ix_ q l w g p s o=⟨w,g,p++l,s++q.slots,o++q.grants⟩
 |[],w,g,p,s,o=>by simp[Ix_,to_eq1]
 |x::l,w,g,p,s,o=>by simp[Ix_,to_eq0 q l]
theorem to_eq (p:C_):S4_ p=p:=by simp[S4_,to_eq0]
theorem chk1 (y:A3_):∀ l:List A3_,LoP (λ_=>True) (λr:Int=>r≠0) (G5_ y l)
 |[]=>trivial
 |x::l=>by
   unfold G5_
   exact bt (P:=LoP _ _) (λ_=>by show (9:Int)≠0;decide) λ_=>chk1 y l
theorem chk4 (y:B0_):∀ l:List B0_,LoP (λ_=>True) (λr:Int=>r≠0) (G6_ y l)
 |[]=>trivial
 |x::l=>by
   unfold G6_
   exact bt (P:=LoP _ _) (λ_=>by show (9:Int)≠0;decide) λ_=>chk4 y l
theorem lp0Z {σ:Type} {I:Prop} {o:Lo Unit Int} {f:Int} (h:lp0 o f (λr=>r)=0) (ho:LoP (λ_=>I) (λr:Int=>r≠0) o):I/\f=0:=by
 cases o with
 |fin u=>exact⟨ho,h⟩
 |ret r=>exact absurd h ho
theorem LoP.imp {σ ρ:Type} {I J:σ->Prop} {R:ρ->Prop} {o:Lo σ ρ} (h:LoP I R o) (k:∀ s,I s->J s):LoP J R o:=by
 cases o with
 |fin s=>exact k s h
 |ret r=>exact h
theorem chk3 (p:C_):∀ (l:List B0_) (k:Nat),Gf_ p l k=0->∀ g∈l,0<=g.frm/\g.frm<p.places.length/\0<=g.to'/\g.to'<p.places.length/\0<=g.budget/\g.budget<=16
 |[],_,_,_,h=>by cases h
 |x::l,k,h,g,hg=>by
   unfold Gf_ at h
   obtain ⟨hx,h2⟩:=lp0Z (σ:=Unit) (I:=0<=x.frm/\x.frm<p.places.length/\0<=x.to'/\x.to'<p.places.length/\0<=x.budget/\x.budget<=16) h (by
     refine bt (P:=LoP _ _) (λ_=>by show (10:Int)≠0;decide) λe=>?_
     refine bt (P:=LoP _ _) (λ_=>by show (11:Int)≠0;decide) λ_=>?_
     refine bt (P:=LoP _ _) (λ_=>by show (7:Int)≠0;decide) λe2=>?_
     simp only[Bool.or_eq_false_iff,decide_eq_false_iff_not] at e e2
     exact (chk4 x _).imp λ_ _=>⟨by omega,by omega,by omega,by omega,by omega,by omega⟩)
   rcases List.mem_cons.1 hg with rfl|q
   . exact hx
   . exact chk3 p l (k+1) h2 g q
theorem chk2 (p:C_):∀ l:List Int,Fu_ p l=0->p.grants.length<=8/\Gf_ p p.grants 0=0
 |[],h=>by
   unfold Fu_ at h
   cases e:decide (8<(p.grants.length:Int)) with
   |true=>rw[e] at h;cases h
   |false=>rw[e] at h;simp only[decide_eq_false_iff_not] at e;exact⟨by omega,h⟩
 |x::l,h=>by
   unfold Fu_ at h
   cases e:(decide (x<0) || decide ((p.places.length:Int)<=x)) with
   |true=>rw[e] at h;cases h
   |false=>rw[e] at h;exact chk2 p l h
theorem chk0 (p:C_):∀ (l:List A3_) (k:Nat),Ge_ p l k=0->(∀ x∈l,0<=x.bytes/\x.bytes<=65536)/\0<p.slots.length/\p.slots.length<=32/\Fu_ p p.slots=0
 |[],k,h=>by
   unfold Ge_ at h
   cases e:decide ((p.slots.length:Int)=0) with
   |true=>rw[e] at h;cases h
   |false=>
     rw[e] at h
     cases e2:decide (32<(p.slots.length:Int)) with
     |true=>rw[e2] at h;cases h
     |false=>
       rw[e2] at h
       simp only[decide_eq_false_iff_not] at e e2
       exact⟨λ_ hx=>by (cases hx),by omega,by omega,h⟩
 |x::l,k,h=>by
   unfold Ge_ at h
   obtain ⟨hx,h2⟩:=lp0Z (σ:=Unit) (I:=0<=x.bytes/\x.bytes<=65536) h (by
     refine bt (P:=LoP _ _) (λe=>?_) λ_=>?_
     . show Ez_ x.name≠0
       simpa using e
     refine bt (P:=LoP _ _) (λ_=>by show (7:Int)≠0;decide) λe=>?_
     simp only[Bool.or_eq_false_iff,decide_eq_false_iff_not] at e
     exact (chk1 x _).imp λ_ _=>⟨by omega,by omega⟩)
   obtain⟨h3,h4⟩:=chk0 p l (k+1) h2
   exact⟨λy hy=>by rcases List.mem_cons.1 hy with rfl|q;exact hx;exact h3 y q,h4⟩
theorem l05_ok {p:C_} (h:L7_ p=true):PoOk p:=by
 simp only[L7_,Bool.and_eq_true,decide_eq_true_eq,to_eq] at h
 have h1:=h.2
 unfold N3_ at h1
 cases e0:(decide (p.work<1) || decide (16<p.work) || decide (p.give<1) || decide (16<p.give)) with
 |true=>rw[e0] at h1;cases h1
 |false=>
   rw[e0] at h1
   cases e1:decide ((p.places.length:Int)=0) with
   |true=>rw[e1] at h1;cases h1
   |false=>
     rw[e1] at h1
     cases e2:decide (16<(p.places.length:Int)) with
     |true=>rw[e2] at h1;cases h1
     |false=>
       rw[e2] at h1
       simp only[decide_eq_false_iff_not] at e1 e2
       obtain⟨a1,a2,a3,a4⟩:=chk0 p p.places 0 h1
       obtain⟨b1,b2⟩:=chk2 p p.slots a4
       exact⟨by omega,by omega,a2,a3,b1,chk3 p p.grants 0 b2,a1⟩
theorem l05_may {p:C_} (h:L7_ p=true):PoOk p/\0<p.places.length/\p.places.length<=16/\0<p.slots.length/\p.slots.length<=32/\p.grants.length<=8:=by
 have q:=l05_ok h
 obtain⟨h1,h2,h3,h4,h5,_⟩:=id q
 exact⟨q,h1,h2,h3,h4,h5⟩
theorem l23_ddl {l:List L_} (h:Lb_ l=true):DdA l/\l.length<=40:=⟨l23_dd h,(l23_dd h).2⟩
variable {P:Program} {n:Nat} {N:Rest} {H0:Env} {all rest:List Oper} {Q:Qs} {ks:List Kt} {fF:Nat->PV} {fL:Nat->Blk} {T ty d:Nat} {pos:String} {af:Array Edge} {x y z:Operand} {K:St->Prop}
noncomputable def allH (H:Hp) (L:Ls):Hp:=λb=>open Classical in if h:∃ o i,L i=some (b,o) then some h.choose else H b
theorem allH_own {N:Rest} {H:Hp} {L:Ls} {w:World} (hm:Mem N H L w) {i b:Nat} {o:Obj} (h:L i=some (b,o)):allH H L b=some o:=by
 have he:∃ o i,L i=some (b,o):=⟨o,i,h⟩
 unfold allH
 rw[dif_pos he]
 obtain⟨j,hj⟩:=he.choose_spec
 have :=hm.ll i j b o _ h hj
 subst this
 rw[h] at hj
 cases hj
 simp
theorem allH_le {N:Rest} {H:Hp} {L:Ls} {w:World} (hm:Mem N H L w):HLe H (allH H L):=λb o h=>by
 unfold allH
 split
 . rename_i he
   obtain⟨o',i,hi⟩:=he
   have :=(hm.nl i b o' hi).2
   rw[h] at this;cases this
 . exact h
theorem mem_lend {N:Rest} {H:Hp} {L:Ls} {w:World} (hm:Mem N H L w):Mem N (allH H L) (λ_=>none) w:=by
 refine⟨hm.os,hm.tape,hm.output,hm.n,λb o h=>?_,(λ_ _ _ h=>by cases h),λb o h=>?_,(λ_ _ _ h=>by cases h),(λ_ _ _ _ _ h=>by cases h)⟩
 . unfold allH at h
   split at h
   . rename_i he
     cases h
     obtain⟨j,hj⟩:=he.choose_spec
     exact hm.l _ _ _ hj
   . exact hm.h b o h
 . unfold allH
   split
   . rename_i he
     obtain⟨o',i,hi⟩:=he
     have :=(hm.nl i b o' hi).1
     rw[h] at this;cases this
   . exact hm.nh b o h
theorem mem_lent {N:Rest} {H H':Hp} {L:Ls} {w w':World} (hm:Mem N H L w) (hl:HLe (allH H L) H') (hm':Mem N H' (λ_=>none) w'):Mem N H L w':=
 ⟨hm'.os,hm'.tape,hm'.output,hm'.n,λb o h=>hm'.h b o (hl b o (allH_le hm b o h)),λi b o h=>hm'.h b o (hl b o (allH_own hm h)),hm.nh,hm.nl,hm.ll⟩
inductive LentL (sL:Nat->Blk):List PV->List PV->Prop
 |nil:LentL sL [] []
 |same (p:PV) {ps qs:List PV} (h:LentL sL ps qs):LentL sL (p::ps) (p::qs)
 |lend (j:Nat) {α:Type} {u:Value} {k e:Nat} {enc:α->List PV} {xs:List α} {ps qs:List PV} (hj:sL j = .arr u k e enc xs) (h:LentL sL ps qs):LentL sL (.usl u::ps) (.sl enc xs::qs)
 |agg {ps qs rs ss:List PV} (h1:LentL sL ps qs) (h:LentL sL rs ss):LentL sL (.agg ps::rs) (.agg qs::ss)
theorem LentL.sims {sL:Nat->Blk} {H H':Hp} {L:Ls} (hl:HLe H H') (ho:∀ i b o,L i=some (b,o)->H' b=some o) (hb:∀ i,SimB sL H (sL i) (L i)) {ps qs:List PV} (h:LentL sL ps qs):∀ {vs:List Value},Sims H ps vs->Sims H' qs vs:=by
 induction h with
 |nil=>intro vs hs;cases hs.inv_nil;exact Sims.nil
 |same p _ ih=>
   intro vs hs
   obtain⟨v,us,rfl,h1,h2⟩:=hs.inv_cons
   exact (ih h2).cons (h1.mono hl)
 |lend j hj _ ih=>
   intro vs hs
   obtain⟨v,us,rfl,h1,h2⟩:=hs.inv_cons
   have e:=h1.inv_usl.1
   subst e
   have hi:=hb j
   rw[hj] at hi
   obtain⟨cs,h3,h4,h5⟩:=hi
   exact (ih h2).cons (Sim.of_slh (slh_ownE Ki_ h3 (h4.mono N5_ hl) λb o q=>ho j b o q) h5)
 |agg _ _ ih1 ih=>
   intro vs hs
   obtain⟨v,us,rfl,h1,h2⟩:=hs.inv_cons
   obtain⟨zs,rfl,h3⟩:=h1.inv_agg
   exact (ih h2).cons (Sim.toAgg (ih1 h3))
theorem Xw_ {f:FuncId} {args args':List PV} {res:PV} {as0:Array Operand} {ats:Array TypeId} (h:Fn P H0.g f args' res) (hf:res.flat=true) (ha:argsP fF x as0.toList=some (f,args)) (hl:LentL fL args args') (hd:Nat.blt d n=true)
   (k:res.wf->K ⟨updp fF d res,fL⟩):E1 P n N H0 all ⟨some d, .call ⟨.value x,as0,ats⟩,ty,pos,af,none⟩ none ⟨fF,fL⟩ K:=by
 intro F H L hab a w hA hm
 obtain⟨vs,h1,h2⟩:=Is_ (ats:=ats) hab.f ha h.cb
 have hle:=allH_le hm
 have hs:=hl.sims hle (λi b o q=>allH_own hm q) hab.l h1
 rw[if_pos (by simp[Region.wanted])]
 unfold Oper.wp
 rw[hA.eval,h2]
 refine (h.run N (allH H L) _ w vs (H0.g.mono _ _ hle hab.g) hs (mem_lend hm)).mono λe' w' ⟨v,H',he,hv,hl',hm'⟩=>?_
 subst he
 exact⟨_,H,L,hA.put (by simpa using hd) v,mem_lent hm hl' hm', .refl H,λ_ _=>rfl,_,hab.put d (Sim.simT (Sim.flat_any hf hv) h.no),k hv.wf⟩
end Go.SW.V
namespace Go.SW.V
open Go.SW
variable {P:Program} {N:Rest} {H0:Env} {s:St} {T T' ty:TypeId} {x:Operand}
theorem qnilN {q:Array (String×TypeId)} (hx:evP s.F x = .val .nilIface) (hT:P.underlying T=some (.interface q)):Qy P N H0 s (.binOp .neq T x (.const .nilIface) T') ty (.bool false):=λF H L ha=>by
 have h1:=Do_ ha.f x
 unfold Ok1 at h1
 rw[hx] at h1
 have h2:=h1.sim.inv_val
 have h:∀ d w,(Op.equalIn (d+1) T .nilIface .nilIface).run P w = .ok true w:=λd w=>by simp[Op.equalIn,run_underlying hT]
 exact⟨_,Sim.bool,λ_ _ _=>Gk_ (b:= .nilIface) h2 rfl (λw=>by simp[eqGuard]) λw=>by simp[binOp,Mx_ (h · w)]⟩
theorem qfA {cs ps:List PV} {fs:Array Field} {f:Field} {i k:Nat} (hx:evP s.F x = .agg cs) (hT:P.underlying T=some (.struct fs)) (hf:fs[i]? = some f) (ha:Ag P f.type true) (hz:Sz P f.type k) (hc:(cs.drop f.offset).take k=ps):Qy P N H0 s (.field T x i) ty (.agg ps):=λF H L hab=>by
 have h1:=Do_ hab.f x
 unfold Ok1 at h1
 rw[hx] at h1
 obtain⟨vs,hv,hs⟩:=h1.sim.inv_agg
 refine⟨.agg ((vs.drop f.offset).take k).toArray,hc ▸ Sim.toAgg ((hs.drop f.offset).take k),λH' L' _ d pos af g w _=>?_⟩
 have :=ha w
 have :=hz w
 simp[execOp,hv,Instr.field,run_underlying hT,hf,part,asAgg, *]
theorem inv_fn0 {H:Hp} {f:FuncId} {v:Value} (h:Sim H (.fn f [] []) v):v = .func (.func f) #[] #[]:=by
 obtain⟨vs,us,rfl,h1,h2⟩:=h.inv_fn
 cases h1.inv_nil;cases h2.inv_nil
 rfl
end Go.SW.V
namespace Go.SW.V
open Go.SW
def Kh_ (s:Bs):(List Bs):=
 (flds s)
def Jh_ (n:Int) (least:Int) (most:Int):Int:=
 (bif decide (n<least) then
 15
 else (bif decide (most<n) then
 6
 else 0))
def K0_ (y:A3_) (x1:A3_):Bool:=
 ((decide (y.name=x1.name))||(decide (y.label=x1.label)))
def Kz_ (y:B0_) (x1:B0_):Bool:=
 ((decide (y.frm=x1.frm))&&(decide (y.to'=x1.to')))
def Nq_ (s:List Int) (v:Int):Bool:=
 lt (idxP (λy=>decide (v=y)) s) λr=>
 (decide (0<=r))
def K7_:List Int->Int
 |[]=>0
 | x::t=>(bif !decide (x=0) then
 x
 else K7_ t)
def Xr_ (vals:List Int):Int:=
 K7_ vals
def Jl_ (a:Cq_):Bool:=
 (decide (a.level<=15))
def Ei_ (s:Bs) (most:Int):Nat->Nat->Int->Int×Int
 |0,_,_=>default
 | f2+1,k1,n1=>(bif decide ((k1:Int)<(s.length:Int)) then
 (bif ((decide (((s.getD k1 0).toNat:Int)<48))||(decide (57<((s.getD k1 0).toNat:Int)))) then
 ((k1:Int),n1)
 else (bif decide (n1<=most) then
 Ei_ s most f2 (k1+1) ((10*n1)+(IntKind.wrap .u8 (((s.getD k1 0).toNat:Int)-48)))
 else Ei_ s most f2 (k1+1) n1))
 else ((k1:Int),n1))
def Ep_ (s:Bs) (most:Int):Int×Bs×Int:=
 (lt2 (Ei_ s most (s.length-0+1) 0 0) (λk n=>
 (bif ((decide (k=0))&&(decide ((s.length:Int)=0))) then
 (0,[],3)
 else (lt1 ((bif decide (k=0) then
 (decide (k=0))
 else ((decide (1<k))&&(decide (((s.getD 0 0).toNat:Int)=48))))) (λv=>
 (bif v then
 (0,[],4)
 else (bif decide (most<n) then
 (0,[],7)
 else (n,(s.drop (k).toNat),0))))))))
theorem plen_w {s l:Bs} {r:List Bs} (h:plen s=true) (hr:Kh_ l=r) (hz:l.length<=65536/\(flds l).length<=65536/\∀ w∈flds l,0<w.length/\w.length<=19):∀ w∈r,0<w.length/\w.length<=19:=by
 subst hr;exact hz.2.2
theorem there_in {p:C_} {i:Int} (h:B1_ p i=true):0<=i/\i<p.places.length:=by
 simp only[B1_,D8_,Bool.and_eq_true,decide_eq_true_eq] at h
 omega
theorem wrap8_r (z:Int):0<=IntKind.wrap .u8 z/\IntKind.wrap .u8 z<=255:=Kv_ .u8 z
theorem lnum_l (s:Bs) (most:Int):∀ (f k:Nat) (n:Int),0<=n->0<=(Ei_ s most f k n).2
 |0,_,_,_=>by simp[Ei_,default]
 |f+1,k,n,hn=>by
   unfold Ei_
   let Q:Int×Int->Prop:=λr=>0<=r.2
   refine bt (P:=Q) (λ_=>?_) λ_=>hn
   refine bt (P:=Q) (λ_=>hn) λ_=>?_
   refine bt (P:=Q) (λ_=>lnum_l s most f _ _ ?_) λ_=>lnum_l s most f _ _ hn
   have :=(wrap8_r (((s.getD k 0).toNat:Int)-48)).1
   omega
theorem lnum_r (s:Bs) (most:Int) (hm:0<=most/\most<=1000):0<=(Ep_ s most).1/\(Ep_ s most).1<=1000/\(Ep_ s most).2.1.length<=s.length:=by
 unfold Ep_
 have h:=lnum_l s most (s.length-0+1) 0 0 (Int.le_refl _)
 generalize Ei_ s most (s.length-0+1) 0 0=q at h ⊢
 obtain⟨k,n⟩:=q
 let Q:Int×Bs×Int->Prop:=λr=>0<=r.1/\r.1<=1000/\r.2.1.length<=s.length
 have hno:∀ e:Int,Q (0,[],e):=λe=>⟨Int.le_refl _,by show (0:Int)<=1000;decide,Nat.zero_le _⟩
 show Q (bif _ then _ else _)
 refine bt (P:=Q) (λ_=>hno _) λ_=>?_
 refine lt1E (P:=Q) (λ_=>True) trivial λv _=>?_
 refine bt (P:=Q) (λ_=>hno _) λ_=>?_
 refine bt (P:=Q) (λ_=>hno _) λe=>?_
 simp only[decide_eq_false_iff_not] at e
 exact⟨h,by show n<=1000;omega,by show (s.drop _).length<=_;rw[List.length_drop];omega⟩
def Kg_ (x:A3_) (ahead:List A3_):Int:=
 (bif !decide ((Ez_ x.name)=0) then
 (Ez_ x.name)
 else (lt1 ((bif !(Jl_ x.label) then
 (!(Jl_ x.label))
 else (bif !(D8_ x.bytes 0 65536) then
 (!(D8_ x.bytes 0 65536))
 else (decide (x.base=0))))) (λv=>
 (bif v then
 7
 else (bif decide (0<=idxP (λz_28:A3_=>(K0_ z_28 x)) ahead) then
 9
 else 0)))))
def Gl_ (p:C_) (x:B0_) (ahead:List B0_):Int:=
 (bif !(B1_ p x.frm) then
 10
 else (bif !(B1_ p x.to') then
 10
 else (bif (Hr_ ((gt p.places ((x.frm).toNat)).label) ((gt p.places ((x.to').toNat)).label)) then
 11
 else (bif !(D8_ x.budget 0 16) then
 7
 else (bif decide (0<=idxP (λz_32:B0_=>(Kz_ z_32 x)) ahead) then
 9
 else 0)))))
def Gc_ (p:C_):Nat->Int->Nat->Int
 |0,_,_=>default
 | f2+1,e_1,i=>(bif ((decide (e_1=0))&&(decide ((i:Int)<(p.places.length:Int)))) then
 Gc_ p f2 (Kg_ (gt p.places i) (p.places.take i)) (i+1)
 else e_1)
def Fa_ (p:C_):Int:=
 lt (Jh_ (p.places.length:Int) 1 16) λr=>
 Gc_ p (p.places.length+1-0+1) r 0
def Fi_ (p:C_):Nat->Int->Nat->Int
 |0,_,_=>default
 | f2+1,e_1,i=>(bif ((decide (e_1=0))&&(decide ((i:Int)<(p.slots.length:Int)))) then
 (bif !(B1_ p (gt p.slots i)) then
 Fi_ p f2 10 (i+1)
 else Fi_ p f2 e_1 (i+1))
 else e_1)
def Fk_ (p:C_):Int:=
 lt (Jh_ (p.slots.length:Int) 1 32) λr=>
 Fi_ p (p.slots.length+1-0+1) r 0
def Gb_ (p:C_):Nat->Int->Nat->Int
 |0,_,_=>default
 | f2+1,e_1,i=>(bif ((decide (e_1=0))&&(decide ((i:Int)<(p.grants.length:Int)))) then
 Gb_ p f2 (Gl_ p (gt p.grants i) (p.grants.take i)) (i+1)
 else e_1)
def E9_ (p:C_):Int:=
 lt (Jh_ (p.grants.length:Int) 0 8) λr=>
 Gb_ p (p.grants.length+1-0+1) r 0
def D4_ (p:C_):List A3_->Nat->Int
 |[],k=>0
 | x::t,k=>(bif !(Nq_ p.slots (k:Int)) then
 15
 else D4_ p t (k+1))
def Ht_ (p:C_):Int:=
 (bif ((!(D8_ p.work 1 16))||(!(D8_ p.give 1 16))) then
 7
 else (bif !decide ((Xr_ [(Fa_ p),(Fk_ p),(E9_ p)])=0) then
 (Xr_ [(Fa_ p),(Fk_ p),(E9_ p)])
 else D4_ p p.places 0))
def Fz_ (s:Bs) (most:Int):List UInt8->Int×Int
 | []=>(bif decide (most<(dec s:Int)) then
 (0,7)
 else ((dec s:Int),0))
 | x::t=>(bif ((decide ((x.toNat:Int)<48))||(decide (57<(x.toNat:Int)))) then
 (0,4)
 else Fz_ s most t)
def Ip_ (s:Bs) (most:Int):Int×Int:=
 (bif ((decide (s=[]))||((decide (1<(s.length:Int)))&&(decide (((s.getD 0 0).toNat:Int)=48)))) then
 (0,4)
 else Fz_ s most s)
def Fs_ (s:Bs):Int×Int:=
 lt (Ip_ s 1048576) λr=>
 ((IntKind.wrap .i64 r.1),r.2)
def Bq_ (p:C_) (s:Bs):Int×Int:=
 lt (T_ p s) λr=>
 (bif decide (0<=r) then
 (r,0)
 else (0,10))
def I2_:Nat->Bs->Int->Cq_->Cq_×Int
 |0,_,_,_=>default
 | f2+1,s1,last,x=>(bif decide (0<(s1.length:Int)) then
 (bif !decide (((s1.getD 0 0).toNat:Int)=58) then
 ((⟨0,0⟩:Cq_),4)
 else lt (Ep_ (s1.drop 1) 31) λr1=>
 (bif !decide (r1.2.2=0) then
 ((⟨0,0⟩:Cq_),r1.2.2)
 else (bif decide (r1.1<=last) then
 ((⟨0,0⟩:Cq_),4)
 else I2_ f2 r1.2.1 r1.1 (⟨x.level,(IntKind.wrap .u32 ((BitVec.ofInt (IntKind.bits .u32) x.Z7_ |||BitVec.ofInt (IntKind.bits .u32) (IntKind.wrap .u32 (1*2 ^ (min (r1.1:Int).toNat (IntKind.bits .u32))))).toNat))⟩:Cq_))))
 else (x,0))
def G1_ (s:Bs):Cq_×Int:=
 lt (Ep_ s 15) λr=>
 (bif !decide (r.2.2=0) then
 ((⟨0,0⟩:Cq_),r.2.2)
 else I2_ (r.2.1.length+1) r.2.1 (-1) (⟨(IntKind.wrap .u8 r.1),0⟩:Cq_))
def Bx_:List Bs->Nat->Int->Int->List A3_->List Int->List B0_->C_×Int×Int
 |[],k,work,give_,places,slots,grants=>lt (Ht_ (⟨work,give_,places,slots,grants⟩:C_)) λr16=>
 (bif !decide (r16=0) then
 ((⟨0,0,[],[],[]⟩:C_),0,r16)
 else ((⟨work,give_,places,slots,grants⟩:C_),0,0))
 |x::t,k,work,give_,places,slots,grants=>lt (Kh_ x) λr=>
 (bif ((decide ((r.length:Int)=0))||(decide ((((gt r 0).getD 0 0).toNat:Int)=35))) then
 Bx_ t (k+1) work give_ places slots grants
 else (bif decide ((gt r 0)=[108,97,98,101,108]) then
 (bif !decide ((r.length:Int)=5) then
 ((⟨0,0,[],[],[]⟩:C_),((k:Int)+1),4)
 else (bif decide ((gt r 0)=[119,111,114,107]) then
 lt (Fs_ (gt r 1)) λr1=>
 (bif !decide (r1.2=0) then
 ((⟨0,0,[],[],[]⟩:C_),((k:Int)+1),r1.2)
 else Bx_ t (k+1) r1.1 give_ places slots grants)
 else (bif decide ((gt r 0)=[103,105,118,101]) then
 lt (Fs_ (gt r 1)) λr2=>
 (bif !decide (r2.2=0) then
 ((⟨0,0,[],[],[]⟩:C_),((k:Int)+1),r2.2)
 else Bx_ t (k+1) work r2.1 places slots grants)
 else (bif decide ((gt r 0)=[115,108,111,116]) then
 lt (Bq_ (⟨work,give_,places,slots,grants⟩:C_) (gt r 1)) λr3=>
 (bif !decide (r3.2=0) then
 ((⟨0,0,[],[],[]⟩:C_),((k:Int)+1),r3.2)
 else Bx_ t (k+1) work give_ places (slots++[r3.1]) grants)
 else lt (G1_ (gt r 2)) λr4=>
 (bif !decide (r4.2=0) then
 ((⟨0,0,[],[],[]⟩:C_),((k:Int)+1),r4.2)
 else lt (Fs_ (gt r 3)) λr5=>
 (bif !decide (r5.2=0) then
 ((⟨0,0,[],[],[]⟩:C_),((k:Int)+1),r5.2)
 else lt (Ip_ (gt r 4) 18446744073709551615) λr6=>
 (bif !decide (r6.2=0) then
 ((⟨0,0,[],[],[]⟩:C_),((k:Int)+1),r6.2)
 else Bx_ t (k+1) work give_ (places++[(⟨(gt r 1),r4.1,r5.1,r6.1⟩:A3_)]) slots grants)))))))
 else (bif decide ((gt r 0)=[103,114,97,110,116]) then
 (bif !decide ((r.length:Int)=4) then
 ((⟨0,0,[],[],[]⟩:C_),((k:Int)+1),4)
 else (bif decide ((gt r 0)=[119,111,114,107]) then
 lt (Fs_ (gt r 1)) λr7=>
 (bif !decide (r7.2=0) then
 ((⟨0,0,[],[],[]⟩:C_),((k:Int)+1),r7.2)
 else Bx_ t (k+1) r7.1 give_ places slots grants)
 else (bif decide ((gt r 0)=[103,105,118,101]) then
 lt (Fs_ (gt r 1)) λr8=>
 (bif !decide (r8.2=0) then
 ((⟨0,0,[],[],[]⟩:C_),((k:Int)+1),r8.2)
 else Bx_ t (k+1) work r8.1 places slots grants)
 else (bif decide ((gt r 0)=[115,108,111,116]) then
 lt (Bq_ (⟨work,give_,places,slots,grants⟩:C_) (gt r 1)) λr9=>
 (bif !decide (r9.2=0) then
 ((⟨0,0,[],[],[]⟩:C_),((k:Int)+1),r9.2)
 else Bx_ t (k+1) work give_ places (slots++[r9.1]) grants)
 else lt (Bq_ (⟨work,give_,places,slots,grants⟩:C_) (gt r 1)) λr10=>
 (bif !decide (r10.2=0) then
 ((⟨0,0,[],[],[]⟩:C_),((k:Int)+1),r10.2)
 else lt (Bq_ (⟨work,give_,places,slots,grants⟩:C_) (gt r 2)) λr11=>
 (bif !decide (r11.2=0) then
 ((⟨0,0,[],[],[]⟩:C_),((k:Int)+1),r11.2)
 else lt (Fs_ (gt r 3)) λr12=>
 (bif !decide (r12.2=0) then
 ((⟨0,0,[],[],[]⟩:C_),((k:Int)+1),r12.2)
 else Bx_ t (k+1) work give_ places slots (grants++[(⟨r10.1,r11.1,r12.1⟩:B0_)]))))))))
 else (bif decide ((gt r 0)=[119,111,114,107]) then
 (bif !decide ((r.length:Int)=2) then
 ((⟨0,0,[],[],[]⟩:C_),((k:Int)+1),4)
 else lt (Fs_ (gt r 1)) λr13=>
 (bif !decide (r13.2=0) then
 ((⟨0,0,[],[],[]⟩:C_),((k:Int)+1),r13.2)
 else Bx_ t (k+1) r13.1 give_ places slots grants))
 else (bif decide ((gt r 0)=[103,105,118,101]) then
 (bif !decide ((r.length:Int)=2) then
 ((⟨0,0,[],[],[]⟩:C_),((k:Int)+1),4)
 else lt (Fs_ (gt r 1)) λr14=>
 (bif !decide (r14.2=0) then
 ((⟨0,0,[],[],[]⟩:C_),((k:Int)+1),r14.2)
 else Bx_ t (k+1) work r14.1 places slots grants))
 else (bif decide ((gt r 0)=[115,108,111,116]) then
 (bif !decide ((r.length:Int)=2) then
 ((⟨0,0,[],[],[]⟩:C_),((k:Int)+1),4)
 else lt (Bq_ (⟨work,give_,places,slots,grants⟩:C_) (gt r 1)) λr15=>
 (bif !decide (r15.2=0) then
 ((⟨0,0,[],[],[]⟩:C_),((k:Int)+1),r15.2)
 else Bx_ t (k+1) work give_ places (slots++[r15.1]) grants))
 else ((⟨0,0,[],[],[]⟩:C_),((k:Int)+1),4)))))))
def Jg_ (s:Bs):C_×Int×Int:=
 Bx_ (cuts 10 s) 0 0 0 [] [] []
end Go.SW.V
