/-
  A part of the proof of PurgeComes: What a store's parts are kept to: few rows, few messages, few notes; hops of at most 4. (Plain.)
-/
import Derived.Test.YtlemlalknchmcaaGreatDoorPurgeComesP2
import Derived.Test.YtlemlalknchmcaaGreatDoorPurgeComesP1
import Derived.Test.YtlemlalknchmcaaGreatDoorProg
import Derived.KernelRfl
import Derived.Shelf.LaysM
import Derived.Shelf.Strings.Split
import Derived.Shelf.Strings.Repeat
set_option linter.unusedVariables false
set_option linter.unusedSimpArgs false
set_option maxRecDepth 100000
set_option maxHeartbeats 4000000
open Go.Proofs.Tryz
namespace Go.SW
def MlOk (m:Mail):Prop:=m.head.length<=8/\0<=m.hops/\m.hops<=4/\m.key.length<=64
def Rising (l:List Aw_):Prop:=(l.map λx=>x.A8_.id).Pairwise (· < ·)
def LnOk (l:Bc_):Prop:=l.items.length<=64/\(∀ x∈l.items,MlOk x.A8_)/\Rising l.items
def RiOk (x:J4_):Prop:=x.kept.length<=16/\∀ m∈x.kept,m.head.length<=8
def RwsOk (l:List Me_):Prop:=l.length<=8/\(∀ r∈l,LnOk r.l)/\(l.map (·.q.name)).Nodup
def Oo_ (s:Y_):Prop:=RwsOk s.rows/\(∀ i,i<16->RiOk (s.rises.get i))/\0<=s.bytes/\s.bytes<=1000000
def BkOk (b:Bf_):Prop:=b.Br_.length<=8/\b.binds.length<=32/\∀ y∈b.binds,y.key.length<=1000
def PoOk (p:A_):Prop:=0<p.places.length/\p.places.length<=16/\0<p.slots.length/\p.slots.length<=32/\p.grants.length<=8/\(∀ g∈p.grants,0<=g.frm/\g.frm<p.places.length/\0<=g.to'/\g.to'<p.places.length/\0<=g.budget/\g.budget<=16)/\∀ x∈p.places,0<=x.bytes/\x.bytes<=65536
def PrOk (x:Md_):Prop:=BkOk x.book/\Oo_ x.B_/\x.notes.kept.length<=32/\∀ i,i<8->0<=(x.spent.get i).count/\(x.spent.get i).count<=16
def StOk (s:Gz_):Prop:=PrOk s.x/\PoOk s.Z_/\0<=s.place/\s.place<s.Z_.places.length
end Go.SW
namespace Go.SW.V
open Go.SW
def Ht_ (b:Bf_) (x:Bs_):Bf_×Int:=
 (bif !decide ((shopE x)=0) then
 (b,shopE x)
 else (bif (((Hv_ b.Br_ x.name).isSome)&&(decide (x=((Hv_ b.Br_ x.name).getD Bs_.zero)))) then
 (b,0)
 else (bif (Hv_ b.Br_ x.name).isSome then
 (b,9)
 else (bif decide (8<=(b.Br_.length:Int)) then
 (b,12)
 else ((⟨[b.Br_,[x]].flatten,b.binds⟩:Bf_),0)))))
def Dy_ (b:Bf_) (x:Bp_):Int:=
 (idxP (λz_4:Bp_=>decide (x=z_4)) b.binds)
def Hr_ (b:Bf_) (x:Bp_):Bf_×Int:=
 (bif !((Hv_ b.Br_ x.D5_).isSome) then
 (b,10)
 else (bif decide ((((Hv_ b.Br_ x.D5_).getD Bs_.zero).sort)=4) then
 (b,8)
 else (bif !decide ((Dt_ x.to')=0) then
 (b,Dt_ x.to')
 else (bif !decide ((ruleE (Mi_ x (((Hv_ b.Br_ x.D5_).getD Bs_.zero).sort)))=0) then
 (b,ruleE (Mi_ x (((Hv_ b.Br_ x.D5_).getD Bs_.zero).sort)))
 else lt (Dy_ b x) λr=>
 (bif decide (0<=r) then
 (b,0)
 else (bif decide (32<=(b.binds.length:Int)) then
 (b,12)
 else ((⟨b.Br_,[b.binds,[x]].flatten⟩:Bf_),0)))))))
def Ap_ (n:Int) (least:Int) (most:Int):Bool:=
 ((decide (least<=n))&&(decide (n<=most)))
def Bt_ (a:An_) (b:An_):Bool:=
 ((decide (a.level<=b.level))&&(decide ((IntKind.wrap .u32 ((BitVec.ofInt (IntKind.bits .u32) a.Fq_ &&& ~~~ BitVec.ofInt (IntKind.bits .u32) b.Fq_).toNat))=0)))
def L_ (p:A_) (i:Int):Bool:=
 (Ap_ i 0 ((p.places.length:Int)-1))
def B9_ (x:U_) (x1:Int) (x2:Int):Bool:=
 ((decide (x.frm=x1))&&(decide (x.to'=x2)))
def Hm_ (m:Mail):Mail:=
 m
def Fh_ (m:Mail):Int:=
 ((Qh_ m).length:Int)
def Cj_ (x:Aw_):Aw_:=
 lt (Hm_ x.A8_) λr=>
 (⟨r,x.P6_,x.again⟩:Aw_)
def S1_ (x0:Mail):Bool:=
 true
def S2_ (x:Aw_) (x1:Int):Bool:=
 (decide (x.A8_.id=x1))
def Jh_ (l:Bc_):Int:=
 (l.items.length:Int)
def N4_ (m:Mail) (x1:Int):Bool:=
 ((!decide (m.due=0))&&(decide (m.due<=x1)))
def Hg_ (x:Aw_):Bool:=
 ((!x.P6_)&&(S1_ x.A8_))
def Gh_ (x:Aw_) (x1:Int):Bool:=
 ((!x.P6_)&&(N4_ x.A8_ x1))
def Ak_ (p:A_) (from_:Int) (to_:Int):Bool:=
 ((((!decide (from_=to_))&&(L_ p from_))&&(L_ p to_))&&(Bt_ ((gt p.places ((from_).toNat)).label) ((gt p.places ((to_).toNat)).label)))
def A1_ (p:A_) (from_:Int) (to_:Int):Int:=
 (idxP (λz_5:U_=>(B9_ z_5 from_ to_)) p.grants)
def Eb_ (n:Dv_) (x:J3_):Dv_×Int:=
 (bif decide (64<(x.text.length:Int)) then
 (n,5)
 else (bif decide (n.total=18446744073709551615) then
 (n,18)
 else ((⟨(IntKind.wrap .u64 (n.total+1)),(([n.kept,[x]].flatten).drop ((max 0 ((([n.kept,[x]].flatten).length:Int)-32))).toNat)⟩:Dv_),0)))
def F4_ (l:Bc_) (id:Int):Int:=
 (idxP (λz_4:Aw_=>(S2_ z_4 id)) l.items)
def Hf_ (l:Bc_) (m:Mail):Int:=
 (bif !decide ((Lq_ m)=0) then
 (Lq_ m)
 else (bif ((decide (0<(l.items.length:Int)))&&(decide (m.id<=((gt l.items ((((l.items.length:Int)-1)).toNat)).A8_.id)))) then
 13
 else (bif decide (64<=(l.items.length:Int)) then
 12
 else 0)))
def Ez_ (l:Bc_):Int:=
 (idxP (λz_4:Aw_=>(Hg_ z_4)) l.items)
def Hh_ (l:Bc_) (so:Int):Int:=
 (idxP (λz_4:Aw_=>(Gh_ z_4 so)) l.items)
end Go.SW.V
namespace Go.SW.V
open Go.SW
end Go.SW.V
namespace Go.SW.V
open Go.SW
def Ji_ (l:Bc_) (x:Aw_):Bc_×Int:=
 lt (Hf_ l x.A8_) λr=>
 (bif !decide (r=0) then
 (l,r)
 else lt (Cj_ x) λr1=>
 ((⟨[l.items,[r1]].flatten⟩:Bc_),0))
def Jg_ (l:Bc_) (m:Mail):Bc_×Int:=
 lt (Ji_ l (⟨m,false,false⟩:Aw_)) λr=>
 (r.1,r.2)
def Dx_ (l:Bc_) (id:Int):Bc_×Aw_×Int:=
 lt (F4_ l id) λr=>
 (bif decide (r<0) then
 (l,(⟨(⟨0,[],[],[],[],0,0⟩:Mail),false,false⟩:Aw_),10)
 else lt (Cj_ (gt l.items ((r).toNat))) λr1=>
 ((⟨[(l.items.take (r).toNat),(l.items.drop ((r+1)).toNat)].flatten⟩:Bc_),r1,0))
def Ey_ (l:Bc_) (k:Int):Mail×Bool:=
 (bif decide (k<0) then
 ((⟨0,[],[],[],[],0,0⟩:Mail),false)
 else lt (Hm_ ((gt l.items ((k).toNat)).A8_)) λr=>
 (r,true))
def C7_:List Aw_->Int->Int
 |[],n=>n
 |x::t,n=>lt (Fh_ (x.A8_)) λr=>
 C7_ t (n+r)
def Ia_ (l:Bc_):Int:=
 C7_ l.items 0
def H9_ (l:Bc_):Bc_×Aw_×Bool:=
 lt (Ez_ l) λr=>
 (bif decide (r<0) then
 (l,(⟨(⟨0,[],[],[],[],0,0⟩:Mail),false,false⟩:Aw_),false)
 else lt (Cj_ (gt (l.items.set ((r).toNat) (⟨(gt l.items ((r).toNat)).A8_,true,(gt l.items ((r).toNat)).again⟩:Aw_)) ((r).toNat))) λr1=>
 ((⟨(l.items.set ((r).toNat) (⟨(gt l.items ((r).toNat)).A8_,true,(gt l.items ((r).toNat)).again⟩:Aw_))⟩:Bc_),r1,true))
def H7_ (l:Bc_) (id:Int):Bc_×Int:=
 lt (F4_ l id) λr=>
 (bif decide (r<0) then
 (l,10)
 else (bif !((gt l.items ((r).toNat)).P6_) then
 (l,13)
 else ((⟨((l.items.set ((r).toNat) (⟨(gt l.items ((r).toNat)).A8_,false,(gt l.items ((r).toNat)).again⟩:Aw_)).set ((r).toNat) (⟨(gt (l.items.set ((r).toNat) (⟨(gt l.items ((r).toNat)).A8_,false,(gt l.items ((r).toNat)).again⟩:Aw_)) ((r).toNat)).A8_,(gt (l.items.set ((r).toNat) (⟨(gt l.items ((r).toNat)).A8_,false,(gt l.items ((r).toNat)).again⟩:Aw_)) ((r).toNat)).P6_,true⟩:Aw_))⟩:Bc_),0)))
def B1_:List Aw_->Nat->Bc_->Bc_
 |[],k,x=>x
 | x1::t,k,x=>(bif x1.P6_ then
 B1_ t (k+1) (⟨((x.items.set k (⟨(gt x.items k).A8_,false,(gt x.items k).again⟩:Aw_)).set k (⟨(gt (x.items.set k (⟨(gt x.items k).A8_,false,(gt x.items k).again⟩:Aw_)) k).A8_,(gt (x.items.set k (⟨(gt x.items k).A8_,false,(gt x.items k).again⟩:Aw_)) k).P6_,true⟩:Aw_))⟩:Bc_)
 else B1_ t (k+1) x)
def Ib_ (l:Bc_):Bc_:=
 B1_ l.items 0 l
def He_ (l:Bc_):Mail×Bool:=
 lt (Ey_ l (Ez_ l)) λr=>
 (r.1,r.2)
def H8_ (l:Bc_) (tick:Int):Mail×Bool:=
 lt (Ey_ l (Hh_ l tick)) λr=>
 (r.1,r.2)
def Ju_ (x:J4_) (m:Mail):J4_×Int:=
 (bif !decide ((Lq_ m)=0) then
 (x,Lq_ m)
 else (bif decide (x.total=18446744073709551615) then
 (x,18)
 else lt (Hm_ m) λr=>
 ((⟨(IntKind.wrap .u64 (x.total+1)),(([x.kept,[r]].flatten).drop ((max 0 ((([x.kept,[r]].flatten).length:Int)-16))).toNat)⟩:J4_),0)))
def Di_:List Mail->Int->Int
 |[],n=>n
 |x1::t,n=>lt (Fh_ x1) λr=>
 Di_ t (n+r)
def C3_ (x:J4_):Int:=
 Di_ x.kept 0
def F2_ (q:Cs_):Int:=
 (bif !decide ((Dt_ q.name)=0) then
 (Dt_ q.name)
 else (bif ((decide (q.most<1))||(decide (64<q.most))) then
 7
 else (bif !decide (q.dead=[]) then
 (Dt_ q.dead)
 else 0)))
def Ru_ (x:Me_) (x1:Bs):Bool:=
 (decide (x.q.name=x1))
def A5_ (s:Y_) (name:Bs):Int:=
 (idxP (λz_4:Me_=>(Ru_ z_4 name)) s.rows)
theorem bt {α:Type} {b:Bool} {x y:α} {P:α->Prop} (h1:b=true->P x) (h2:b=false->P y):P (bif b then x else y):=by
 cases b
 exact h2 Y;exact h1 Y
theorem Uy_ {α:Type} [Inhabited α] {xs:List α} {k:Nat} (h:k<xs.length):gt xs k∈xs:=List.mem_of_getElem? (getG h)
def Gm_ (s:Y_) (q:Cs_):Y_×Int:=
 lt (F2_ q) λr=>
 (bif !decide (r=0) then
 (s,r)
 else lt (A5_ s q.name) λr1=>
 (bif ((decide (0<=r1))&&(decide ((gt s.rows ((r1).toNat)).q=q))) then
 (s,0)
 else (bif decide (0<=r1) then
 (s,9)
 else (bif decide (8<=(s.rows.length:Int)) then
 (s,12)
 else ((⟨s.next,s.bytes,[s.rows,[(⟨q,(⟨[]⟩:Bc_)⟩:Me_)]].flatten,s.rises⟩:Y_),0)))))
def Gk_ (s:Y_) (name:Bs):Y_×Int:=
 lt (A5_ s name) λr=>
 (bif decide (r<0) then
 (s,10)
 else ((⟨s.next,s.bytes,[(s.rows.take (r).toNat),(s.rows.drop ((r+1)).toNat)].flatten,s.rises⟩:Y_),0))
def A4_ (s:Y_) (k:Int) (l:Bc_):Y_:=
 (⟨s.next,s.bytes,(s.rows.set ((k).toNat) (⟨(gt s.rows ((k).toNat)).q,l⟩:Me_)),s.rises⟩:Y_)
def Cp_ (s:Y_):Nat->Int->Nat->Int
 |0,_,_=>default
 | f2+1,n1,v=>(bif decide ((v:Int)<16) then
 lt (C3_ (A16.get s.rises v)) λr1=>
 Cp_ s f2 (n1+r1) (v+1)
 else n1)
def Co_ (s:Y_):List Me_->Int->Int
 |[],n=>Cp_ s (16-0+1) n 0
 |x::t,n=>lt (Ia_ (x.l)) λr=>
 Co_ s t (n+r)
def D1_ (s:Y_):Int:=
 Co_ s s.rows 0
end Go.SW.V
namespace Go.SW.V
open Go.SW
def Gn_ (s:Y_):Int:=
 (s.bytes-(D1_ s))
def Cn_ (s:Y_) (name:Bs) (m:Mail):Y_×Int×Mail×Int:=
 lt (A5_ s name) λr=>
 (bif decide (r<0) then
 (s,0,(⟨0,[],[],[],[],0,0⟩:Mail),10)
 else (bif !decide ((Lq_ m)=0) then
 (s,0,(⟨0,[],[],[],[],0,0⟩:Mail),Lq_ m)
 else (bif decide (s.next = 0) then
 (s,0,(⟨0,[],[],[],[],0,0⟩:Mail),18)
 else (lp2 ((bif decide (((gt s.rows ((r).toNat)).q.most)<=(IntKind.wrap .u64 (Jh_ ((gt s.rows ((r).toNat)).l)))) then
 lt (He_ ((gt s.rows ((r).toNat)).l)) λr1=>
 (bif !r1.2 then
 .ret (s,0,(⟨0,[],[],[],[],0,0⟩:Mail),12)
 else lt (Dx_ ((gt s.rows ((r).toNat)).l) r1.1.id) λr2=>
 .fin (r2.1,r1.1))
 else .fin ((gt s.rows ((r).toNat)).l,(⟨0,[],[],[],[],0,0⟩:Mail)))) (λx x1=>
 (bif decide (((Gn_ s)+(Fh_ x1))<(Fh_ (⟨s.next,m.D5_,m.key,m.head,m.body,m.due,m.hops⟩:Mail))) then
 (s,0,(⟨0,[],[],[],[],0,0⟩:Mail),12)
 else lt (Jg_ x (⟨s.next,m.D5_,m.key,m.head,m.body,m.due,m.hops⟩:Mail)) λr3=>
 (bif !decide (r3.2=0) then
 (s,0,(⟨0,[],[],[],[],0,0⟩:Mail),r3.2)
 else lt (A4_ s r r3.1) λr4=>
 ((⟨(IntKind.wrap .u64 (r4.next + 1)),r4.bytes,r4.rows,r4.rises⟩:Y_),s.next,x1,0)))) (λr=>r)))))
def D0_ (s:Y_) (name:Bs):Y_×Aw_×Bool:=
 lt (A5_ s name) λr=>
 (bif decide (r<0) then
 (s,(⟨(⟨0,[],[],[],[],0,0⟩:Mail),false,false⟩:Aw_),false)
 else lt (H9_ ((gt s.rows ((r).toNat)).l)) λr1=>
 lt (A4_ s r r1.1) λr2=>
 (r2,r1.2.1,r1.2.2))
def Dz_ (s:Y_) (name:Bs) (id:Int):Y_×Int:=
 lt (A5_ s name) λr=>
 (bif decide (r<0) then
 (s,10)
 else lt (H7_ ((gt s.rows ((r).toNat)).l) id) λr1=>
 lt (A4_ s r r1.1) λr2=>
 (r2,r1.2))
def Bx_ (s:Y_) (name:Bs) (id:Int):Y_×Aw_×Int:=
 lt (A5_ s name) λr=>
 (bif decide (r<0) then
 (s,(⟨(⟨0,[],[],[],[],0,0⟩:Mail),false,false⟩:Aw_),10)
 else lt (Dx_ ((gt s.rows ((r).toNat)).l) id) λr1=>
 lt (A4_ s r r1.1) λr2=>
 (r2,r1.2.1,r1.2.2))
def Dj_ (s:Y_) (place:Int) (m:Mail):Y_×Int:=
 (bif ((decide (place<0))||(decide (16<=place))) then
 (s,7)
 else lt (Ju_ (A16.get s.rises ((place).toNat)) m) λr=>
 (bif !decide (r.2=0) then
 (s,r.2)
 else (bif decide (s.bytes<(((D1_ s)-(C3_ (A16.get s.rises ((place).toNat))))+(C3_ (r.1)))) then
 (s,12)
 else ((⟨s.next,s.bytes,s.rows,(A16.set s.rises (r.1) ((place).toNat))⟩:Y_),0))))
def Cm_ (tick:Int):List Me_->Bs×Mail×Bool
 |[]=>([],(⟨0,[],[],[],[],0,0⟩:Mail),false)
 |x::t=>lt (H8_ (x.l) tick) λr=>
 (bif r.2 then
 (x.q.name,r.1,true)
 else Cm_ tick t)
def Gl_ (s:Y_) (tick:Int):Bs×Mail×Bool:=
 Cm_ tick s.rows
def Cq_:List Me_->Nat->Y_->Y_
 |[],k,x=>x
 |x1::t,k,x=>lt (Ib_ (x1.l)) λr=>
 lt (A4_ x (k:Int) r) λr1=>
 Cq_ t (k+1) r1
def D2_ (s:Y_):Y_:=
 Cq_ s.rows 0 s
def LoP {σ ρ:Type} (I:σ->Prop) (R:ρ->Prop):Lo σ ρ->Prop
 | .fin s=>I s
 | .ret r=>R r
def Bv_ (so_p:Bp_->Bool):List Bp_->List Bp_->(List Bp_)
 |[],out=>out
 | x::t,out=>(bif so_p x then
 Bv_ so_p t (out++[x])
 else Bv_ so_p t out)
def Eh_ (b:Bf_) (so_p:Bp_->Bool):(List Bp_):=
 Bv_ so_p b.binds []
def J5_ (x:Bp_) (x1:Bs):Bool:=
 (x.up||(!decide (x.to'=x1)))
def F0_ (b:Bf_) (queue:Bs):Bf_:=
 lt (Eh_ b (λz_5:Bp_=>(J5_ z_5 queue))) λr=>
 (⟨b.Br_,r⟩:Bf_)
def C4_ (x:Bs_) (x1:Bs):Bool:=
 (decide (x.name=x1))
def Ny_ (x:Bp_) (x1:Bs):Bool:=
 (!decide (x.D5_=x1))
def Hs_ (b:Bf_) (name:Bs):Bf_×Int:=
 (bif decide ((idxP (λz_5:Bs_=>(C4_ z_5 name)) b.Br_)<0) then
 (b,10)
 else lt (Eh_ (⟨[(b.Br_.take (idxP (λz_5:Bs_=>(C4_ z_5 name)) b.Br_).toNat),(b.Br_.drop (((idxP (λz_5:Bs_=>(C4_ z_5 name)) b.Br_)+1)).toNat)].flatten,b.binds⟩:Bf_) (λz_18:Bp_=>(Ny_ z_18 name))) λr=>
 ((⟨[(b.Br_.take (idxP (λz_5:Bs_=>(C4_ z_5 name)) b.Br_).toNat),(b.Br_.drop (((idxP (λz_5:Bs_=>(C4_ z_5 name)) b.Br_)+1)).toNat)].flatten,r⟩:Bf_),0))
def F1_ (b:Bf_) (x:Bp_):Bf_×Int:=
 lt (Dy_ b x) λr=>
 (bif decide (r<0) then
 (b,10)
 else ((⟨b.Br_,[(b.binds.take (r).toNat),(b.binds.drop ((r+1)).toNat)].flatten⟩:Bf_),0))
def Rv_ (own:Int) (tick:Int) (life:Int):Int:=
 (bif ((decide (life=0))||(decide ((IntKind.wrap .u64 (18446744073709551615-tick))<life))) then
 own
 else (bif decide (own=0) then
 (IntKind.wrap .u64 (tick+life))
 else (min own (IntKind.wrap .u64 (tick+life)))))
end Go.SW.V
namespace Go.SW.V
open Go.SW
section
variable {gone more:List OutR} {lost:Int} {x y:Gz_} {f:Nat} {m:Mail} {e:Int}
end
instance {σ ρ:Type} [Inhabited ρ]:Inhabited (Lo σ ρ):=⟨.ret default⟩
theorem has_fd (a:An_) (i:Int) (h:0<=a.Fq_):0<=a.Fq_.fdiv (2 ^ min i.toNat IntKind.u32.bits):=
 Int.fdiv_nonneg h (Int.le_of_lt (Int.pow_pos xQ))
theorem poOk_l {p:A_} (h:PoOk p):p.places.length<=100000/\p.slots.length<=100000/\p.grants.length<=100000:=by
 obtain⟨_,h2,_,h4,h5,_⟩:=h;omega
def B7_ (a:An_) (i:Int):Bool:=
 (decide (((Int.fdiv a.Fq_ (2 ^ (min (i:Int).toNat (IntKind.bits .u32))))%2)=1))
def A9_ (a:An_) (b:An_):Nat->Nat->Bool
 |0,_=>default
 | f2+1,i=>(bif decide ((i:Int)<32) then
 (bif ((B7_ a (i:Int))&&(!(B7_ b (i:Int)))) then
 false
 else A9_ a b f2 (i+1))
 else true)
def Cl_ (a:An_) (b:An_):Bool:=
 (bif decide (b.level<a.level) then
 false
 else A9_ a b (32-0+1) 0)
def Aq_ (y:Ad_):List Ad_->Lo Unit Int
 |[]=> .fin ()
 | x::t=>(bif ((decide ((x.name)=(y.name)))||(decide (x.label=y.label))) then
 .ret 9
 else Aq_ y t)
def Ar_ (y1:U_):List U_->Lo Unit Int
 |[]=> .fin ()
 | x1::t1=>(bif ((decide ((x1.frm)=(y1.frm)))&&(decide ((x1.to')=(y1.to')))) then
 .ret 9
 else Ar_ y1 t1)
def Ba_ (i:Nat):List Int->Bool->Lo Unit Int
 | [],has=>(bif !has then
 .ret 15
 else .fin ())
 |x2::t2,has=>Ba_ i t2 (has||(decide (x2=(i:Int))))
def C1_ (p:A_):Nat->Nat->Int
 |0,_=>default
 | f2+1,i=>(bif decide ((i:Int)<(p.places.length:Int)) then
 (lp0 (Ba_ i p.slots false) (
 C1_ p f2 (i+1)) (λr=>r))
 else 0)
def Ah_ (p:A_):List U_->Nat->Int
 |[],k3=>C1_ p (p.places.length-0+1) 0
 | x3::t3,k3=>(lp0 ((bif ((((decide ((x3.frm)<0))||(decide ((p.places.length:Int)<=(x3.frm))))||(decide ((x3.to')<0)))||(decide ((p.places.length:Int)<=(x3.to')))) then
 .ret 10
 else (bif (Cl_ ((gt p.places ((x3.frm).toNat)).label) ((gt p.places ((x3.to').toNat)).label)) then
 .ret 11
 else (bif ((decide ((x3.budget)<0))||(decide (16<(x3.budget)))) then
 .ret 7
 else Ar_ x3 (p.grants.take k3))))) (
 Ah_ p t3 (k3+1)) (λr=>r))
def Ab_ (p:A_):List Int->Int
 | []=>(bif decide (8<(p.grants.length:Int)) then
 6
 else Ah_ p p.grants 0)
 | x4::t4=>(bif ((decide (x4<0))||(decide ((p.places.length:Int)<=x4))) then
 10
 else Ab_ p t4)
def Ag_ (p:A_):List Ad_->Nat->Int
 | [],k=>(bif decide ((p.slots.length:Int)=0) then
 15
 else (bif decide (32<(p.slots.length:Int)) then
 6
 else Ab_ p p.slots))
 | x5::t5,k=>(lp0 ((bif !decide ((Dt_ (x5.name))=0) then
 .ret (Dt_ (x5.name))
 else (bif ((((decide (15<(x5.label.level)))||(decide ((x5.bytes)<0)))||(decide (65536<(x5.bytes))))||(decide ((x5.base)=0))) then
 .ret 7
 else Aq_ x5 (p.places.take k)))) (
 Ag_ p t5 (k+1)) (λr=>r))
def Ef_ (p:A_):Int:=
 (bif ((((decide (p.work<1))||(decide (16<p.work)))||(decide (p.give<1)))||(decide (16<p.give))) then
 7
 else (bif decide ((p.places.length:Int)=0) then
 15
 else (bif decide (16<(p.places.length:Int)) then
 6
 else Ag_ p p.places 0)))
def A7_:List Ad_->Bool
 |[]=>true
 | x::t=>(bif decide (40<((x.name).length:Int)) then
 false
 else A7_ t)
def C6_ (p:A_):Bool:=
 (bif (((decide (20<(p.places.length:Int)))||(decide (40<(p.slots.length:Int))))||(decide (10<(p.grants.length:Int)))) then
 false
 else A7_ p.places)
def Bh_:List U_->Int->Int->List Ad_->List Int->List U_->A_
 |[],work1,give_1,places1,slots1,grants1=>(⟨work1,give_1,places1,slots1,grants1⟩:A_)
 |x::t,work1,give_1,places1,slots1,grants1=>Bh_ t work1 give_1 places1 slots1 (grants1++[x])
def Bg_ (p:A_):List Ad_->Int->Int->List Ad_->List Int->List U_->A_
 |[],work,give_,places,slots,grants=>Bh_ p.grants work give_ places (slots++p.slots) grants
 |x1::t1,work,give_,places,slots,grants=>Bg_ p t1 work give_ (places++[x1]) slots grants
def Fe_ (p:A_):A_:=
 Bg_ p p.places p.work p.give [] [] []
theorem P1_ {p:A_} (h:C6_ p=true):p.places.length<=100000/\p.slots.length<=100000/\p.grants.length<=100000:=by
 unfold C6_ at h
 cases e:(decide (20<(p.places.length:Int)) || decide (40<(p.slots.length:Int)) || decide (10<(p.grants.length:Int))) with
 |true=>rw[e] at h;cases h
 |false=>
   simp only[Bool.or_eq_false_iff,decide_eq_false_iff_not] at e
   omega
def E8_ (p:A_):Bool:=
 ((C6_ p)&&(decide ((Ef_ (Fe_ p))=0)))
theorem U9_:∀ (l:List U_) (w g:Int) (p:List Ad_) (s:List Int) (o:List U_),Bh_ l w g p s o=⟨w,g,p,s,o++l⟩
 |[],w,g,p,s,o=>by simp[Bh_]
 |x::l,w,g,p,s,o=>by simp[Bh_,U9_ l]
theorem U8_ (q:A_):∀ (l:List Ad_) (w g:Int) (p:List Ad_) (s:List Int) (o:List U_),Bg_ q l w g p s o=⟨w,g,p++l,s++q.slots,o++q.grants⟩
 |[],w,g,p,s,o=>by simp[Bg_,U9_]
 |x::l,w,g,p,s,o=>by simp[Bg_,U8_ q l]
theorem to_eq (p:A_):Fe_ p=p:=by simp[Fe_,U8_]
theorem chk1 (y:Ad_):∀ l:List Ad_,LoP (λ_=>True) (λr:Int=>r≠0) (Aq_ y l)
 |[]=>trivial
 |x::l=>by
   unfold Aq_
   exact bt (P:=LoP _ _) (λ_=>by show (9:Int)≠0;decide) λ_=>chk1 y l
theorem chk4 (y:U_):∀ l:List U_,LoP (λ_=>True) (λr:Int=>r≠0) (Ar_ y l)
 |[]=>trivial
 |x::l=>by
   unfold Ar_
   exact bt (P:=LoP _ _) (λ_=>by show (9:Int)≠0;decide) λ_=>chk4 y l
theorem lp0Z {σ:Type} {I:Prop} {o:Lo Unit Int} {f:Int} (h:lp0 o f (λr=>r)=0) (ho:LoP (λ_=>I) (λr:Int=>r≠0) o):I/\f=0:=by
 cases o with
 |fin u=>exact⟨ho,h⟩
 |ret r=>exact absurd h ho
theorem LoP.imp {σ ρ:Type} {I J:σ->Prop} {R:ρ->Prop} {o:Lo σ ρ} (h:LoP I R o) (k:∀ s,I s->J s):LoP J R o:=by
 cases o with
 |fin s=>exact k s h
 |ret r=>exact h
theorem chk3 (p:A_):∀ (l:List U_) (k:Nat),Ah_ p l k=0->∀ g∈l,0<=g.frm/\g.frm<p.places.length/\0<=g.to'/\g.to'<p.places.length/\0<=g.budget/\g.budget<=16
 |[],_,_,_,h=>by cases h
 |x::l,k,h,g,hg=>by
   unfold Ah_ at h
   obtain ⟨hx,h2⟩:=lp0Z (σ:=Unit) (I:=0<=x.frm/\x.frm<p.places.length/\0<=x.to'/\x.to'<p.places.length/\0<=x.budget/\x.budget<=16) h (by
     refine bt (P:=LoP _ _) (λ_=>by show (10:Int)≠0;decide) λe=>?_
     refine bt (P:=LoP _ _) (λ_=>by show (11:Int)≠0;decide) λ_=>?_
     refine bt (P:=LoP _ _) (λ_=>by show (7:Int)≠0;decide) λe2=>?_
     simp only[Bool.or_eq_false_iff,decide_eq_false_iff_not] at e e2
     exact (chk4 x _).imp λ_ _=>⟨by omega,by omega,by omega,by omega,by omega,by omega⟩)
   rcases List.mem_cons.1 hg with rfl|q
   . exact hx
   . exact chk3 p l (k+1) h2 g q
theorem chk2 (p:A_):∀ l:List Int,Ab_ p l=0->p.grants.length<=8/\Ah_ p p.grants 0=0
 |[],h=>by
   unfold Ab_ at h
   cases e:decide (8<(p.grants.length:Int)) with
   |true=>rw[e] at h;cases h
   |false=>rw[e] at h;simp only[decide_eq_false_iff_not] at e;exact⟨by omega,h⟩
 |x::l,h=>by
   unfold Ab_ at h
   cases e:(decide (x<0) || decide ((p.places.length:Int)<=x)) with
   |true=>rw[e] at h;cases h
   |false=>rw[e] at h;exact chk2 p l h
theorem chk0 (p:A_):∀ (l:List Ad_) (k:Nat),Ag_ p l k=0->(∀ x∈l,0<=x.bytes/\x.bytes<=65536)/\0<p.slots.length/\p.slots.length<=32/\Ab_ p p.slots=0
 |[],k,h=>by
   unfold Ag_ at h
   cases e:decide ((p.slots.length:Int)=0) with
   |true=>rw[e] at h;cases h
   |false=>
     rw[e] at h
     cases e2:decide (32<(p.slots.length:Int)) with
     |true=>rw[e2] at h;cases h
     |false=>
       rw[e2] at h
       simp only[decide_eq_false_iff_not] at e e2
       exact⟨λ_ hx=>by (cases hx),by omega,by omega,h⟩
 |x::l,k,h=>by
   unfold Ag_ at h
   obtain ⟨hx,h2⟩:=lp0Z (σ:=Unit) (I:=0<=x.bytes/\x.bytes<=65536) h (by
     refine bt (P:=LoP _ _) (λe=>?_) λ_=>?_
     . show Dt_ x.name≠0
       simpa using e
     refine bt (P:=LoP _ _) (λ_=>by show (7:Int)≠0;decide) λe=>?_
     simp only[Bool.or_eq_false_iff,decide_eq_false_iff_not] at e
     exact (chk1 x _).imp λ_ _=>⟨by omega,by omega⟩)
   obtain⟨h3,h4⟩:=chk0 p l (k+1) h2
   exact⟨λy hy=>by rcases List.mem_cons.1 hy with rfl|q;exact hx;exact h3 y q,h4⟩
theorem l05_ok {p:A_} (h:E8_ p=true):PoOk p:=by
 simp only[E8_,Bool.and_eq_true,decide_eq_true_eq,to_eq] at h;have h1:=h.2;unfold Ef_ at h1
 cases e0:(decide (p.work<1) || decide (16<p.work) || decide (p.give<1) || decide (16<p.give)) with
 |true=>rw[e0] at h1;cases h1
 |false=>
   rw[e0] at h1
   cases e1:decide ((p.places.length:Int)=0) with
   |true=>rw[e1] at h1;cases h1
   |false=>
     rw[e1] at h1
     cases e2:decide (16<(p.places.length:Int)) with
     |true=>rw[e2] at h1;cases h1
     |false=>
       rw[e2] at h1
       simp only[decide_eq_false_iff_not] at e1 e2
       obtain⟨a1,a2,a3,a4⟩:=chk0 p p.places 0 h1
       obtain⟨b1,b2⟩:=chk2 p p.slots a4
       exact⟨by omega,by omega,a2,a3,b1,chk3 p p.grants 0 b2,a1⟩
theorem l05_may {p:A_} (h:E8_ p=true):PoOk p/\0<p.places.length/\p.places.length<=16/\0<p.slots.length/\p.slots.length<=32/\p.grants.length<=8:=by
 have q:=l05_ok h;obtain⟨h1,h2,h3,h4,h5,_⟩:=id q;exact⟨q,h1,h2,h3,h4,h5⟩
variable {P:Program} {n:Nat} {N:Rest} {H0:Env} {all rest:List Oper} {Q:Qs} {ks:List Kt} {fF:Nat->PV} {fL:Nat->Blk} {T ty d:Nat} {pos:String} {af:Array Edge} {x y z:Operand} {K:St->Prop}
end Go.SW.V
namespace Go.SW.V
open Go.SW
variable {P:Program} {N:Rest} {H0:Env} {s:St} {T T' ty:TypeId} {x:Operand}
end Go.SW.V
namespace Go.SW.V
open Go.SW
def Ay_ (s:List Int) (v:Int):Bool:=
 lt (idxP (λy=>decide (v=y)) s) λr=>
 (decide (0<=r))
structure Clo (B:Bf_->Prop) (K:Y_->Prop) (M:Dv_->Prop):Prop where
 ma:∀ {b x},0<=x.sort->B b->B (Ht_ b x).1
 bd:∀ {b x},(∀ p∈x.want,p.wf)->B b->B (Hr_ b x).1
 dp:∀ {b n},B b->B (Hs_ b n).1
 ub:∀ {b x},B b->B (F1_ b x).1
 fg:∀ {b q},B b->B (F0_ b q)
 km:∀ {k q},K k->K (Gm_ k q).1
 kd:∀ {k n},K k->K (Gk_ k n).1
 kp:∀ {k n m},Oo_ k->K k->K (Cn_ k n m).1
 kl:∀ {k n},K k->K (D0_ k n).1
 kr:∀ {k n i},K k->K (Bx_ k n i).1
 kb:∀ {k n i},K k->K (Dz_ k n i).1
 ks:∀ {k p m},K k->K (Dj_ k p m).1
 kw:∀ {k},Oo_ k->K k->K (D2_ k)
 na:∀ {n x},0<=x.kind/\x.kind<=255->M n->M (Eb_ n x).1
def Cl (B:Bf_->Prop) (K:Y_->Prop) (M:Dv_->Prop) (s:Gz_):Prop:=B s.x.book/\K s.x.B_/\M s.x.notes
section
variable {B:Bf_->Prop} {K:Y_->Prop} {M:Dv_->Prop} (C:Clo B K M)
include C
variable {s:Gz_}
omit C in
section
variable {m:Mail} {tick:Int} {r:List Bs×List Bs×Int}
end
section
variable {d:Gy_}
end
end
variable {r r':Bs}
end Go.SW.V
namespace Go.SW.V
open Go.SW
def U64 (t:Int):Prop:=0<=t/\t<=18446744073709551615
structure Clw (T:Int->Prop) (W:Mail->Prop) (K:Y_->Prop) (M:Dv_->Prop):Prop where
 kp:∀ {k n m},Oo_ k->W m->K k->K (Cn_ k n m).1/\W (Cn_ k n m).2.2.1
 kl:∀ {k n},K k->K (D0_ k n).1
 kr:∀ {k n i},K k->K (Bx_ k n i).1/\W (Bx_ k n i).2.1.A8_
 kb:∀ {k n i},K k->K (Dz_ k n i).1
 ks:∀ {k p m},W m->K k->K (Dj_ k p m).1
 kw:∀ {k},Oo_ k->K k->K (D2_ k)
 kt:∀ {k t},K k->W (Gl_ k t).2.1
 na:∀ {n x},T x.tick->0<=x.kind/\x.kind<=255->M n->M (Eb_ n x).1
 wd:∀ {m t l},W m->W ⟨0,m.D5_,m.key,m.head,m.body,Rv_ m.due t l,m.hops⟩
 wr:∀ {m},W m->W ⟨0,m.D5_,m.key,m.head,m.body,m.due,m.hops⟩
 wb:∀ {m s},W m->W ⟨m.id,s,m.key,m.head,m.body,0,IntKind.wrap .u8 (m.hops+1)⟩
 wp:∀ {m},W m->W ⟨m.id,m.D5_,m.key,m.head,m.body,m.due,IntKind.wrap .u8 (m.hops+1)⟩
def Sp (a:A8_SpentR):Prop:=∀ i,i<8->U64 (A8.get a i).round
theorem Sp.all {a:A8_SpentR} (h:Sp a) (k:Nat):U64 (A8.get a k).round:=by
 by_cases q:k<8;exact h k q;obtain⟨n,rfl⟩:∃ n,k=n+8:=⟨_,(Nat.sub_add_cancel xN).symm⟩;exact h 7 xQ
section
variable {T:Int->Prop} {W:Mail->Prop} {K:Y_->Prop} {M:Dv_->Prop} (C:Clw T W K M) {s0 s:Gz_}
include C
omit C in
section
variable {m:Mail} {tick:Int} {r:List Bs×List Bs×Int}
end
section
variable {d:Gy_}
end
end
def Eg_ (p:A_) (from_:Int) (to_:Int):Bool:=
 ((((((!decide (from_=to_))&&(decide (0<=from_)))&&(decide (from_<(p.places.length:Int))))&&(decide (0<=to_)))&&(decide (to_<(p.places.length:Int))))&&(Cl_ ((gt p.places ((from_).toNat)).label) ((gt p.places ((to_).toNat)).label)))
def As_ (from_:Int) (to_:Int):List U_->Nat->Int
 |[],k=>(-1)
 | x::t,k=>(bif ((decide ((x.frm)=from_))&&(decide ((x.to')=to_))) then
 (k:Int)
 else As_ from_ to_ t (k+1))
def Dg_ (p:A_) (from_:Int) (to_:Int):Int:=
 As_ from_ to_ p.grants 0
theorem D7_ (l:List Int) (v:Int):Ay_ l v = decide (v∈l):=by
 have hb:=idxP_b (λy=>decide (v=y)) l;simp only[Ay_,lt];by_cases h:0<=idxP (λy=>decide (v=y)) l;have hg:=getG (xs:=l) (k:=(idxP (λy=>decide (v=y)) l).toNat) xN;have h1:=(Ss_ (p:=λy=>decide (v=y)) xN hg).1;have h2:=List.mem_of_getElem? hg;have h1:v=gt l (idxP (λy=>decide (v=y)) l).toNat:=by simpa using h1
 rw[<- h1] at h2;simp[h,h2];have h1:=St_ (p:=λy=>decide (v=y)) (l:=l) xN;rw[List.find?_eq_none] at h1;have :v∉l:=λhm=>h1 v hm xP;simp[h,this]
structure CI (D:Int->Int->Bool) (n:Nat) (a:Int) (R:List Int) (i k:Nat):Prop where
 hd:a∈R
 nd:R.Nodup
 rg:∀ x∈R,0<=x/\x<n
 ok:∀ x∈R,rch D n a x=true
 cl:∀ j,j<i->∀ b:Int,0<=b->b<n->D (gt R j) b=true->b∈R
 cu:∀ b:Int,0<=b->b<k->D (gt R i) b=true->b∈R
theorem CI.start {D:Int->Int->Bool} {n:Nat} {a:Int} (h0:0<=a) (h1:a<n):CI D n a [a] 0 0:=
 ⟨by simp,by simp,by simpa using ⟨h0,h1⟩,by simpa using Js_ D a n,λj h=>by omega,λb h h'=>by omega⟩
theorem CI.len {D:Int->Int->Bool} {n:Nat} {a:Int} {R:List Int} {i k:Nat} (h:CI D n a R i k):R.length<=n:=Jl_ n R h.nd h.rg
theorem CI.skip {D:Int->Int->Bool} {n:Nat} {a:Int} {R:List Int} {i k:Nat} (h:CI D n a R i k) (q:Ay_ R k=true\/D (gt R i) k=false):CI D n a R i (k+1):=
 ⟨h.hd,h.nd,h.rg,h.ok,h.cl,λb h0 h1 h2=>by
   by_cases e:b=(k:Int)
   . subst e
     rcases q with q|q
     . rw[D7_] at q;simpa using q
     . rw[q] at h2;cases h2
   . exact h.cu b h0 xN h2⟩
theorem Ug_ {R:List Int} {j:Nat} {x:Int} (h:j<R.length):gt (R++[x]) j=gt R j:=by
 simp[gt,List.getD,List.getElem?_append_left h]
theorem CI.push {D:Int->Int->Bool} {n:Nat} {a:Int} {R:List Int} {i k:Nat} (h:CI D n a R i k) (hi:i<R.length) (hk:k<n) (q:Ay_ R k=false) (d:D (gt R i) k=true):CI D n a (R++[(k:Int)]) i (k+1):=by
 rw[D7_] at q;have q:(k:Int)∉R:=by simpa using q
 have hg:gt R i∈R:=List.mem_of_getElem? (getG hi);have hr:=h.rg _ hg;refine⟨by simp[h.hd],?_,?_,?_,?_,?_⟩;refine List.nodup_append.2 ⟨h.nd,by simp,?_⟩;intro x hx y hy e;simp only[List.mem_singleton] at hy;exact q (by rw[<- hy,<- e];exact hx)
 . intro x hx
   rcases List.mem_append.1 hx with e|e
   exact h.rg x e
   simp only[List.mem_singleton] at e;subst e;omega
 . intro x hx
   rcases List.mem_append.1 hx with e|e
   exact h.ok x e
   simp only[List.mem_singleton] at e;subst e;exact Ig_ (h.ok _ hg) hr.1 hr.2 d
 intro j hj b h0 h1 h2;rw[Ug_ xN] at h2;exact List.mem_append_left _ (h.cl j hj b h0 h1 h2);intro b h0 h1 h2;rw[Ug_ hi] at h2;by_cases e:b=(k:Int);simp[e];exact List.mem_append_left _ (h.cu b h0 xN h2)
theorem CI.next {D:Int->Int->Bool} {n:Nat} {a:Int} {R:List Int} {i k:Nat} (h:CI D n a R i k) (hk:n<=k):CI D n a R (i+1) 0:=
 ⟨h.hd,h.nd,h.rg,h.ok,λj hj b h0 h1 h2=>by
   by_cases e:j=i
   . subst e;exact h.cu b h0 xN h2
   . exact h.cl j xN b h0 h1 h2,λb h0 h1=>by omega⟩
theorem CI.fin {D:Int->Int->Bool} {n:Nat} {a b:Int} {R:List Int} {i k:Nat} (h:CI D n a R i k) (hf:R.length=n\/R.length<=i) (hb:(((decide (a<0) || decide ((n:Int)<=a)) || decide (b<0)) || decide ((n:Int)<=b))=false):PV.bool (Ay_ R b)=PV.bool (Cg_ D n a b):=by
 simp only[Bool.or_eq_false_iff,decide_eq_false_iff_not] at hb;have e:Ay_ R b=Cg_ D n a b:=by
   rw[D7_,Bool.eq_iff_iff]
   simp only[Cg_,Bool.and_eq_true,decide_eq_true_eq]
   constructor
   . intro hm;exact⟨by omega,by omega,h.ok b hm⟩
   . rintro⟨_,⟨h0,h1⟩,hr⟩
     rcases hf with hf|hf
     . exact Ql_ n R h.nd h.rg hf b h0 h1
     . exact Rh_ D (· ∈ R) n (λx y hx hy0 hy1 hd=>by
         obtain⟨j,hj⟩:=List.getElem?_of_mem hx
         have hl:j<R.length:=by
           apply Classical.byContradiction;intro hn
           rw[List.getElem?_eq_none xN] at hj;cases hj
         have hg:gt R j=x:=by simp[gt,List.getD,hj]
         exact h.cl j xN y hy0 hy1 (by rw[hg];exact hd)) n (Nat.le_refl n) a b h0 h1 h.hd hr
 rw[e]
theorem CI.out {D:Int->Int->Bool} {n:Nat} {a b:Int} (hb:(((decide (a<0) || decide ((n:Int)<=a)) || decide (b<0)) || decide ((n:Int)<=b))=true):PV.bool false=PV.bool (Cg_ D n a b):=by
 have :Cg_ D n a b=false:=by
   simp only[Bool.or_eq_true,decide_eq_true_eq] at hb
   simp only[Cg_,Bool.and_eq_false_iff,decide_eq_false_iff_not]
   omega
 rw[this]
def T_ (p:A_) (from_:Int) (to_:Int):Bool:=
 (((decide (from_=to_))||(Ak_ p from_ to_))||(decide (0<=(A1_ p from_ to_))))
def M_ (p:A_) (place:Int):List C_->List C_->(List C_)
 |[],out=>out
 | x::t,out=>(bif ((decide ((x.kind)=3))||(Cg_ (T_ p) p.places.length (x.place) place)) then
 M_ p place t (out++[x])
 else M_ p place t out)
def Al_ (p:A_) (place:Int) (l:List C_):(List C_):=
 M_ p place l []
def Au_ (p:A_) (from_:Int) (to_:Int):Bool:=
 ((Eg_ p from_ to_)||(decide (0<=(Dg_ p from_ to_))))
def Ai_ (p:A_) (place:Int):List C_->List C_->(List C_)
 |[],out=>out
 | x::t,out=>(bif ((decide ((x.kind)=3))||(Cg_ (Au_ p) p.places.length (x.place) place)) then
 Ai_ p place t (out++[x])
 else Ai_ p place t out)
def Dh_ (p:A_) (place:Int) (l:List C_):(List C_):=
 Ai_ p place l []
def Aa_:List C_->List C_->(List C_)
 |[],out=>out
 |x::t,out=>Aa_ t (out++[x])
def Bo_ (l:List C_):(List C_):=
 Aa_ l []
theorem Kd_:∀ l out:List C_,Aa_ l out=out++l
 |[],out=>by simp[Aa_]
 |x::t,out=>by rw[Aa_,Kd_ t];simp
theorem Kc_ (l:List C_):Bo_ l=l:=by rw[Bo_,Kd_];rfl
theorem Nz_ (l:List C_):(Bo_ l).length=l.length:=by rw[Kc_]
theorem to_pl (p:A_):(Fe_ p).places.length=p.places.length:=by rw[to_eq]
theorem light_l {l:List C_} (h:Ci_ l=true):l.length<=80:=by
 unfold Ci_ at h;have :∀ t:List C_,Af_ l t=true->l.length<=80:=λt=>by
   induction t with
   |nil=>intro h;simp only[Af_,decide_eq_true_eq] at h;omega
   |cons x t ih=>
     intro h
     simp only[Af_] at h
     cases q:decide (1200<(x.chunk.length:Int)) with
     |true=>rw[q] at h;cases h
     |false=>rw[q] at h;exact ih h
 exact this l h
def R_ (r3:(List C_)):List C_->Nat->Bool
 |[],k=>true
 | x::t,k=>(bif !decide (x=(gt r3 k)) then
 false
 else R_ r3 t (k+1))
def Bi_ (p:A_) (from_:Int) (to_:Int) (l:List C_):Bool:=
 (bif ((!(E8_ p))||(!(Ci_ l))) then
 true
 else lt (Fe_ p) λr=>
 lt (Al_ p to_ l) λr1=>
 lt (Bo_ l) λr2=>
 lt (Dh_ r to_ r2) λr3=>
 (bif ((!((Cg_ (T_ p) p.places.length from_ to_)==(Cg_ (Au_ r) r.places.length from_ to_)))||(!decide ((r1.length:Int)=(r3.length:Int)))) then
 false
 else R_ r3 r1 0))
end Go.SW.V
namespace Go.SW.V
open Go.SW Go.Proofs
abbrev ty9:TI:=⟨.str,1,16,[.str []]⟩
abbrev ty3:TI:=⟨.int .i64,1,8,[.int .i64 0]⟩
abbrev ty5:TI:=⟨.int .u8,1,1,[.int .u8 0]⟩
abbrev ty35:TI:=⟨.slc 72,1,24,[.sl Ad_.pc []]⟩
abbrev ty36:TI:=⟨.slc 3,1,24,[.sl i64c []]⟩
abbrev ty37:TI:=⟨.slc 75,1,24,[.sl U_.pc []]⟩
abbrev ty39:TI:=⟨.agg [(0,1),(1,1),(2,1),(3,1),(4,1)],5,88,[.int .i64 0, .int .i64 0, .sl Ad_.pc [], .sl i64c [], .sl U_.pc []]⟩
abbrev ty68:TI:=⟨.int .u32,1,4,[.int .u32 0]⟩
abbrev ty70:TI:=⟨.agg [(0,1),(1,1)],2,8,[.int .u8 0, .int .u32 0]⟩
abbrev ty75:TI:=⟨.agg [(0,1),(1,1),(2,1)],3,24,[.int .i64 0, .int .i64 0, .int .i64 0]⟩
abbrev ty72:TI:=⟨.agg [(0,1),(1,2),(3,1),(4,1)],5,40,[.str [], .int .u8 0, .int .u32 0, .int .i64 0, .int .u64 0]⟩
abbrev ty28:TI:=⟨.int .u64,1,8,[.int .u64 0]⟩
abbrev ty41:TI:=⟨.slc 73,1,24,[.sl Ad_.pc []]⟩
abbrev ty42:TI:=⟨.slc 76,1,24,[.sl U_.pc []]⟩
abbrev ty44:TI:=⟨.agg [(0,1),(1,1),(2,1),(3,1),(4,1)],5,88,[.int .i64 0, .int .i64 0, .sl Ad_.pc [], .sl i64c [], .sl U_.pc []]⟩
abbrev ty73:TI:=⟨.agg [(0,1),(1,2),(3,1),(4,1)],5,40,[.str [], .int .u8 0, .int .u32 0, .int .i64 0, .int .u64 0]⟩
abbrev ty76:TI:=⟨.agg [(0,1),(1,1),(2,1)],3,24,[.int .i64 0, .int .i64 0, .int .i64 0]⟩
abbrev ty25:TI:=⟨.slc 30,1,24,[.sl C_.pc []]⟩
abbrev ty30:TI:=⟨.agg [(0,1),(1,1),(2,1),(3,1),(4,1),(5,1)],6,56,[.int .u8 0, .int .i64 0, .int .u64 0, .str [], .int .i64 0, .int .i64 0]⟩
abbrev ty4:TI:=⟨.bool,1,1,[.bool false]⟩
abbrev ty78:TI:=⟨.arr,16,16,[.bool false, .bool false, .bool false, .bool false, .bool false, .bool false, .bool false, .bool false, .bool false, .bool false, .bool false, .bool false, .bool false, .bool false, .bool false, .bool false]⟩
abbrev ty27:TI:=⟨.slc 31,1,24,[.sl C_.pc []]⟩
abbrev ty31:TI:=⟨.agg [(0,1),(1,1),(2,1),(3,1),(4,1),(5,1)],6,56,[.int .u8 0, .int .i64 0, .int .u64 0, .str [], .int .i64 0, .int .i64 0]⟩
def tbu:Tb:=[(39,ty39),(3,ty3),(44,ty44),(35,ty35),(36,ty36),(5,ty5),(70,ty70),(41,ty41),(37,ty37),(68,ty68),(9,ty9),(42,ty42),(73,ty73),(76,ty76),(72,ty72),(28,ty28),(25,ty25),(30,ty30),(4,ty4),(27,ty27),(31,ty31),(78,ty78),(75,ty75)]
theorem Bd_:tbB prog tbu=true:=by kernel_rfl
section
variable {n:Nat} {N:Rest} {H0:Env} {all:List Oper} {Q:Qs} {ks:List Kt} {fF:Nat->PV} {fL:Nat->Blk}
theorem kA (k:Nat) {c c':Cf} {ks':List Kt} {F':Nat->PV} {L':Nat->Blk} {az bs:List Nat} (next :Hd prog n N H0 Q c' ks' ⟨F',L'⟩) (h:run tbu n k c ks fF fL [] [] []=some ⟨c',ks',F',L',[],az,bs⟩:=by exact Y) (he:az=bs:=by exact Y):Hd prog n N H0 Q c ks ⟨fF,fL⟩:=gx Bd_ k next h he
theorem kB (k:Nat) (is:List Nat) {c c':Cf} {ks':List Kt} {F':(Nat->Nat)->Nat->PV} {L':(Nat->Nat)->Nat->Blk} {az bs:(Nat->Nat)->List Nat} (next :∀ B:Nat->Nat,Hd prog n N H0 Q c' ks' ⟨F' B,L' B⟩) (h:∀ B,runE tbu n k is B c ks fF fL [] [] []=some ⟨c',ks',F' B,L' B,[],az B,bs B⟩:=by exact λ_=>rfl) (he:∀ B,az B=bs B:=by exact λ_=>rfl):Hd prog n N H0 Q c ks ⟨fF,fL⟩:=gm Bd_ k is next h he
theorem kC (k:Nat) {c c':Cf} {ks':List Kt} {F':Nat->PV} {L':Nat->Blk} {ps:List Prop} {az bs:List Nat} (next :Hd prog n N H0 Q c' ks' ⟨F',L'⟩) (h:run tbu n k c ks fF fL [] [] []=some ⟨c',ks',F',L',ps,az,bs⟩:=by exact Y) (he:az=bs:=by exact Y) (hp:AllP ps:=by repeat' (first|exact Z|refine And.intro ?_ ?_|exact λhc=>hc|exact Y|exact λhc=>rfl|omega|(intro hc;omega)|(intro hc;rw[hc];rfl))):Hd prog n N H0 Q c ks ⟨fF,fL⟩:=gy Bd_ k next h he hp
theorem kD (k:Nat) (is:List Nat) {c c':Cf} {ks':List Kt} {F':(Nat->Nat)->Nat->PV} {L':(Nat->Nat)->Nat->Blk} {ps:(Nat->Nat)->List Prop} {az bs:(Nat->Nat)->List Nat} (next :∀ B:Nat->Nat,Hd prog n N H0 Q c' ks' ⟨F' B,L' B⟩) (h:∀ B,runE tbu n k is B c ks fF fL [] [] []=some ⟨c',ks',F' B,L' B,ps B,az B,bs B⟩:=by exact λ_=>rfl) (he:∀ B,az B=bs B:=by exact λ_=>rfl) (hp:∀ B,AllP (ps B):=by intro B;repeat' (first|exact Z|refine And.intro ?_ ?_|exact λhc=>hc|exact Y|exact λhc=>rfl|omega|(intro hc;omega)|(intro hc;rw[hc];rfl))):Hd prog n N H0 Q c ks ⟨fF,fL⟩:=gmy Bd_ k is next h he hp
theorem kE (order:List Nat) (f:Nat) {xs:Option (List Nat)} {fuel:Nat} {listed:Array Bool} {F':Nat->PV} {L':Nat->Blk} {az bs:List Nat} (next :Hv prog n N H0 Q xs all f (lst listed order) ks ⟨F',L'⟩) (hf:fuel=f+order.length:=by exact Y) (hc:chkV n all order listed=true:=by kernel_rfl) (h:runV tbu xs all order fF fL [] [] []=some ⟨F',L',[],az,bs⟩:=by exact Y) (he:az=bs:=by exact Y):Hv prog n N H0 Q xs all fuel listed ks ⟨fF,fL⟩:=gX Bd_ order f next hf hc h he
theorem kF (order:List Nat) (f:Nat) {xs:Option (List Nat)} {fuel:Nat} {listed:Array Bool} {F':Nat->PV} {L':Nat->Blk} {ps:List Prop} {az bs:List Nat} (next :Hv prog n N H0 Q xs all f (lst listed order) ks ⟨F',L'⟩) (hf:fuel=f+order.length:=by exact Y) (hc:chkV n all order listed=true:=by kernel_rfl) (h:runV tbu xs all order fF fL [] [] []=some ⟨F',L',ps,az,bs⟩:=by exact Y) (he:az=bs:=by exact Y) (hp:AllP ps:=by repeat' (first|exact Z|refine And.intro ?_ ?_|exact λhc=>hc|exact Y|exact λhc=>rfl|omega|(intro hc;omega)|(intro hc;rw[hc];rfl))):Hv prog n N H0 Q xs all fuel listed ks ⟨fF,fL⟩:=gXy Bd_ order f next hf hc h he hp
theorem kG {G:Gb} {m:Nat} {f:FuncId} {fn:Func} {c:Code} {args:List PV} {res:PV} (hf:prog.funcs[f]? = some fn) (hn:fn.ntmps=m) (h:PV.wfs args->∀ N H,G.p H->Hd prog m N ⟨H,G⟩ (rtK tbu fn.results.toList res) (.code c) [] ⟨Py_ args,λ_=> .no⟩) (hb:fn.body=some c:=by exact Y) (hs:Nat.ble args.length m=true:=by exact Y) (h1:(fn.name == "runtime.NumGoroutine")=false:=by kernel_rfl) (h2:fn.body.isNone=false:=by kernel_rfl) (hno:res.noOsl=true:=by exact Y) (hna:A6_ args=true:=by exact Y):Fn prog G f args res:=fC hf Bd_ hn h hb hs h1 h2 hno hna
theorem kI {T ty d:Nat} {rest:List Oper} {pos:String} {af:Array Edge} {x y:Operand} {α:Type} {ti te:TI} {e:TypeId} {enc:α->List PV} {xs:List α} {kk:IntKind} {i:Int} (m:Nat) {a:α} (hm:xs[m]? = some a) (k:(PV.el (enc a) 0).wf->Hd prog n N H0 Q (.ops all rest) ks ⟨updp fF d (.el (enc a) 0),fL⟩) (hx:evP fF x = .sl enc xs:=by exact Y) (hy:evP fF y = .int kk i:=by exact Y) (hi:i=m:=by exact Y) (hti:lkT tbu T=some ti:=by exact Y) (htk:ti.k = .slc e:=by exact Y) (hte:lkT tbu e=some te:=by exact Y) (hsz:te.size=(enc a).length:=by exact Y) (hd:Nat.blt d n=true:=by exact Y):Hd prog n N H0 Q (.ops all (⟨some d, .indexAddr T x y,ty,pos,af,none⟩::rest)) ks ⟨fF,fL⟩:=q1 (qidx Bd_ m hx hy hi hm hti htk hte hsz) hd k
theorem kN (k:Nat) {c:Cf} {ks':List Kt} {F':Nat->PV} {L':Nat->Blk} {az:List Nat} {x:Operand} {y z:Code} {t:Prop} {i:Decidable t} (p:t->Hd prog n N H0 Q (.code y) ks' ⟨F',L'⟩) (q:¬t->Hd prog n N H0 Q (.code z) ks' ⟨F',L'⟩) (h:run tbu n k c ks fF fL [] [] []=some ⟨.code (.cond x y z),ks',F',L',[],az,az⟩:=by exact Y) (hc:evP F' x = .bool (decide t):=by exact Y):Hd prog n N H0 Q c ks ⟨fF,fL⟩:=kA k (cn hc p q) h Y
theorem kM (k:Nat) {c:Cf} {ks':List Kt} {F':Nat->PV} {L':Nat->Blk} {az:List Nat} {x:Operand} {y z:Code} {t:Bool} (p:t=true->Hd prog n N H0 Q (.code y) ks' ⟨F',L'⟩) (q:t=false->Hd prog n N H0 Q (.code z) ks' ⟨F',L'⟩) (h:run tbu n k c ks fF fL [] [] []=some ⟨.code (.cond x y z),ks',F',L',[],az,az⟩:=by exact Y) (hc:evP F' x = .bool t:=by exact Y):Hd prog n N H0 Q c ks ⟨fF,fL⟩:=kA k (cnd hc p q) h Y
theorem kL (k:Nat) {c:Cf} {ks':List Kt} {F':Nat->PV} {L':Nat->Blk} {az:List Nat} {rest:List Oper} {f:FuncId} {args:List PV} {res:PV} {x:Operand} {xs:Array Operand} {ats:Array TypeId} {ty d:Nat} {pos:String} {af:Array Edge} (g:Fn prog H0.g f args res) (h:run tbu n k c ks fF fL [] [] []=some ⟨.ops all (⟨some d, .call ⟨.value x,xs,ats⟩,ty,pos,af,none⟩::rest),ks',F',L',[],az,az⟩) (ha:argsP F' x xs.toList=some (f,args)) (hd:Nat.blt d n=true) (q:res.wf->Hd prog n N H0 Q (.ops all rest) ks' ⟨updp F' d res,L'⟩):Hd prog n N H0 Q c ks ⟨fF,fL⟩:=kA k (call g ha hd q) h Y
theorem kR (k:Nat) {c:Cf} {F':Nat->PV} {L':Nat->Blk} {az as0:List Nat} {rs:List ResultVar} {res p:PV} (q:p=res) (h:run tbu n k c ks fF fL [] [] []=some ⟨.ex .ret,[],F',L',[],az,az⟩:=by exact Y) (hs:Jt_ tbu ⟨F',L'⟩ rs=some ([p],as0,as0):=by exact Y):Hd prog n N H0 (rtK tbu rs res) c ks ⟨fF,fL⟩:=kA k (rt1 hs Y (ple q)) h Y
theorem jA (k:Nat) {c c':Cf} {ks':List Kt} {F':Nat->PV} {L':Nat->Blk} {az:List Nat} (h:run tbu n k c ks fF fL [] [] []=some ⟨c',ks',F',L',[],az,az⟩) (q:Hd prog n N H0 Q c' ks' ⟨F',L'⟩):Hd prog n N H0 Q c ks ⟨fF,fL⟩:=kA k q h Y
end
def gb:Gb:=⟨λH=>GInt H 4/\GTab H 7 laidT/\GStrs H 3 tellsT/\GPow H 1,λH H' hl h=>⟨h.1.mono hl,h.2.1.mono hl,h.2.2.1.mono hl,h.2.2.2.mono hl⟩⟩
theorem gbML {H:Hp} (h:gb.p H):GInt H 4:=h.1
theorem gbCrc {H:Hp} (h:gb.p H):GTab H 7 laidT:=h.2.1
theorem gbTells {H:Hp} (h:gb.p H):GStrs H 3 tellsT:=h.2.2.1
theorem gbPow {H:Hp} (h:gb.p H):GPow H 1:=h.2.2.2
theorem Rg_ (c:Int):Fn prog gb 62 [.int .u8 c] (.bool (letter c)):=by
 refine kG func62 ntmps62 λw N H hG=>?_;refine kC 33 ?_;refine rt1 Y Y (ple ?_);simp[letter, *]
end Go.SW.V
namespace Go.SW
open Go.Proofs
theorem ag115:Ag prog 115 false:=λw=>by kernel_rfl
theorem ag9:Ag prog 9 false:=λw=>by kernel_rfl
theorem cb104:Ac_ prog 104:=Cf_ func104 xO xO
theorem Li_:Fld prog 118 0 0:=λb o w=>by kernel_rfl
theorem P3_:liesAt prog prog.depth 118 (2/prog.cellsOf 118) 0 118 1=true:=by kernel_rfl
theorem ne143:NoEsc prog 143:=M9_ func143 xO xO xO xO
theorem sz115:Sz prog 115 1:=λw=>by kernel_rfl
theorem sz9:Sz prog 9 1:=λw=>by kernel_rfl
theorem ti118:∃ j,prog.info? 118=some j:=Option.isSome_iff_exists.1 xO
theorem tz118:∃ j,prog.info? 118=some j/\j.size≠0:=exInfo xO
set_option maxRecDepth 100000 in
theorem copyCheck {n:Nat} {N:Rest} {F:Fr} {H:Hp} {L:Ls} {ops:List Oper} {ty d:Nat} {pos:String} {af:Array Edge} {K:Fr->Hp->Ls->Prop} {x:Operand} {ats:Array TypeId} {b:Nat} {p v:Value} (i:Nat) (hx:ev F x = .pointer (some ⟨b,0,none⟩)) (hi:L i=some (b,bx 118 [p,v]))
   (hp:p = .pointer none\/p = .pointer (some ⟨b,0,none⟩)) (hd:Nat.blt d n=true) (k:K (upd F d (.tuple #[])) H (lupd L i (some (b,bx 118 [.pointer (some ⟨b,0,none⟩),v])))):Op1 prog n N ops ⟨some d, .call ⟨.value (.func 104),#[x],ats⟩,ty,pos,af,none⟩ K F H L:=by
 refine Qx_ (en_f (vs:=[.pointer (some ⟨b,0,none⟩)]) cb104 (by simp[evs,hx])) func104 rfl ntmps104 rfl hd (At_ (P_ (ol rfl (B2_ (v:= .pointer (some ⟨_,_,none⟩)) rfl) (ol rfl (Ae_ rfl) (ol rfl (W_ rfl Li_) ?_)))));refine ol Y (Bj_ (i:=i) (v:=p) Y ag115 hi Y) ?_
 rcases hp with rfl|rfl
 refine ol Y (lo_pnil Y Y underlying115) (A3_ (Az_ (J9_ Y Y (P_ (ol Y (B2_ (v:= .pointer (some ⟨_,_,none⟩)) Y) ?_)))));refine ol Y (B2_ (v:= .pointer (some ⟨_,_,none⟩)) Y) (ol Y (Hk_ (i:=i) Y hi Y underlying115 underlying225 (tz118).choose_spec.1 (tz118).choose_spec.2) (ol Y (S3_ (v:= .pointer (some ⟨_,_,none⟩)) ne143 Y) (ol Y (Fg_ (i:=i) Y hi underlying225 underlying115 (ti118).choose_spec P3_) (ol Y (Ae_ Y) (ol Y (W_ Y Li_) ?_)))));refine ow1 (De_ (i:=i) (v:= .pointer (some ⟨_,_,none⟩)) Y Y Y sz115 hi Y ?_);refine A3_ ?_;exact fnK_n (res0 Y) (.refl _) k
 . refine ol Y (N8_ Y Y underlying115) (A3_ (Az_ (G3_ Y Y (At_ (P_ ?_)))))
   refine ol Y (B2_ (v:= .pointer (some ⟨_,_,none⟩)) Y) (ol Y (Ae_ Y) (ol Y (W_ Y Li_) (ol Y (Bj_ (i:=i) (v:= .pointer (some ⟨b,0,none⟩)) Y ag115 hi Y) (ol Y (B2_ (v:= .pointer (some ⟨_,_,none⟩)) Y) (ol Y (Lo_ Y Y underlying115 (ti118).choose_spec) ?_)))))
   refine A3_ (Az_ (G3_ Y Y (G4_ (fnK_n (res0 Y) (.refl _) ?_))))
   rwa [M8_ hi] at k
theorem sz5:Sz prog 5 1:=λw=>by kernel_rfl
theorem ag116:Ag prog 116 false:=λw=>by kernel_rfl
theorem ag237:Ag prog 237 true:=λw=>by kernel_rfl
theorem by5:By prog 5 1:=by_of xO
theorem cb220:Ac_ prog 220:=Cf_ func220 xO xO
theorem cb69:Ac_ prog 69:=Cf_ func69 xO xO
theorem co5:prog.cellsOf 5=1:=by kernel_rfl
theorem I9_:Fld prog 118 1 1:=λb o w=>by kernel_rfl
theorem Pn_:Fld prog 237 0 0:=λb o w=>by kernel_rfl
theorem mixd:prog.follows .mixedOrders=true:=by kernel_rfl
theorem sz116:Sz prog 116 1:=λw=>by kernel_rfl
theorem sz237:Sz prog 237 2:=λw=>by kernel_rfl
theorem zr118:Zr prog 118 [.pointer none, .slice none 0 0]:=λw=>⟨.agg #[.pointer none, .slice none 0 0],by kernel_rfl,rfl⟩
theorem zr237:Zr prog 237 [str [], .int .i64 0]:=λw=>⟨.agg #[str [], .int .i64 0],by kernel_rfl,rfl⟩
theorem zr5:Zr prog 5 [.int .u8 0]:=λw=>⟨.int .u8 0,by kernel_rfl,rfl⟩
theorem zx5:∃ z,∀ w,(zeroValue 5).run prog w = .ok z w:=⟨.int .u8 0,λw=>by kernel_rfl⟩
theorem out_Num (H:Hp) (o:Out) (n:Int) (n_r:0<=n/\n<=18446744073709551615) (bytes:Int) (bytes_r:-9223372036854775808<=bytes/\bytes<=9223372036854775807) (hlen:o.s.length<=4611686018427387904):Pr prog 158 #[.agg (Out.cells o).toArray, .int .u64 n, .int .i64 bytes] H (.agg (Out.cells (C0_ o n bytes)).toArray):=by
 refine pr_cw func158 Y ntmps158 Y (λN=>?_);refine At_ (P_ (ow1 (Qv_ (cs:=[_,_]) 0 Y Y (λb1=>?_))));refine ow1 (Ec_ 1 Y zr237 (λb2=>?_));refine A3_ (Az_ (At_ (P_ (ow1 (Ec_ 2 Y zr118 (λb3=>?_))))));refine A3_ (Az_ (At_ (At_ (P_ (omi Y Y ?_)))));refine ol Y (Us_ Y Y) (ol Y (Ut_ Y Y) (ol Y (Uw_ Y Y (Nn_ xN)) (oai Y Y (A3_ (Az_ ?_)))));refine Ct_ ?_;refine Sj_ [8,13,14,15,16,17,18,19,20,21,22] [2,3,4] (λ(j:Nat) (bs:Bs) (p:Value) (v:Value) (en:Option (Nat×Obj)) G=>upd (G) 8 (.int .i64 ((j:Int)-1))) (λ(j:Nat) (bs:Bs) (p:Value) (v:Value) (en:Option (Nat×Obj)) G=>lupd (lupd (G) 2 (some (b3,bx 118 [p,v]))) 3 (en)) (λ(j:Nat) (bs:Bs) (p:Value) (v:Value) (en:Option (Nat×Obj)) H'=>bs++numB j n.toNat=numB (numK bytes) n.toNat/\bs.length+j=numK bytes/\OwnV 1 5 v en bs.length (bs.map u8v)/\(bs.length=0->v = .slice none 0 0)/\(p = .pointer none\/p = .pointer (some ⟨b3,0,none⟩))) (λ(j:Nat) (bs:Bs) (p:Value) (v:Value) (en:Option (Nat×Obj))=>j) (numK bytes) [] (.pointer none) (.slice none 0 0) none (Dk_ (Eq_ wK) (congrArg (Value.int .i64) (show min (max bytes 0) 8-1=((numK bytes:Nat):Int)-1 by unfold numK;omega))) (Ep_ (Ep_ (Dr_ Fk_) Y) Y) ?_ ?_;exact⟨rfl,by simp,Gu_,λ_=>rfl, .inl rfl⟩;intro j bs p v en J5 JL5 H5 hp4 hl5;obtain⟨hk1,hk2,ho,hz,hpp⟩:=hp4;have hk8:numK bytes<=8:=by unfold numK;omega
 refine At_ (At_ (P_ (omi Y Y (ol Y (Uq_ Y Y) (A3_ ?_)))));refine Az_ (G2_ Y (λh6=>?_) (λh6=>?_));have p7:=dt h6;refine G4_ (Az_ (At_ (Ct_ (P_ (omi Y Y ?_)))));refine omi Y Y (ol Y (lo_mul Y Y (Nn_ xN)) (ol Y (M5_ Y Y xN) ?_));have :=wr_u8 (Int.fdiv n (2 ^ (min ((8*((j:Int)-1)):Int).toNat (IntKind.bits .u64))));refine ol Y (Jj_ Y (by rw[underlying28];rfl) underlying5) ?_;refine ow1 (Qx_ (en_f cb220 Y) func220 Y ntmps220 Y Y ?_);refine At_ (P_ (ol Y (Ck_ Y) (A3_ (Az_ (At_ ?_)))));refine P_ (ol Y (B2_ (v:= .pointer (some ⟨_,_,none⟩)) Y) ?_);refine ow1 (copyCheck 2 Y Y hpp Y ?_);refine A3_ (Az_ (At_ (P_ (ol Y (B2_ (v:= .pointer (some ⟨_,_,none⟩)) Y) (ol Y (B2_ (v:= .pointer (some ⟨_,_,none⟩)) Y) ?_)))));refine ol Y (Ae_ Y) (ol Y (W_ Y I9_) (ol Y (Bj_ (i:=2) Y ag116 Y Y) (omi Y Y ?_)));refine ow1 (Er_ (cs:=[_]) 4 Y underlying116 sz5 zx5 Y ⟨Y,Y,Z⟩ Y Y xQ (λb8=>?_));refine ow1 (Qu_ 3 Y Y underlying116 underlying116 Y sz5 by5 xQ zr5 ho (src_bx (i:=4) Y Y) (List.all_eq_true.1 Y) Y xN Y (λv9 en10 ho11=>?_));have ho12:=Sd_ (bs:=bs) ho11 (by first|rfl|simp) (wrap8r _);refine ol Y (Ae_ Y) (ol Y (W_ Y I9_) ?_);refine ow1 (De_ (i:=2) Y Y (Tb_ ho12) sz116 Y Y ?_);refine A3_ (Az_ (At_ (P_ (ol Y (Ck_ Y) (A3_ ?_)))));refine Az_ (Ih_ (Pp_ (res1 Y (rv_t Y)) (.refl _) (A3_ (T7_ (Az_ ?_)))));refine P_ (omi Y Y (ol Y (Uw_ Y Y (Nn_ xN)) (oai Y Y (A3_ ?_))));refine next5 (j-1) (bs++[UInt8.ofNat ((IntKind.wrap .u8 (Int.fdiv n (2 ^ (min ((8*((j:Int)-1)):Int).toNat (IntKind.bits .u64)))))).toNat]) (.pointer (some ⟨b3,0,none⟩)) v9 en10 (Dk_ (Eq_ wK) (congrArg (Value.int .i64) (show ((j:Int)-1)-1=((j-1:Nat):Int)-1 by omega))) (Ep_ (Ep_ (Dr_ wX) Y) Y) hl5 ?_ ?_;refine⟨?_,?_,ho12,(nz_of ho12 xP), .inr rfl⟩;rw[byte_of n_r.1 xN xN,List.append_assoc,<- hk1];obtain⟨q,rfl⟩:∃ q,j=q+1:=⟨j-1,by omega⟩;simp[numB];simp;omega;omega;have p13:=df h6;refine I4_ (U5_ (Qg_ (Mj_ (Az_ (At_ ?_)))));refine O5_ 3 mixd (vw_q 0 Y xO xV (λ_ _ hh hl=>W_ Y Pn_) ?_);refine vw_q 1 Y xO xV (λ_ _ hh hl=>Bj_ (i:=0) (v:=str _) Y ag9 (hl _ _ Y) Y) ?_;refine vw_e 2 Y xO (Qx_ (en_f cb69 Y) func69 Y ntmps69 Y Y ?_);refine At_ (P_ (ol Y (Ck_ (v:=str _) Y) (A3_ (Az_ (At_ ?_)))));refine O5_ 3 mixd ?_;refine vw_q 0 Y xO xV (λ_ _ hh hl=>B2_ (v:= .pointer (some ⟨_,_,none⟩)) Y) ?_;refine vw_q 1 Y xO xV (λ_ _ hh hl=>Ae_ Y) ?_;refine vw_q 2 Y xO xV (λ_ _ hh hl=>W_ Y I9_) ?_;refine vw_q 3 Y xO xV (λ_ _ hh hl=>Bj_ (i:=2) Y ag116 (hl _ _ Y) Y) ?_;refine vw_q 4 Y xO xV (λ_ _ hh hl=>lo_usd Y ho hz) ?_;refine vw_q 5 Y xO xV (λ_ _ hh hl=>B2_ (v:= .pointer (some ⟨_,_,none⟩)) Y) ?_;refine vw_q 6 Y xO xV (λ_ _ hh hl=>Ae_ Y) ?_;refine vw_q 7 Y xO xV (λ_ _ hh hl=>W_ Y I9_) ?_;refine vw_q 8 Y xO xV (λ_ _ hh hl=>Bj_ (i:=2) Y ag116 (hl _ _ Y) Y) ?_;refine vw_q 9 Y xO xV (λ_ _ hh hl=>In_ Y ho underlying116) ?_;refine vw_e 10 Y xO (S9_ (l:=bs) 3 Y Y underlying173 co5 ho hz wT Y ?_);refine⟨⟨(.refl _),xV⟩,?_⟩;refine vw_q 11 Y xO xV (λ_ _ hh hl=>Ck_ (v:=str _) Y) ?_;refine Mc_ xO (Az_ (Ih_ (Pp_ (res1 Y (rv_t (v:=str _) Y)) (.refl _) ?_)));refine⟨⟨(.refl _),xV⟩,?_⟩;refine vw_q 3 Y xO xV (λ_ _ hh hl=>P9_ Y Y wT) ?_;refine vw_q 4 Y xO xV (λ_ _ hh hl=>W_ Y Pn_) ?_;refine vw_t 5 Y xO xO (De_ (i:=0) (v:=str _) Y Y Y sz9 Y Y ?_);refine Mc_ xO (Az_ (At_ (P_ (ol Y (Gq_ (i:=0) (vs:=[_,_]) Y ag237 sz237 Y Y Y) ?_))));refine ow1 (Iq_ (i:=1) (vs:=[_,_]) Y Y Y sz237 Y Y Y ?_);refine A3_ (Az_ (Ih_ (Pp_ (res1 Y (rv_c (i:=1) (vs:=[_,_]) Y ag237 sz237 Y Y Y)) ((HLe.refl _).trans hl5) ?_)));obtain rfl :j=0:=by omega
 simp only[numB,List.append_nil] at hk1;subst hk1;rfl
end Go.SW
namespace Go.Proofs
open Go.Shelf
def Tryz.lays146_ren:Go.Shelf.Ren:=⟨λ|146=>58|221=>93|268=>131|138=>132|143=>133|195=>186|197=>187|218=>188|219=>189|260=>277|217=>278|225=>279|224=>280|267=>281|266=>372|314=>373|n=>n,λ|9=>9|31=>79|3=>3|4=>4|0=>0|105=>302|21=>21|5=>5|46=>221|119=>172|139=>512|138=>511|146=>513|51=>68|n=>n,λ|1=>4|3=>10|4=>11|n=>n⟩
theorem Tryz.lays146:Go.Proofs.Lays.n146 prog Tryz.lays146_ren:={
 mixed:=by kernel_rfl
 f138:=func132.trans (congrArg some xO)
 f143:=func133.trans (congrArg some xO)
 f146:=func58.trans (congrArg some xO)
 f195:=func186.trans (congrArg some xO)
 f197:=func187.trans (congrArg some xO)
 f217:=func278.trans (congrArg some xO)
 f218:=func188.trans (congrArg some xO)
 f219:=func189.trans (congrArg some xO)
 f221:=func93.trans (congrArg some xO)
 f224:=func280.trans (congrArg some xO)
 f225:=func279.trans (congrArg some xO)
 f260:=func277.trans (congrArg some xO)
 f266:=func372.trans (congrArg some xO)
 f267:=func281.trans (congrArg some xO)
 f268:=func131.trans (congrArg some xO)
 f314:=func373.trans (congrArg some xO)
 t0:=underlying0
 a0:=isAgg0
 z0:=sizeOf0
 v0:=zeroValue0
 t3:=underlying3
 a3:=isAgg3
 z3:=sizeOf3
 v3:=zeroValue3
 t4:=underlying4
 a4:=isAgg4
 z4:=sizeOf4
 v4:=zeroValue4
 t5:=underlying5
 a5:=isAgg5
 z5:=sizeOf5
 v5:=zeroValue5
 t9:=underlying9
 a9:=isAgg9
 z9:=sizeOf9
 v9:=zeroValue9
 t21:=underlying21
 a21:=isAgg21
 z21:=sizeOf21
 v21:=zeroValue21
 t31:=underlying79
 a31:=isAgg79
 z31:=sizeOf79
 v31:=zeroValue79
 t46:=underlying221
 a46:=isAgg221
 z46:=sizeOf221
 v46:=zeroValue221
 t51:=underlying68
 a51:=isAgg68
 z51:=sizeOf68
 v51:=zeroValue68
 t105:=underlying302
 a105:=isAgg302
 z105:=sizeOf302
 v105:=zeroValue302
 t119:=underlying172
 a119:=isAgg172
 z119:=sizeOf172
 t138:=underlying511
 a138:=isAgg511
 z138:=sizeOf511
 v138:=zeroValue511
 t139:=underlying512
 a139:=isAgg512
 z139:=sizeOf512
 v139:=zeroValue512
 t146:=underlying513
 a146:=isAgg513
 z146:=sizeOf513
 v146:=zeroValue513
 g1:=by kernel_rfl
 g3:=by kernel_rfl
 g4:=by kernel_rfl}
open Go.RowKit Go.Lib in
theorem Tryz.strings_Split (s sep:ByteArray) (m:Int) (w:World) (hs:s.size<4294967281) (hm:w.cell? ⟨4,0,none⟩=some (.int .i64 m)) (h1:1<=sep.size) :
   Calls prog 58 #[.string s, .string sep] w λe w'=>
     e = .returned (.slice (some ⟨w.heap.size,0,none⟩) (Lib.countB s sep+1) (Lib.countB s sep+1))/\w'=w.alloc (.cells ((Lib.splitB sep 0 (Lib.countB s sep) s).map Value.string).toArray 9):=Any.strings_Split Tryz.lays146 xO s sep m w hs hm h1
end Go.Proofs
namespace Go.SW
open Go.Proofs
theorem strings_Split (H:Hp) (s p:Bs) (hp:p=[46]) (hML:GInt H 4) (hs:s.length<4294967281):Ph prog 58 #[str s,str p] H (λv H'=>∃ (a:Option Addr) (c:Nat),v = .slice a (dots s).length c/\SlH strE 1 H' (.slice a (dots s).length c) (dots s)):=by
 subst hp;refine Rb_ (T:=9) (λw hw=>by have :=Fu_ s w hw;omega) λN L w hm=>?_;obtain⟨m,hc⟩:=hML.cell hm;refine (Tryz.strings_Split ⟨s.toArray⟩ ⟨#[46]⟩ m w (by simpa [C2_] using hs) hc xQ).mono λe w' ⟨he,hw⟩=>⟨?_,?_⟩;rw[he,Of_];rw[hw,Hx_]
theorem Sa_ (H:Hp) (s p:Bs) (hp:p=[10]) (hML:GInt H 4) (hs:s.length<4294967281):Ph prog 58 #[str s,str p] H (λv H'=>∃ (a:Option Addr) (c:Nat),v = .slice a (cuts 10 s).length c/\SlH strE 1 H' (.slice a (cuts 10 s).length c) (cuts 10 s)):=by
 subst hp;refine Rb_ (T:=9) (λw hw=>by have :=Fs_ 10 s w hw;omega) λN L w hm=>?_;obtain⟨m,hc⟩:=hML.cell hm;refine (Tryz.strings_Split ⟨s.toArray⟩ ⟨#[10]⟩ m w (by simpa [C2_] using hs) hc xQ).mono λe w' ⟨he,hw⟩=>⟨?_,?_⟩;rw[he,L4_];rw[hw,Hw_]
theorem ag68:Ag prog 68 false:=λw=>by kernel_rfl
theorem sz68:Sz prog 68 1:=λw=>by kernel_rfl
theorem Sf_ (H:Hp) (r:Int) (r_r:0<=r/\r<=4294967295) (b:Int) (b_r:0<=b/\b<=255) (hCrc:GTab H 7 laidT):Pr prog 221 #[.int .u32 r, .int .u8 b] H (.int .u32 (I3_ r b)):=by
 refine pr_cw func221 Y ntmps221 Y (λN=>?_);obtain⟨T0,fr0,hT0⟩:=hCrc;refine At_ (P_ (oai Y Y (A3_ (Az_ (At_ ?_)))));refine P_ (omi Y Y (omi Y Y (ol Y (Fy_ Y (by rw[underlying5];rfl) underlying68 (rg_u32 xN)) ?_)));have :=Nu_ ((BitVec.ofInt (IntKind.bits .u32) r ^^^ BitVec.ofInt (IntKind.bits .u32) b).toNat);refine ol Y (Qe_ Y Y) (oai Y Y (A3_ (Az_ (At_ (At_ ?_)))));refine P_ (omi Y Y (A3_ (Az_ (Ct_ (Si_ [0,9,10,11,12,13,14,15,16,17,18] [] (λ(k:Nat) (q:Int) G=>upd (upd (G) 0 (.int .u32 q)) 9 (.int .i64 (k:Int))) (λ(k:Nat) (q:Int) G=>G) (λ(k:Nat) (q:Int) H'=>k<=2/\Se_ (2-k) q=I3_ r b) (λ(k:Nat) (q:Int)=>2-k) 0 (R8_ r b) (Dk_ (Dk_ (Eq_ wK) Y) Y) (Dr_ Fk_) ?_ ?_)))));exact⟨Nat.zero_le _,rfl⟩;intro k q J2 JL2 H2 hp1 hl2;obtain⟨hk1,hk2⟩:=hp1;refine At_ (P_ (ol Y (Ur_ Y Y) (A3_ (Az_ (At_ ?_)))));refine G2_ Y (λh3=>?_) (λh3=>?_);have p4:=dt h3;refine G4_ (Az_ (At_ (Ct_ (P_ (omi Y Y ?_)))));refine ol Y (M5_ Y Y xN) (omi Y Y ?_);have :=Nu_ ((BitVec.ofInt (IntKind.bits .u32) q &&& BitVec.ofInt (IntKind.bits .u32) 15).toNat);refine ol Y (Um_ Y Y) (ol Y (lo_gidx (m:=((IntKind.wrap .u32 ((BitVec.ofInt (IntKind.bits .u32) q &&& BitVec.ofInt (IntKind.bits .u32) 15).toNat))).toNat) Y underlying450 sz68 xN (Mf_ _)) (ol Y (M3_ Y ag68 (((HLe.refl _).trans hl2) _ _ hT0) (tab_get (Mf_ _))) ?_));have :=Nu_ ((BitVec.ofInt (IntKind.bits .u32) (Int.fdiv q (2 ^ (min (4:Int).toNat (IntKind.bits .u32)))) ^^^ BitVec.ofInt (IntKind.bits .u32) (laidT.getD ((IntKind.wrap .u32 ((BitVec.ofInt (IntKind.bits .u32) q &&& BitVec.ofInt (IntKind.bits .u32) 15).toNat))).toNat 0)).toNat);refine ol Y (Qe_ Y Y) (oai Y Y (A3_ (T7_ (Az_ (P_ ?_)))));refine ol Y (lo_add Y Y (Nn_ xN)) (omi Y Y (A3_ ?_));refine next2 (k+1) (crc1 q) (Dk_ (Dk_ (Eq_ wK) Y) Y) (Dr_ wX) hl2 ?_ ?_;refine⟨by omega,?_⟩;rw[<- hk2,show 2-k=(2-(k+1))+1 by omega];rfl;omega;have p5:=df h3;refine I4_ (U5_ (Qg_ (Mj_ (Az_ (At_ ?_)))));refine P_ (omi Y Y (oai Y Y (A3_ (Az_ (Ih_ ?_)))));refine Pp_ (res1 Y (rv_t (v:= .int _ _) Y)) ((HLe.refl _).trans hl2) ?_;obtain rfl :k=2:=by omega
 exact congrArg (Value.int .u32) hk2
end Go.SW
namespace Go.Proofs
open Go.Shelf
def Tryz.lays105_ren:Go.Shelf.Ren:=⟨λ|105=>360|212=>445|99=>446|165=>67|166=>68|170=>447|169=>69|263=>516|264=>517|206=>518|240=>104|241=>105|276=>143|277=>144|n=>n,λ|9=>9|3=>3|4=>4|20=>20|0=>0|46=>221|109=>589|5=>5|72=>118|76=>122|51=>68|146=>513|53=>28|148=>642|70=>115|37=>116|75=>121|127=>173|164=>225|80=>124|n=>n,λ|n=>n⟩
theorem Tryz.lays105:Go.Proofs.Lays.n105 prog Tryz.lays105_ren:={
 mixed:=by kernel_rfl
 f99:=func446.trans (congrArg some xO)
 f105:=func360.trans (congrArg some xO)
 f165:=func67.trans (congrArg some xO)
 f166:=func68.trans (congrArg some xO)
 f169:=func69.trans (congrArg some xO)
 f170:=func447.trans (congrArg some xO)
 f206:=func518.trans (congrArg some xO)
 f212:=func445.trans (congrArg some xO)
 f240:=func104.trans (congrArg some xO)
 f241:=func105.trans (congrArg some xO)
 f263:=func516.trans (congrArg some xO)
 f264:=func517.trans (congrArg some xO)
 f276:=func143.trans (congrArg some xO)
 f277:=func144.trans (congrArg some xO)
 t0:=underlying0
 a0:=isAgg0
 z0:=sizeOf0
 v0:=zeroValue0
 t3:=underlying3
 a3:=isAgg3
 z3:=sizeOf3
 v3:=zeroValue3
 t4:=underlying4
 a4:=isAgg4
 z4:=sizeOf4
 v4:=zeroValue4
 t5:=underlying5
 a5:=isAgg5
 z5:=sizeOf5
 v5:=zeroValue5
 t9:=underlying9
 a9:=isAgg9
 z9:=sizeOf9
 v9:=zeroValue9
 t20:=underlying20
 a20:=isAgg20
 z20:=sizeOf20
 v20:=zeroValue20
 t37:=underlying116
 a37:=isAgg116
 z37:=sizeOf116
 v37:=zeroValue116
 t46:=underlying221
 a46:=isAgg221
 z46:=sizeOf221
 v46:=zeroValue221
 t51:=underlying68
 a51:=isAgg68
 z51:=sizeOf68
 v51:=zeroValue68
 t53:=underlying28
 a53:=isAgg28
 z53:=sizeOf28
 v53:=zeroValue28
 t70:=underlying115
 a70:=isAgg115
 z70:=sizeOf115
 v70:=zeroValue115
 t72:=underlying118
 a72:=isAgg118
 z72:=sizeOf118
 v72:=zeroValue118
 t75:=underlying121
 a75:=isAgg121
 z75:=sizeOf121
 v75:=zeroValue121
 t76:=underlying122
 a76:=isAgg122
 z76:=sizeOf122
 v76:=zeroValue122
 t109:=underlying589
 a109:=isAgg589
 z109:=sizeOf589
 v109:=zeroValue589
 t127:=underlying173
 a127:=isAgg173
 z127:=sizeOf173
 v127:=zeroValue173
 t146:=underlying513
 a146:=isAgg513
 z146:=sizeOf513
 v146:=zeroValue513
 t148:=underlying642
 a148:=isAgg642
 z148:=sizeOf642
 v148:=zeroValue642
 t164:=underlying225
 a164:=isAgg225
 z164:=sizeOf225
 v164:=zeroValue225}
theorem Tryz.Builder_Extra_105:Builder.Extra prog Tryz.lays105_ren:={
 sizeBuilder:=by kernel_rfl
 liesBuilder:=by kernel_rfl
 t5:=underlying5
 a5:=isAgg5
 z5:=sizeOf5
 v5:=zeroValue5
 infoByte:=by kernel_rfl
 cellsByte:=by kernel_rfl
 sizeByte:=by kernel_rfl
 neB5:=by decide}
open Go.RowKit Go.Lib in
theorem Tryz.strings_Repeat (s:ByteArray) (c:Nat) (w:World) (hc:c<=9223372036854775807) (hlen:s.size*c<=140737488355328) :
   Calls prog 360 #[.string s, .int .i64 c] w λe w'=>e = .returned (.string ⟨(Lib.repeatL s.data.toList c).toArray⟩)/\Below w.heap.size w w':=Any.strings_Repeat Tryz.lays105 Tryz.Builder_Extra_105 s c w hc hlen
end Go.Proofs
namespace Go.SW
open Go.Proofs
theorem L7_ (s:Bs) (c:Nat) (N:Rest) (H:Hp) (L:Ls) (w:World) (h:s.length*c<=140737488355328) (hc:c<=9223372036854775807) (hm:Mem N H L w):Calls prog 360 #[str s, .int .i64 (c:Int)] w λen w'=>en = .returned (str (Lib.repeatL s c))/\Mem N H L w':=by
 refine (Tryz.strings_Repeat ⟨s.toArray⟩ c w hc (by simpa [ByteArray.size] using h)).mono λe w' ⟨he,hb⟩=>⟨he,?_⟩;refine hm.of_same hb.os hb.tape hb.output λc o ho=>?_;exact yO
end Go.SW
namespace Go.CE
open Go.SW
inductive Tr (α:Type) where
 |e
 |n (l:Tr α) (v:Option α) (r:Tr α)
noncomputable def Tr.get {α:Type} (t:Tr α) (k:Nat):Option α:=Tr.rec (motive:=λ_=>Nat->Option α) (λ_=>none) (λ_ v _ ihl ihr k=>Nat.rec (motive:=λ_=>Option α) v (λk _=>Bool.rec (motive:=λ_=>Option α) (ihr (Nat.div k 2)) (ihl (Nat.div k 2)) (Nat.beq (Nat.mod k 2) 0)) k) t k
theorem Tr.get_e {α:Type} {k:Nat}:(Tr.e:Tr α).get k=none:=rfl
theorem Tr.get_0 {α:Type} {l r:Tr α} {v:Option α}:(Tr.n l v r).get 0=v:=rfl
theorem Tr.get_s {α:Type} {l r:Tr α} {v:Option α} {k:Nat}:(Tr.n l v r).get (k+1) = bif Nat.beq (k%2) 0 then l.get (k/2) else r.get (k/2):=by
 show Bool.rec (motive:=λ_=>Option α) (r.get (k/2)) (l.get (k/2)) (Nat.beq (k%2) 0)=_
 cases Nat.beq (k%2) 0<;>rfl
section
variable {α β:Type}
noncomputable def sRoot (t:Tr α) (v:α) (c:Tr α->Option β):Option β:=Tr.rec (motive:=λ_=>Option β) (c (.n .e (some v) .e)) (λl _ r _ _=>c (.n l (some v) r)) t
noncomputable def sL (ih:Tr α->α->(Tr α->Option β)->Option β) (t:Tr α) (v:α) (c:Tr α->Option β):Option β:=Tr.rec (motive:=λ_=>Option β) (ih .e v λl=>c (.n l none .e)) (λl w r _ _=>ih l v λl=>c (.n l w r)) t
noncomputable def sR (ih:Tr α->α->(Tr α->Option β)->Option β) (t:Tr α) (v:α) (c:Tr α->Option β):Option β:=Tr.rec (motive:=λ_=>Option β) (ih .e v λr=>c (.n .e none r)) (λl w r _ _=>ih r v λr=>c (.n l w r)) t
noncomputable def sS:Nat->Nat->Tr α->α->(Tr α->Option β)->Option β:=Nat.rec (motive:=λ_=>Nat->Tr α->α->(Tr α->Option β)->Option β) (λ_ _ _ _=>none) (λ_ ih k=>Nat.rec (motive:=λ_=>Tr α->α->(Tr α->Option β)->Option β) sRoot (λk _=>Bool.rec (motive:=λ_=>Tr α->α->(Tr α->Option β)->Option β) (sR (ih (Nat.div k 2))) (sL (ih (Nat.div k 2))) (Nat.beq (Nat.mod k 2) 0)) k)
end
noncomputable def Tr.setK {α β:Type} (d:Nat) (t:Tr α) (k:Nat) (v:α) (c:Tr α->Option β):Option β:=sS d k t v c
theorem Tr.setK_0 {α β:Type} {t:Tr α} {k:Nat} {v:α} {c:Tr α->Option β}:Tr.setK 0 t k v c=none:=rfl
theorem Tr.setK_e0 {α β:Type} {d:Nat} {v:α} {c:Tr α->Option β}:Tr.setK (d+1) .e 0 v c=c (.n .e (some v) .e):=rfl
theorem Tr.setK_n0 {α β:Type} {d:Nat} {l r:Tr α} {w:Option α} {v:α} {c:Tr α->Option β}:Tr.setK (d+1) (.n l w r) 0 v c=c (.n l (some v) r):=rfl
theorem Tr.setK_es {α β:Type} {d k:Nat} {v:α} {c:Tr α->Option β}:Tr.setK (d+1) .e (k+1) v c = bif Nat.beq (k%2) 0 then Tr.setK d .e (k/2) v (λl=>c (.n l none .e)) else Tr.setK d .e (k/2) v (λr=>c (.n .e none r)):=by
 show Bool.rec (motive:=λ_=>Tr α->α->(Tr α->Option β)->Option β) (sR (sS d (k/2))) (sL (sS d (k/2))) (Nat.beq (k%2) 0) .e v c=_
 cases Nat.beq (k%2) 0<;>rfl
theorem Tr.setK_ns {α β:Type} {d k:Nat} {l r:Tr α} {w:Option α} {v:α} {c:Tr α->Option β}:Tr.setK (d+1) (.n l w r) (k+1) v c = bif Nat.beq (k%2) 0 then Tr.setK d l (k/2) v (λl=>c (.n l w r)) else Tr.setK d r (k/2) v (λr=>c (.n l w r)):=by
 show Bool.rec (motive:=λ_=>Tr α->α->(Tr α->Option β)->Option β) (sR (sS d (k/2))) (sL (sS d (k/2))) (Nat.beq (k%2) 0) (.n l w r) v c=_
 cases Nat.beq (k%2) 0<;>rfl
theorem Tr.setK_ok {α β:Type}:∀ (d:Nat) (t:Tr α) (k:Nat) (v:α) (c:Tr α->Option β) (z:β),Tr.setK d t k v c=some z ->
   ∃ t':Tr α,c t'=some z/\t'.get k=some v/\∀ j,j≠k->t'.get j=t.get j
 |0,_,_,_,_,_,h=>by rw[Tr.setK_0] at h;cases h
 |d+1,t,k,v,c,z,h=>by
   have hp:∀ a b:Nat,a%2=b%2->a/2=b/2->a=b:=λa b _ _=>by omega
   have h01:∀ a:Nat,a%2=0\/a%2=1:=λa=>by omega
   cases t with
   |e=>
     cases k with
     |zero=>
       simp only[Tr.setK_e0,Tr.setK_n0,Tr.setK_es,Tr.setK_ns] at h
       exact⟨_,h,rfl,λj hj=>by cases j with|zero=>exact absurd Y hj|succ j=>simp[Tr.get_e,Tr.get_0,Tr.get_s]⟩
     |succ k=>
       simp only[Tr.setK_e0,Tr.setK_n0,Tr.setK_es,Tr.setK_ns] at h
       cases e:Nat.beq (k%2) 0 with
       |true=>
         rw[e] at h
         obtain⟨t',h1,h2,h3⟩:=Tr.setK_ok d _ _ _ _ _ h
         refine⟨_,h1,by simp[Tr.get_s,e,h2],λj hj=>?_⟩
         cases j with
         |zero=>simp[Tr.get_e,Tr.get_0,Tr.get_s]
         |succ j=>
           simp only[Tr.get_e,Tr.get_0,Tr.get_s]
           cases e':Nat.beq (j%2) 0 with
           |true=>
             have a:=Nat.eq_of_beq_eq_true e;have b:=Nat.eq_of_beq_eq_true e'
             have :=h3 (j/2) (λq=>hj wN)
             simpa [Tr.get_e] using this
           |false=>rfl
       |false=>
         rw[e] at h
         obtain⟨t',h1,h2,h3⟩:=Tr.setK_ok d _ _ _ _ _ h
         refine⟨_,h1,by simp[Tr.get_s,e,h2],λj hj=>?_⟩
         cases j with
         |zero=>simp[Tr.get_e,Tr.get_0,Tr.get_s]
         |succ j=>
           simp only[Tr.get_e,Tr.get_0,Tr.get_s]
           cases e':Nat.beq (j%2) 0 with
           |true=>rfl
           |false=>
             have a:=Nat.ne_of_beq_eq_false e;have b:=Nat.ne_of_beq_eq_false e'
             have :=h3 (j/2) (λq=>hj wN)
             simpa [Tr.get_e] using this
   |n l w r=>
     cases k with
     |zero=>
       simp only[Tr.setK_e0,Tr.setK_n0,Tr.setK_es,Tr.setK_ns] at h
       exact⟨_,h,rfl,λj hj=>by cases j with|zero=>exact absurd Y hj|succ j=>simp[Tr.get_e,Tr.get_0,Tr.get_s]⟩
     |succ k=>
       simp only[Tr.setK_e0,Tr.setK_n0,Tr.setK_es,Tr.setK_ns] at h
       cases e:Nat.beq (k%2) 0 with
       |true=>
         rw[e] at h
         obtain⟨t',h1,h2,h3⟩:=Tr.setK_ok d _ _ _ _ _ h
         refine⟨_,h1,by simp[Tr.get_s,e,h2],λj hj=>?_⟩
         cases j with
         |zero=>simp[Tr.get_e,Tr.get_0,Tr.get_s]
         |succ j=>
           simp only[Tr.get_e,Tr.get_0,Tr.get_s]
           cases e':Nat.beq (j%2) 0 with
           |true=>
             have a:=Nat.eq_of_beq_eq_true e;have b:=Nat.eq_of_beq_eq_true e'
             exact h3 (j/2) (λq=>hj wN)
           |false=>rfl
       |false=>
         rw[e] at h
         obtain⟨t',h1,h2,h3⟩:=Tr.setK_ok d _ _ _ _ _ h
         refine⟨_,h1,by simp[Tr.get_s,e,h2],λj hj=>?_⟩
         cases j with
         |zero=>simp[Tr.get_e,Tr.get_0,Tr.get_s]
         |succ j=>
           simp only[Tr.get_e,Tr.get_0,Tr.get_s]
           cases e':Nat.beq (j%2) 0 with
           |true=>rfl
           |false=>
             have a:=Nat.ne_of_beq_eq_false e;have b:=Nat.ne_of_beq_eq_false e'
             exact h3 (j/2) (λq=>hj wN)
inductive CV where
 |int (k:IntKind) (z:Int)
 |bool (b:Bool)
 |str (n x:Nat)
 |agg (cs:List CV)
 |tup (vs:List CV)
 |ptr (i off:Nat)
 |gp (g off:Nat)
 |nilp
 |sl (i off len cap:Nat)
 |slu (i off len k:Nat)
 |nils
 |fn (f:FuncId) (first cap:List CV)
 |nilf
 |mp (i:Nat)
 |nilm
 |ifc (t:TypeId) (v:CV)
 |nili
structure Pl where
 b:Nat
 s:Nat
 r:Nat
abbrev Be:=Nat->Option Pl
def Be.le (β β':Be):Prop:=∀ i q,β i=some q->β' i=some q
theorem Be.le.refl (β:Be):β.le β:=λ_ _ h=>h
theorem Be.le.trans {a b c:Be} (h:a.le b) (k:b.le c):a.le c:=λi q x=>k i q (h i q x)
def dec:Nat->Nat->Bs
 |0,_=>[]
 |n+1,x=>UInt8.ofNat (x%256)::dec n (x/256)
theorem D_:∀ (n x:Nat),(dec n x).length=n
 |0,_=>rfl
 |n+1,x=>by simp[dec,D_ n]
theorem E4_:∀ (n m x y:Nat),x<256 ^ n->dec n x++dec m y=dec (n+m) (x+y*256 ^ n)
 |0,m,x,y,h=>by simp at h;subst h;simp[dec]
 |n+1,m,x,y,h=>by
   have h1:x/256<256 ^ n:=by rw[Nat.pow_succ] at h;omega
   have e:(x+y*256 ^ (n+1))%256=x%256:=by rw[Nat.pow_succ,<- Nat.mul_assoc];omega
   have e2:(x+y*256 ^ (n+1))/256=x/256+y*256 ^ n:=by rw[Nat.pow_succ,<- Nat.mul_assoc];omega
   rw[show n+1+m=(n+m)+1 by omega]
   simp only[dec,List.cons_append]
   rw[E4_ n m _ y h1,e,e2]
theorem Dp_:∀ (l n x:Nat),l<=n->(dec n x).drop l=dec (n-l) (x/256 ^ l)
 |0,n,x,_=>by simp
 |l+1,0,x,h=>by omega
 |l+1,n+1,x,h=>by
   simp only[dec,List.drop_succ_cons]
   rw[Dp_ l n _ xN,Nat.div_div_eq_div_mul,Nat.pow_succ,Nat.mul_comm 256,show n+1-(l+1)=n-l by omega]
theorem Cu_:∀ (l n x:Nat),l<=n->(dec n x).take l=dec l (x%256 ^ l)
 |0,n,x,_=>by simp[dec]
 |l+1,0,x,h=>by omega
 |l+1,n+1,x,h=>by
   simp only[dec,List.take_succ_cons]
   have e:x%256 ^ (l+1)%256=x%256:=by rw[Nat.pow_succ];exact Nat.mod_mod_of_dvd _ ⟨256 ^ l,Nat.mul_comm _ _⟩
   have e2:x%256 ^ (l+1)/256=x/256%256 ^ l:=by rw[Nat.pow_succ,Nat.mul_comm];exact Nat.mod_mul_right_div_self _ _ _
   rw[Cu_ l n _ xN,e,e2]
theorem O8_:∀ (n x y:Nat),x<256 ^ n->y<256 ^ n->dec n x=dec n y->x=y
 |0,x,y,h,k,_=>by simp at h k;omega
 |n+1,x,y,h,k,e=>by
   rw[Nat.pow_succ] at h k
   simp only[dec,List.cons.injEq] at e
   have :=O8_ n _ _ xN xN e.2
   have e1:=congrArg UInt8.toNat e.1
   simp at e1
   omega
theorem G5_:∀ (n x i:Nat),i<n->(dec n x)[i]? = some (UInt8.ofNat (x/256 ^ i%256))
 |0,_,_,h=>by omega
 |n+1,x,0,_=>by simp[dec]
 |n+1,x,i+1,h=>by
   simp only[dec,List.getElem?_cons_succ]
   rw[G5_ n _ i xN,Nat.div_div_eq_div_mul,Nat.pow_succ,Nat.mul_comm 256]
def enc:Bs->Nat
 |[]=>0
 |a::r=>a.toNat+256*enc r
theorem Mp_:∀ (s:Bs),enc s<256 ^ s.length
 |[]=>by simp[enc]
 |a::r=>by
   have :=Mp_ r
   have h:=a.toNat_lt
   simp only[enc,List.length_cons,Nat.pow_succ]
   omega
theorem I5_:∀ (s:Bs),dec s.length (enc s)=s
 |[]=>rfl
 |a::r=>by
   have h:=a.toNat_lt
   simp only[enc,List.length_cons,dec]
   rw[show (a.toNat+256*enc r)%256=a.toNat by omega,show (a.toNat+256*enc r)/256=enc r by omega,I5_ r]
   simp
mutual
def VR (β:Be):CV->Value->Prop
 | .int k z,v=>v = .int k z
 | .bool b,v=>v = .bool b
 | .str n x,v=>x<256 ^ n/\v=SW.str (dec n x)
 | .agg cs,v=>∃ vs,v = .agg vs.toArray/\VRs β cs vs
 | .tup cs,v=>∃ vs,v = .tuple vs.toArray/\VRs β cs vs
 | .ptr i off,v=>∃ q,β i=some q/\v = .pointer (some ⟨q.b,q.s+off,none⟩)
 | .gp g off,v=>v = .pointer (some ⟨g,off,none⟩)
 | .nilp,v=>v = .pointer none
 | .sl i off len cap,v=>∃ q,β i=some q/\v = .slice (some ⟨q.b,q.s+off,none⟩) len cap
 | .slu i off len k,v=>∃ q c a,β i=some q/\off+c*k=q.r/\len<=c/\v = .slice (some a) len c/\(0<c->a=⟨q.b,q.s+off,none⟩)
 | .nils,v=>v = .slice none 0 0
 | .fn f first cap,v=>∃ vs us,v = .func (.func f) vs.toArray us.toArray/\VRs β first vs/\VRs β cap us
 | .nilf,v=>v = .nilFunc
 | .mp i,v=>∃ q,β i=some q/\v = .map (some q.b)
 | .nilm,v=>v = .map none
 | .ifc t x,v=>∃ u,v = .iface t u/\VR β x u
 | .nili,v=>v = .nilIface
def VRs (β:Be):List CV->List Value->Prop
 |[],vs=>vs=[]
 |c::r,vs=>∃ v us,vs=v::us/\VR β c v/\VRs β r us
end
mutual
theorem VR.mono {β β':Be} (hl:β.le β'):∀ {c:CV} {v:Value},VR β c v->VR β' c v
 | .int _ _,_,h=>h
 | .bool _,_,h=>h
 | .str _ _,_,h=>h
 | .agg _,_,h=>by simp only[VR] at h ⊢;obtain⟨vs,rfl,h1⟩:=h;exact⟨vs,rfl,VRs.mono hl h1⟩
 | .tup _,_,h=>by simp only[VR] at h ⊢;obtain⟨vs,rfl,h1⟩:=h;exact⟨vs,rfl,VRs.mono hl h1⟩
 | .ptr _ _,_,h=>by simp only[VR] at h ⊢;obtain⟨q,h1,h2⟩:=h;exact⟨q,hl _ _ h1,h2⟩
 | .gp _ _,_,h=>h
 | .nilp,_,h=>h
 | .sl _ _ _ _,_,h=>by simp only[VR] at h ⊢;obtain⟨q,h1,h2⟩:=h;exact⟨q,hl _ _ h1,h2⟩
 | .slu _ _ _ _,_,h=>by simp only[VR] at h ⊢;obtain⟨q,c,a,h1,h2⟩:=h;exact⟨q,c,a,hl _ _ h1,h2⟩
 | .nils,_,h=>h
 | .fn _ _ _,_,h=>by simp only[VR] at h ⊢;obtain⟨vs,us,rfl,h1,h2⟩:=h;exact⟨vs,us,rfl,VRs.mono hl h1,VRs.mono hl h2⟩
 | .nilf,_,h=>h
 | .mp _,_,h=>by simp only[VR] at h ⊢;obtain⟨q,h1,h2⟩:=h;exact⟨q,hl _ _ h1,h2⟩
 | .nilm,_,h=>h
 | .ifc _ _,_,h=>by simp only[VR] at h ⊢;obtain⟨u,rfl,h1⟩:=h;exact⟨u,rfl,VR.mono hl h1⟩
 | .nili,_,h=>h
theorem VRs.mono {β β':Be} (hl:β.le β'):∀ {cs:List CV} {vs:List Value},VRs β cs vs->VRs β' cs vs
 |[],_,h=>h
 |_::_,_,h=>by simp only[VRs] at h ⊢;obtain⟨v,us,rfl,h1,h2⟩:=h;exact⟨v,us,rfl,VR.mono hl h1,VRs.mono hl h2⟩
end
theorem VRs.length {β:Be}:∀ {cs:List CV} {vs:List Value},VRs β cs vs->vs.length=cs.length
 |[],_,h=>by simp only[VRs] at h;subst h;rfl
 |_::_,_,h=>by simp only[VRs] at h;obtain⟨v,us,rfl,_,h2⟩:=h;simp[VRs.length h2]
theorem VRs.nil {β:Be}:VRs β [] []:=by simp[VRs]
theorem VRs.cons {β:Be} {c:CV} {v:Value} {cs:List CV} {vs:List Value} (h:VR β c v) (k:VRs β cs vs):VRs β (c::cs) (v::vs):=by simp only[VRs];exact⟨v,vs,rfl,h,k⟩
theorem VRs.cons_inv {β:Be} {c:CV} {cs:List CV} {vs:List Value} (h:VRs β (c::cs) vs):∃ v us,vs=v::us/\VR β c v/\VRs β cs us:=by simpa only[VRs] using h
theorem VRs.nil_inv {β:Be} {vs:List Value} (h:VRs β [] vs):vs=[]:=by simpa only[VRs] using h
theorem VRs.app {β:Be}:∀ {cs ds:List CV} {vs us:List Value},VRs β cs vs->VRs β ds us->VRs β (cs++ds) (vs++us)
 |[],_,_,_,h,k=>by rw[h.nil_inv];exact k
 |_::_,_,_,_,h,k=>by obtain⟨v,us',rfl,h1,h2⟩:=h.cons_inv;exact .cons h1 (h2.app k)
theorem VRs.get {β:Be}:∀ {cs:List CV} {vs:List Value},VRs β cs vs->∀ {i:Nat} {c:CV},cs[i]? = some c->∃ v,vs[i]? = some v/\VR β c v
 |[],_,_,i,c,e=>by simp at e
 |_::_,_,h,i,c,e=>by
   obtain⟨v,us,rfl,h1,h2⟩:=h.cons_inv
   cases i with
   |zero=>simp at e;subst e;exact⟨v,rfl,h1⟩
   |succ i=>simp at e;obtain⟨w,h3,h4⟩:=h2.get e;exact⟨w,by simpa using h3,h4⟩
theorem VRs.take {β:Be}:∀ (n:Nat) {cs:List CV} {vs:List Value},VRs β cs vs->VRs β (cs.take n) (vs.take n)
 |0,_,_,_=>by simp[VRs]
 |n+1,[],_,h=>by rw[h.nil_inv];simp[VRs]
 |n+1,_::_,_,h=>by obtain⟨v,us,rfl,h1,h2⟩:=h.cons_inv;simp only[List.take_succ_cons];exact .cons h1 (h2.take n)
theorem VRs.drop {β:Be}:∀ (n:Nat) {cs:List CV} {vs:List Value},VRs β cs vs->VRs β (cs.drop n) (vs.drop n)
 |0,_,_,h=>by simpa using h
 |n+1,[],_,h=>by rw[h.nil_inv];simp[VRs]
 |n+1,_::_,_,h=>by obtain⟨v,us,rfl,h1,h2⟩:=h.cons_inv;simp only[List.drop_succ_cons];exact h2.drop n
theorem VRs.set {β:Be}:∀ {cs:List CV} {vs:List Value} (n:Nat) {c:CV} {v:Value},VRs β cs vs->VR β c v->VRs β (cs.set n c) (vs.set n v)
 |[],_,_,_,_,h,_=>by rw[h.nil_inv];simp[VRs]
 |_::_,_,0,_,_,h,k=>by obtain⟨v,us,rfl,h1,h2⟩:=h.cons_inv;exact .cons k h2
 |_::_,_,n+1,_,_,h,k=>by obtain⟨v,us,rfl,h1,h2⟩:=h.cons_inv;exact .cons h1 (h2.set n k)
def one:CV->Bool
 | .agg _=>false
 | .tup _=>false
 |_=>true
theorem Qt_ {β:Be} {c:CV} {v:Value} (h:VR β c v) (ho:one c=true):v.oneCell'=true:=by
 cases c<;>simp only[VR,one] at h ho<;>first
   |(subst h;rfl)
   |(cases ho;done)
   |(obtain⟨_,rfl⟩:=h;rfl)
   |(obtain⟨_,_,rfl⟩:=h;rfl)
   |(obtain⟨_,rfl,_⟩:=h;rfl)
   |(obtain⟨_,_,_,_,_,_,rfl,_⟩:=h;rfl)
   |(obtain⟨_,_,rfl,_⟩:=h;rfl)
def all1:List CV->Bool
 |[]=>true
 |c::r=>one c&&all1 r
theorem Cd_ {β:Be}:∀ {cs:List CV} {vs:List Value},VRs β cs vs->all1 cs=true->∀ v∈vs,v.oneCell'=true
 |[],_,h,_,v,hv=>by rw[h.nil_inv] at hv;cases hv
 |_::_,_,h,k,v,hv=>by
   obtain⟨w,us,rfl,h1,h2⟩:=h.cons_inv
   simp only[all1,Bool.and_eq_true] at k
   rcases List.mem_cons.1 hv with rfl|hv
   . exact Qt_ h1 k.1
   . exact Cd_ h2 k.2 v hv
inductive HB where
 |cells (T:TypeId) (cs:List CV) (gr:Bool)
 |bys (T:TypeId) (n x:Nat) (gr:Bool)
 |rob (T:TypeId) (n x:Nat)
 |itr (n x p:Nat)
 |mp (es:List (CV×CV×Nat)) (clk:Nat)
 |dead
def ER (β:Be) (x:CV×CV×Nat) (e:MapEntry):Prop:=VR β x.1 e.key/\VR β x.2.1 e.val/\e.born=x.2.2
def ERs (β:Be):List (CV×CV×Nat)->List MapEntry->Prop
 |[],es=>es=[]
 |x::r,es=>∃ e fs,es=e::fs/\ER β x e/\ERs β r fs
theorem ERs.mono {β β':Be} (hl:β.le β'):∀ {xs:List (CV×CV×Nat)} {es:List MapEntry},ERs β xs es->ERs β' xs es
 |[],_,h=>h
 |_::_,_,h=>by simp only[ERs] at h ⊢;obtain⟨e,fs,rfl,h1,h2⟩:=h;exact⟨e,fs,rfl,⟨h1.1.mono hl,h1.2.1.mono hl,h1.2.2⟩,h2.mono hl⟩
def BR (β:Be) (i:Nat):HB->Option (Nat×Obj)->Prop
 | .cells T cs gr,x=>∃ q vs,β i=some q/\x=some (q.b,bx T vs)/\vs.length=q.s+q.r/\cs.length<=q.r/\(gr=false->q.s=0/\q.r=cs.length)/\VRs β cs ((vs.drop q.s).take cs.length)/\∀ v∈vs,v.oneCell'=true
 | .bys T n z gr,x=>∃ q vs,β i=some q/\x=some (q.b,bx T vs)/\vs.length=q.s+q.r/\n<=q.r/\(gr=false->q.s=0/\q.r=n)/\z<256 ^ n/\(vs.drop q.s).take n=(dec n z).map u8v/\∀ v∈vs,v.oneCell'=true
 | .rob T n z,x=>∃ q vs fr,β i=some q/\x=some (q.b, .cells vs T fr)/\q.s=0/\z<256 ^ n/\vs.toList.take n=(dec n z).map u8v
 | .itr n z p,x=>∃ q,β i=some q/\q.s=0/\z<256 ^ n/\x=some (q.b,SW.itr (dec n z) p)
 | .mp es clk,x=>∃ q fs,β i=some q/\x=some (q.b, .map fs clk)/\ERs β es fs.toList
 | .dead,x=>x=none
theorem BR.mono {β β':Be} (hl:β.le β') {i:Nat} {hb:HB} {x:Option (Nat×Obj)} (h:BR β i hb x):BR β' i hb x:=by
 cases hb with
 |cells T cs gr=>obtain⟨q,vs,h1,h2,h3,h4,h5,h6,h7⟩:=h;exact⟨q,vs,hl _ _ h1,h2,h3,h4,h5,h6.mono hl,h7⟩
 |bys T n z gr=>obtain⟨q,vs,h1,h2⟩:=h;exact⟨q,vs,hl _ _ h1,h2⟩
 |rob T n z=>obtain⟨q,vs,fr,h1,h2⟩:=h;exact⟨q,vs,fr,hl _ _ h1,h2⟩
 |itr n z p=>obtain⟨q,h1,h2⟩:=h;exact⟨q,hl _ _ h1,h2⟩
 |mp es clk=>obtain⟨q,fs,h1,h2,h3⟩:=h;exact⟨q,fs,hl _ _ h1,h2,h3.mono hl⟩
 |dead=>exact h
abbrev Fe:=Nat->Option CV
abbrev He:=Tr HB
def FR (β:Be) (f:Fe) (F:Fr):Prop:=∀ t c,f t=some c->VR β c (F t)
structure HR (β:Be) (h:He) (nx:Nat) (L:Ls):Prop where
 br:∀ i hb,h.get i=some hb->BR β i hb (L i)
 lt:∀ i hb,h.get i=some hb->i<nx
 fr:∀ i,nx<=i->β i=none/\L i=none
theorem FR.mono {β β':Be} (hl:β.le β') {f:Fe} {F:Fr} (h:FR β f F):FR β' f F:=λt c e=>(h t c e).mono hl
variable {P:Program} {N:SW.Rest} {F:Fr} {H:Hp} {L:Ls} {ty T T':TypeId} {x y z:Operand} {β:Be} {f:Fe}
def vC1:Value->Option CV
 | .int k n=>some (.int k n)
 | .bool b=>some (.bool b)
 | .string s=>some (.str s.data.toList.length (enc s.data.toList))
 | .pointer none=>some .nilp
 | .slice none 0 0=>some .nils
 | .nilFunc=>some .nilf
 | .map none=>some .nilm
 | .nilIface=>some .nili
 |_=>none
def vCs:List Value->Option (List CV)
 |[]=>some []
 |v::r=>match vC1 v with
   |some c=>match vCs r with
     |some cs=>some (c::cs)
     |none=>none
   |none=>none
def vC:Value->Option CV
 | .agg cs=>match vCs cs.toList with
   |some cs=>some (.agg cs)
   |none=>none
 |v=>vC1 v
theorem Vc_ {v:Value} {c:CV} (h:vC1 v=some c):VR β c v:=by
 unfold vC1 at h
 split at h<;>first|(cases h;done)|skip
 all_goals (simp only[Option.some.injEq] at h;subst h)
 all_goals simp only[VR]
 rename_i s
 exact⟨Mp_ _,by rw[I5_];exact Nr_ s⟩
theorem R4_:∀ {vs:List Value} {cs:List CV},vCs vs=some cs->VRs β cs vs
 |[],cs,h=>by simp only[vCs,Option.some.injEq] at h;subst h;exact .nil
 |v::r,cs,h=>by
   simp only[vCs] at h
   split at h
   . rename_i c hc
     split at h
     . rename_i ds hd
       simp only[Option.some.injEq] at h;subst h
       exact .cons (Vc_ hc) (R4_ hd)
     . cases h
   . cases h
theorem vC_ok {v:Value} {c:CV} (h:vC v=some c):VR β c v:=by
 unfold vC at h
 split at h
 . rename_i cs
   split at h
   . rename_i ds hd
     simp only[Option.some.injEq] at h;subst h
     simp only[VR]
     exact⟨cs.toList,rfl,R4_ hd⟩
   . cases h
 exact Vc_ h
def ef (f:Fe):Operand->Option CV
 | .tmp t=>f t
 | .const v=>vC v
 | .global g=>some (.gp g 0)
 | .func g=>some (.fn g [] [])
theorem Q_ (hf:FR β f F) {c:CV} (h:ef f x=some c):VR β c (ev F x):=by
 cases x with
 |tmp t=>exact hf t c h
 |const v=>exact vC_ok h
 |func g=>simp only[ef,Option.some.injEq] at h;subst h;simp only[VR,ev];exact⟨[],[],rfl, .nil, .nil⟩
 |_=>simp only[ef,Option.some.injEq] at h;subst h;simp[VR,ev]
def efs (f:Fe):List Operand->Option (List CV)
 |[]=>some []
 |x::r=>match ef f x with
   |some c=>match efs f r with
     |some cs=>some (c::cs)
     |none=>none
   |none=>none
theorem Fd_ (hf:FR β f F):∀ {xs:List Operand} {cs:List CV},efs f xs=some cs->VRs β cs (evs F xs)
 |[],cs,h=>by simp only[efs,Option.some.injEq] at h;subst h;exact .nil
 |x::r,cs,h=>by
   simp only[efs] at h
   split at h
   . rename_i c hc
     split at h
     . rename_i ds hd
       simp only[Option.some.injEq] at h;subst h
       exact .cons (Q_ hf hc) (Fd_ hf hd)
     . cases h
   . cases h
def bI (op:BinOp) (k:IntKind) (a b:Int):Option CV:=
 match op with
 | .add=>some (.int k (k.wrap (a+b)))
 | .sub=>some (.int k (k.wrap (a-b)))
 | .mul=>some (.int k (k.wrap (a*b)))
 | .quo=>bif decide (b=0) then none else some (.int k (k.wrap (a.tdiv b)))
 | .rem=>bif decide (b=0) then none else some (.int k (a.tmod b))
 | .and=>some (.int k (k.wrap (BitVec.ofInt k.bits a &&& BitVec.ofInt k.bits b).toNat))
 | .or=>some (.int k (k.wrap (BitVec.ofInt k.bits a |||BitVec.ofInt k.bits b).toNat))
 | .xor=>some (.int k (k.wrap (BitVec.ofInt k.bits a ^^^ BitVec.ofInt k.bits b).toNat))
 | .andNot=>some (.int k (k.wrap (BitVec.ofInt k.bits a &&& ~~~BitVec.ofInt k.bits b).toNat))
 | .eql=>some (.bool (decide (a=b)))
 | .neq=>some (.bool (!decide (a=b)))
 | .lss=>some (.bool (decide (a<b)))
 | .leq=>some (.bool (decide (a<=b)))
 | .gtr=>some (.bool (decide (a>b)))
 | .geq=>some (.bool (decide (a>=b)))
 |_=>none
def mxN (k:IntKind):Nat:=match k with
 | .i8=>127
 | .i16=>32767
 | .i32=>2147483647
 | .i64=>9223372036854775807
 | .u8=>255
 | .u16=>65535
 | .u32=>4294967295
 | .u64=>18446744073709551615
def p2 (n:Nat):Int:= .ofNat (Nat.pow 2 n)
theorem Tc_ (n:Nat):p2 n=(2:Int) ^ n:=by
 show ((2 ^ n:Nat):Int)=_;rw[Int.natCast_pow];rfl
def wrN (k:IntKind) (r:Nat):Int:=bif k.signed&&Nat.blt (mxN k) r then .negSucc (Nat.sub (Nat.sub (Nat.pow 2 k.bits) r) 1) else .ofNat r
def wrF (k:IntKind) (z:Int):Int:=match z with
 | .ofNat m=>bif Nat.ble m (mxN k) then .ofNat m else wrN k (Nat.mod m (Nat.pow 2 k.bits))
 | .negSucc m=>bif k.signed&&Nat.ble m (mxN k) then .negSucc m else wrN k (Nat.sub (Nat.sub (Nat.pow 2 k.bits) 1) (Nat.mod m (Nat.pow 2 k.bits)))
theorem Vg_ (k:IntKind) (r:Nat) (z:Int) (h:z%p2 k.bits=(r:Int)) (hr:r<Nat.pow 2 k.bits):wrN k r=k.wrap z:=by
 unfold wrN IntKind.wrap;rw[<- Tc_,h]
 cases hs:k.signed with
 |false=>simp
 |true=>
   simp only[Bool.true_and]
   cases hb:Nat.blt (mxN k) r with
   |true=>
     have hb:=Nat.le_of_ble_eq_true hb
     cases k<;>simp only[mxN,IntKind.signed,reduceCtorEq] at hb hs<;>simp only[p2,IntKind.bits] at hr ⊢ <;>simp at hr ⊢ <;>(rw[if_pos xN];omega)
   |false=>
     have hb:¬mxN k+1<=r:=λq=>by rw[show Nat.blt (mxN k) r=true from Nat.ble_eq_true_of_le q] at hb;cases hb
     cases k<;>simp only[mxN,IntKind.signed,reduceCtorEq] at hb hs<;>simp only[p2,IntKind.bits] at hr ⊢ <;>simp at hr ⊢ <;>omega
theorem K6_ (k:IntKind) (z:Int):wrF k z=k.wrap z:=by
 unfold wrF
 cases z with
 |ofNat m=>
   simp only
   cases hb:Nat.ble m (mxN k) with
   |false=>
     refine Vg_ k _ _ ?_ (Nat.mod_lt _ (Nat.pow_pos xQ))
     show ((m:Int)%((Nat.pow 2 k.bits:Nat):Int))=_
     exact (Int.natCast_emod _ _).symm
   |true=>
     have h:=Nat.le_of_ble_eq_true hb
     simp only[cond_true]
     cases k<;>simp only[mxN] at h<;>simp[IntKind.wrap,IntKind.bits,IntKind.signed]<;>omega
 |negSucc m=>
   simp only
   cases hb:(k.signed&&Nat.ble m (mxN k)) with
   |true=>
     simp only[Bool.and_eq_true] at hb
     have h:=Nat.le_of_ble_eq_true hb.2
     have hs:=hb.1
     simp only[cond_true]
     cases k<;>simp only[mxN,IntKind.signed,reduceCtorEq] at h hs<;>simp only[IntKind.wrap,IntKind.bits,IntKind.signed,<- Tc_,Int.negSucc_eq,Bool.true_and]<;>simp only[p2,Nat.reducePow,show ∀ a b,Nat.pow a b=a ^ b from λ_ _=>rfl,decide_eq_true_eq]<;>(simp only[Int.ofNat_eq_natCast] at *;split<;>omega)
   |false=>
     simp only[cond_false]
     have hp:0<Nat.pow 2 k.bits:=Nat.pow_pos xQ
     have hm:=Nat.mod_lt m hp
     refine Vg_ k _ _ ?_ (by simp only[Nat.sub_eq];omega)
     show (Int.negSucc m%((Nat.pow 2 k.bits:Nat):Int))=_
     generalize Nat.pow 2 k.bits=q at *
     rw[Int.negSucc_emod_ofNat]
     have e:((m%q:Nat):Int)=(m:Int)%(q:Int):=Int.natCast_emod m q
     have hm:m%q<q:=hm
     show _=((q-1-m%q:Nat):Int)
     generalize m%q=r at *
     simp only[Int.subNatNat_eq_coe,Nat.succ_eq_add_one]
     omega
def nBit (f:Nat->Nat->Nat) (k:IntKind) (a b:Int) (d:Int):Int:=match a with
 | .ofNat a=>match b with
   | .ofNat b=>wrF k (.ofNat (f (Nat.mod a (Nat.pow 2 k.bits)) (Nat.mod b (Nat.pow 2 k.bits))))
   |_=>d
 |_=>d
def iAdd (k:IntKind) (a b:Int):Option CV:=some (.int k (wrF k (a+b)))
def iSub (k:IntKind) (a b:Int):Option CV:=some (.int k (wrF k (a-b)))
def iMul (k:IntKind) (a b:Int):Option CV:=some (.int k (wrF k (a*b)))
def iQuo (k:IntKind) (a b:Int):Option CV:=bif decide (b=0) then none else some (.int k (wrF k (a.tdiv b)))
def iRem (k:IntKind) (a b:Int):Option CV:=bif decide (b=0) then none else some (.int k (a.tmod b))
def iAnd (k:IntKind) (a b:Int):Option CV:=some (.int k (nBit Nat.land k a b (k.wrap (BitVec.ofInt k.bits a &&& BitVec.ofInt k.bits b).toNat)))
def iOr (k:IntKind) (a b:Int):Option CV:=some (.int k (nBit Nat.lor k a b (k.wrap (BitVec.ofInt k.bits a |||BitVec.ofInt k.bits b).toNat)))
def iXor (k:IntKind) (a b:Int):Option CV:=some (.int k (nBit Nat.xor k a b (k.wrap (BitVec.ofInt k.bits a ^^^ BitVec.ofInt k.bits b).toNat)))
def iAn (k:IntKind) (a b:Int):Option CV:=some (.int k (k.wrap (BitVec.ofInt k.bits a &&& ~~~BitVec.ofInt k.bits b).toNat))
def iEql (_:IntKind) (a b:Int):Option CV:=some (.bool (decide (a=b)))
def iNeq (_:IntKind) (a b:Int):Option CV:=some (.bool (!decide (a=b)))
def iLss (_:IntKind) (a b:Int):Option CV:=some (.bool (decide (a<b)))
def iLeq (_:IntKind) (a b:Int):Option CV:=some (.bool (decide (a<=b)))
def iGtr (_:IntKind) (a b:Int):Option CV:=some (.bool (decide (a>b)))
def iGeq (_:IntKind) (a b:Int):Option CV:=some (.bool (decide (a>=b)))
def iNo (_:IntKind) (_ _:Int):Option CV:=none
def bF (op:BinOp):IntKind->Int->Int->Option CV:=match op with
 | .add=>iAdd
 | .sub=>iSub
 | .mul=>iMul
 | .quo=>iQuo
 | .rem=>iRem
 | .and=>iAnd
 | .or=>iOr
 | .xor=>iXor
 | .andNot=>iAn
 | .eql=>iEql
 | .neq=>iNeq
 | .lss=>iLss
 | .leq=>iLeq
 | .gtr=>iGtr
 | .geq=>iGeq
 |_=>iNo
theorem J7_ (w a:Nat):(BitVec.ofInt w (Int.ofNat a)).toNat=a%2 ^ w:=by
 rw[BitVec.toNat_ofInt];have :(Int.ofNat a)%((2 ^ w:Nat):Int)=((a%2 ^ w:Nat):Int):=by simp
 rw[this];exact Int.toNat_natCast _
theorem bF_eq (op:BinOp) (k:IntKind) (a b:Int):bF op k a b=bI op k a b:=by
 cases op<;>simp only[bF,bI,iAdd,iSub,iMul,iQuo,iRem,iAnd,iOr,iXor,iAn,iEql,iNeq,iLss,iLeq,iGtr,iGeq,iNo,K6_]
 all_goals
   cases a<;>cases b<;>simp only[nBit,K6_,BitVec.toNat_and,BitVec.toNat_or,BitVec.toNat_xor,J7_]
   rfl
def bSh (op:BinOp) (k:IntKind) (a b:Int):Option CV:=
 bif decide (b<0) then none else match op with
 | .shl=>some (.int k (wrF k (a*p2 (min b.toNat k.bits))))
 | .shr=>some (.int k (a.fdiv (p2 (min b.toNat k.bits))))
 |_=>none
def bS (op:BinOp) (n x m y:Nat):Option CV:=
 match op with
 | .add=>bif Nat.ble (n+m) 9223372036854775807 then some (.str (n+m) (x+y*256 ^ n)) else none
 | .eql=>some (.bool (Nat.beq n m&&Nat.beq x y))
 | .neq=>some (.bool (!(Nat.beq n m&&Nat.beq x y)))
 | .lss=>some (.bool (Op.bytesLess (dec n x) (dec m y)))
 |_=>none
def isSh:BinOp->Bool
 | .shl=>true
 | .shr=>true
 |_=>false
theorem lo_sh {op:BinOp} {k k':IntKind} {a b:Int} {c:CV} (hx:ev F x = .int k a) (hy:ev F y = .int k' b) (h:bSh op k a b=some c):∃ v,VR β c v/\Lo P N (.binOp op T x y T') ty F H L v:=by
 unfold bSh at h
 cases hb:decide (b<0) with
 |true=>rw[hb] at h;cases h
 |false=>
   rw[hb] at h
   have h0:0<=b:=by simpa using hb
   simp only[cond_false] at h
   cases op<;>first|(cases h;done)|(simp only[Option.some.injEq] at h;subst h)
   . exact⟨_,rfl,by rw[K6_,Tc_];exact Uv_ hx hy h0⟩
   . exact⟨_,rfl,by rw[Tc_];exact M5_ hx hy h0⟩
theorem lo_bI {op:BinOp} {k:IntKind} {a b:Int} {c:CV} (hx:ev F x = .int k a) (hy:ev F y = .int k b) (h:bI op k a b=some c):∃ v,VR β c v/\Lo P N (.binOp op T x y T') ty F H L v:=by
 have g:∀ {op:BinOp} {v:Value},(∀ w,(binOp op T (.int k a) (.int k b)).run P w = .ok v w)->Lo P N (.binOp op T x y T') ty F H L v:=λh=>Aj_ hx hy (O_) h
 cases op<;>simp only[bI] at h<;>first
   |(cases h;done)
   |(simp only[Option.some.injEq] at h;subst h;refine⟨_,rfl,g λw=>?_⟩;simp[binOp,Op.intArith,Op.intBits,Op.intCmp];done)
   |(simp only[Option.some.injEq] at h;subst h;refine⟨_,rfl,g λw=>?_⟩;simp[binOp,Op.intCmp,bne,Pz_];done)
   |skip
 all_goals (cases hb:decide (b=0) with
   |true=>rw[hb] at h;cases h
   |false=>
     rw[hb] at h
     have h0:¬b=0:=by simpa using hb
     simp only[cond_false,Option.some.injEq] at h
     subst h;refine⟨_,rfl,g λw=>?_⟩;simp[binOp,Op.intDiv,h0])
theorem O7_ {n m x y:Nat} (h:x<256 ^ n) (k:y<256 ^ m):decide (dec n x=dec m y)=(Nat.beq n m&&Nat.beq x y):=by
 rw[Bool.eq_iff_iff];simp only[decide_eq_true_eq,Bool.and_eq_true];constructor;intro e;have hl:=congrArg List.length e;rw[D_,D_] at hl;subst hl;exact⟨Nat.beq_refl _,by rw[O8_ n x y h k e];exact Nat.beq_refl _⟩;rintro⟨e1,e2⟩;rw[Nat.eq_of_beq_eq_true e1,Nat.eq_of_beq_eq_true e2]
theorem M7_ {n m x y:Nat} (h:x<256 ^ n) (k:y<256 ^ m):x+y*256 ^ n<256 ^ (n+m):=by
 have :(y+1)*256 ^ n<=256 ^ m*256 ^ n:=Nat.mul_le_mul_right _ k;rw[Nat.pow_add,Nat.mul_comm (256 ^ n)];exact yM
theorem lo_bS {op:BinOp} {n m a b:Nat} {c:CV} (ha:a<256 ^ n) (hb:b<256 ^ m) (hx:ev F x=SW.str (dec n a)) (hy:ev F y=SW.str (dec m b)) (h:bS op n a m b=some c):∃ v,VR β c v/\Lo P N (.binOp op T x y T') ty F H L v:=by
 cases op<;>simp only[bS] at h<;>first|(cases h;done)|skip
 . cases hb':Nat.ble (n+m) 9223372036854775807 with
   |false=>rw[hb'] at h;cases h
   |true=>
     rw[hb'] at h
     simp only[cond_true,Option.some.injEq] at h;subst h
     refine⟨_,⟨M7_ ha hb,rfl⟩,?_⟩
     have :=P9_ (P:=P) (N:=N) (H:=H) (L:=L) (ty:=ty) (T:=T) (T':=T') hx hy (by rw[D_,D_];exact Nat.le_of_ble_eq_true hb')
     rwa [E4_ _ _ _ _ ha] at this
 . simp only[Option.some.injEq] at h;subst h
   refine⟨_,rfl,?_⟩
   have :=Qb_ (P:=P) (N:=N) (H:=H) (L:=L) (ty:=ty) (T:=T) (T':=T') hx hy
   rwa [O7_ ha hb] at this
 . simp only[Option.some.injEq] at h;subst h
   refine⟨_,rfl,?_⟩
   have :=Qd_ (P:=P) (N:=N) (H:=H) (L:=L) (ty:=ty) (T:=T) (T':=T') hx hy
   rwa [O7_ ha hb] at this
 simp only[Option.some.injEq] at h;subst h;exact⟨_,rfl,Qc_ hx hy⟩
end Go.CE
namespace Go.CE
open Go.SW
variable {P:Program} {N:SW.Rest} {F:Fr} {H:Hp} {L:Ls} {ty T T':TypeId} {x y z:Operand} {β:Be} {f:Fe}
def szE (P:Program) (T:TypeId):Option Nat:=match P.info? T with
 |some i=>some i.size
 |none=>none
theorem A0_ {k:Nat} (h:szE P T=some k):Sz P T k:=by
 unfold szE at h
 split at h
 . rename_i i hi;simp only[Option.some.injEq] at h;intro w;simp[sizeOf,typeInfo,hi,h]
 . cases h
theorem szE_cells {k:Nat} (h:szE P T=some k):P.cellsOf T=k:=by
 unfold szE at h
 split at h
 . rename_i i hi;simp only[Option.some.injEq] at h;simp[Program.cellsOf,hi,h]
 . cases h
def agE (P:Program) (T:TypeId):Option Bool:=match P.underlying T with
 |some (.struct _)=>some true
 |some (.array _ _)=>some true
 |some _=>some false
 |none=>none
theorem Ex_ {g:Bool} (h:agE P T=some g):Ag P T g:=by
 unfold agE at h;intro w
 split at h
 exact yI;exact yI
 . rename_i d h1 h2 hu
   simp only[Option.some.injEq] at h;subst h
   cases d<;>first|(exact (h1 _ Y).elim)|(exact (h2 _ _ Y).elim)|simp[isAgg,run_underlying hu]
 . cases h
mutual
def eqC (P:Program):Nat->TypeId->CV->CV->Option Bool
 |0,_,_,_=>none
 |d+1,t,a,b=>match P.underlying t with
   |some (.int _)=>match a with
     | .int k p=>match b with
       | .int k' q=>bif decide (k=k') then some (decide (p=q)) else none
       |_=>none
     |_=>none
   |some .string=>match a with
     | .str n p=>match b with
       | .str m q=>some (Nat.beq n m&&Nat.beq p q)
       |_=>none
     |_=>none
   |some .bool=>match a with
     | .bool p=>match b with
       | .bool q=>some (decide (p=q))
       |_=>none
     |_=>none
   |some (.struct fs)=>match a with
     | .agg p=>match b with
       | .agg q=>bif P.stoodInHeld t then none else eqFs P d p q fs.toList
       |_=>none
     |_=>none
   |_=>none
def eqFs (P:Program):Nat->List CV->List CV->List Field->Option Bool
 |0,_,_,_=>none
 |d+1,_,_,[]=>some true
 |d+1,p,q,f::fs=>bif decide (f.name = "_") then none else
   match agE P f.type with
   |some true=>match szE P f.type with
     |some k=>match eqC P d f.type (.agg ((p.drop f.offset).take k)) (.agg ((q.drop f.offset).take k)) with
       |some r=>match eqFs P d p q fs with
         |some r'=>some (r&&r')
         |none=>none
       |none=>none
     |none=>none
   |some false=>match p[f.offset]? with
     |some a=>match q[f.offset]? with
       |some b=>match eqC P d f.type a b with
         |some r=>match eqFs P d p q fs with
           |some r'=>some (r&&r')
           |none=>none
         |none=>none
       |none=>none
     |none=>none
   |none=>none
end
mutual
theorem Pd_:∀ (d:Nat) {t:TypeId} {a b:CV} {u v:Value} {r:Bool},eqC P d t a b=some r->VR β a u->VR β b v->∀ e,d<=e->EqV P e t u v r
 |0,_,_,_,_,_,_,h,_,_,_,_=>by simp[eqC] at h
 |d+1,t,a,b,u,v,r,h,ha,hb,e,he=>by
   obtain⟨e,rfl⟩:∃ e',e=e'+1:=⟨e-1,by omega⟩
   simp only[eqC] at h
   split at h
   . rename_i hu
     split at h
     . rename_i k p
       split at h
       . rename_i k' q
         simp only[VR] at ha hb;subst ha;subst hb
         cases hk:decide (k=k') with
         |true=>rw[hk] at h;simp only[cond_true,Option.some.injEq] at h;subst h;have :=of_decide_eq_true hk;subst this;exact D9_ hu
         |false=>rw[hk] at h;cases h
       . cases h
     . cases h
   . rename_i hu
     split at h
     . rename_i n p
       split at h
       . rename_i m q
         simp only[VR] at ha hb
         obtain⟨ha,rfl⟩:=ha;obtain⟨hb,rfl⟩:=hb
         simp only[Option.some.injEq] at h;subst h
         have :=Pe_ (P:=P) (d:=e) (a:=dec n p) (b:=dec m q) hu
         rwa [O7_ ha hb] at this
       . cases h
     . cases h
   . rename_i hu
     split at h
     . split at h
       . simp only[VR] at ha hb;subst ha;subst hb
         simp only[Option.some.injEq] at h;subst h
         exact So_ hu
       . cases h
     . cases h
   . rename_i fs hu
     split at h
     . split at h
       . simp only[VR] at ha hb
         obtain⟨xs,rfl,ha⟩:=ha;obtain⟨ys,rfl,hb⟩:=hb
         cases hs:P.stoodInHeld t with
         |true=>rw[hs] at h;cases h
         |false=>
           rw[hs] at h
           exact Lh_ hu hs (Lf_ d h ha hb e xN)
       . cases h
     . cases h
   . cases h
theorem Lf_:∀ (d:Nat) {p q:List CV} {xs ys:List Value} {fs:List Field} {r:Bool},eqFs P d p q fs=some r->VRs β p xs->VRs β q ys->∀ e,d<=e->EqF P e xs ys fs r
 |0,_,_,_,_,_,_,h,_,_,_,_=>by simp[eqFs] at h
 |d+1,p,q,xs,ys,[],r,h,_,_,e,he=>by
   simp only[eqFs,Option.some.injEq] at h;subst h;exact Lg_
 |d+1,p,q,xs,ys,f::fs,r,h,hp,hq,e,he=>by
   simp only[eqFs] at h
   cases hn:decide (f.name = "_") with
   |true=>rw[hn] at h;cases h
   |false=>
     rw[hn] at h
     have hn':¬f.name = "_" :=of_decide_eq_false hn
     simp only[cond_false] at h
     split at h
     . rename_i hg
       split at h
       . rename_i k hk
         split at h
         . rename_i r1 h1
           split at h
           . rename_i r2 h2
             simp only[Option.some.injEq] at h;subst h
             refine eqf_A hn' (Ex_ hg) (A0_ hk) Y Y (Pd_ d h1 ?_ ?_ e xN) (Lf_ d h2 hp hq e xN)
             . simp only[VR];exact⟨_,rfl,(hp.drop _).take _⟩
             . simp only[VR];exact⟨_,rfl,(hq.drop _).take _⟩
           . cases h
         . cases h
       . cases h
     . rename_i hg
       split at h
       . rename_i a ha
         split at h
         . rename_i b hb
           split at h
           . rename_i r1 h1
             split at h
             . rename_i r2 h2
               simp only[Option.some.injEq] at h;subst h
               obtain⟨u,e1,e2⟩:=hp.get ha
               obtain⟨v,e3,e4⟩:=hq.get hb
               exact I7_ hn' (Ex_ hg) e1 e3 (Pd_ d h1 e2 e4 e xN) (Lf_ d h2 hp hq e xN)
             . cases h
           . cases h
         . cases h
       . cases h
     . cases h
end
def eqE (P:Program) (T:TypeId) (x y:Operand) (a b:CV):Option Bool:=
 match a with
 | .bool p=>match b with
   | .bool q=>match P.underlying T with
     |some .bool=>some (p==q)
     |_=>none
   |_=>none
 | .agg p=>match b with
   | .agg q=>bif P.eqGuardType P.depth T then none else eqC P 40 T (.agg p) (.agg q)
   |_=>none
 | .ptr i o=>match b with
   | .nilp=>match P.underlying T with
     |some (.pointer _)=>some false
     |_=>none
   | .ptr j q=>bif Nat.beq i j&&Nat.beq o q then (match P.underlying T with
     |some (.pointer e)=>match P.info? e with
       |some _=>some true
       |none=>none
     |_=>none) else none
   |_=>none
 | .gp _ _=>match b with
   | .nilp=>match P.underlying T with
     |some (.pointer _)=>some false
     |_=>none
   |_=>none
 | .nilp=>match b with
   | .nilp=>match P.underlying T with
     |some (.pointer _)=>some true
     |_=>none
   |_=>none
 | .sl _ _ _ _=>match b with
   | .nils=>match P.underlying T with
     |some (.slice _)=>some false
     |_=>none
   |_=>none
 | .slu _ _ _ _=>match b with
   | .nils=>match P.underlying T with
     |some (.slice _)=>some false
     |_=>none
   |_=>none
 | .nils=>match b with
   | .nils=>match P.underlying T with
     |some (.slice _)=>some true
     |_=>none
   |_=>none
 | .nilf=>match b with
   | .nilf=>match P.underlying T with
     |some (.func _ _ _)=>some true
     |_=>none
   |_=>none
 | .fn _ _ _=>match b with
   | .nilf=>match P.underlying T with
     |some (.func _ _ _)=>some false
     |_=>none
   |_=>none
 | .nili=>match b with
   | .nili=>match y with
     | .const _=>match P.underlying T with
       |some (.interface _)=>some true
       |_=>none
     |_=>none
   |_=>none
 | .ifc _ _=>match b with
   | .nili=>match P.underlying T with
     |some (.interface _)=>some false
     |_=>none
   |_=>none
 |_=>none
end Go.CE
namespace Go.CE
open Go.SW
variable {P:Program} {N:SW.Rest} {F:Fr} {H:Hp} {L:Ls} {ty T T':TypeId} {x y z:Operand} {β:Be} {f:Fe}
theorem Kj_ {op:BinOp} {u v:Value} (h1:∀ a b,u = .agg a->v = .agg b->P.eqGuardType P.depth T=false) (h2:u = .nilIface->v = .nilIface->∃ c,y = .const c) (w:World):(eqGuard op T x y u v).run P w = .ok () w:=by
 cases u<;>cases v<;>first
   |(exact run_eqGuard_agg w op T x y _ _ (h1 _ _ Y Y))
   |(obtain⟨c,rfl⟩:=h2 Y Y;cases op<;>simp[eqGuard];done)
   |(cases op<;>simp[eqGuard];done)
theorem Dw_ {u v:Value} {r:Bool} (h:∀ d w,(Op.equalIn (d+1) T u v).run P w = .ok r w):EqV P 10000 T u v r:=λw=>h 9999 w
theorem C8_ {u v:Value} {r:Bool} (hx:ev F x=u) (hy:ev F y=v) (h1:∀ a b,u = .agg a->v = .agg b->P.eqGuardType P.depth T=false) (h2:u = .nilIface->v = .nilIface->∃ c,y = .const c)
   (hi:∀ k a,u ≠ .int k a) (hs:∀ a,u ≠ .string a) (hf:∀ k a,u ≠ .float k a) (hc:∀ k a b,u ≠ .complex k a b) (h:EqV P 10000 T u v r):Lo P N (.binOp .eql T x y T') ty F H L (.bool r)/\Lo P N (.binOp .neq T x y T') ty F H L (.bool (!r)):=by
 constructor;exact zW;exact zW
theorem Up_ {a b:CV} {r:Bool} (hx:VR β a (ev F x)) (hy:VR β b (ev F y)) (h:eqE P T x y a b=some r):Lo P N (.binOp .eql T x y T') ty F H L (.bool r)/\Lo P N (.binOp .neq T x y T') ty F H L (.bool (!r)):=by
 generalize hu:ev F x=u at hx;generalize hv:ev F y=v at hy;unfold eqE at h
 split at h
 . -- truth values
   split at h
   . split at h
     . rename_i hT
       simp only[VR] at hx hy;subst hx;subst hy
       simp only[Option.some.injEq] at h;subst h
       refine C8_ hu hv xP xP xP xP xP xP (Dw_ λd w=>Cv_ d hT w)
     . cases h
   . cases h
 . -- structs
   rename_i p
   split at h
   . rename_i q
     cases hg:P.eqGuardType P.depth T with
     |true=>rw[hg] at h;cases h
     |false=>
       rw[hg] at h
       simp only[cond_false] at h
       have hE:=Pd_ 40 h hx hy 10000 xN
       simp only[VR] at hx hy
       obtain⟨xs,rfl,hx⟩:=hx;obtain⟨ys,rfl,hy⟩:=hy
       exact C8_ hu hv (λ_ _ _ _=>hg) xP xP xP xP xP hE
   . cases h
 . -- a pointer
   split at h
   . split at h
     . rename_i e hT
       simp only[VR] at hx hy;obtain⟨q,_,rfl⟩:=hx;exact xI
     . cases h
   . rename_i i o _ j q
     cases hb:(Nat.beq i j&&Nat.beq o q) with
     |false=>rw[hb] at h;cases h
     |true=>
       rw[hb] at h
       simp only[Bool.and_eq_true] at hb
       have e1:=Nat.eq_of_beq_eq_true hb.1;have e2:=Nat.eq_of_beq_eq_true hb.2
       subst e1;subst e2
       simp only[cond_true] at h
       split at h
       . rename_i e hT
         split at h
         . rename_i j hj
           simp only[VR] at hx hy;obtain⟨q1,h1,rfl⟩:=hx;obtain⟨q2,h2,rfl⟩:=hy
           rw[h1] at h2;cases h2
           simp only[Option.some.injEq] at h;subst h
           refine C8_ hu hv xP xP xP xP xP xP (Dw_ λd w=>?_)
           by_cases h0:j.size=0
           . simp[Op.equalIn,run_underlying hT,sizeOf,typeInfo,hj,h0]
           . simp[Op.equalIn,run_underlying hT,sizeOf,typeInfo,hj,h0,sameAddr]
         . cases h
       . cases h
   . cases h
 . split at h
   . split at h
     . rename_i e hT
       simp only[VR] at hx hy;subst hx;exact xI
     . cases h
   . cases h
 . split at h
   . split at h
     . rename_i e hT
       exact xM
     . cases h
   . cases h
 . split at h
   . split at h
     . rename_i e hT
       simp only[VR] at hx hy;obtain⟨q,_,rfl⟩:=hx;exact xH
     . cases h
   . cases h
 . split at h
   . split at h
     . rename_i e hT
       simp only[VR] at hx hy;obtain⟨q,c,a,_,_,_,rfl,_⟩:=hx;exact xH
     . cases h
   . cases h
 . split at h
   . split at h
     . rename_i e hT
       exact xM
     . cases h
   . cases h
 . split at h
   . split at h
     . rename_i hT
       exact xM
     . cases h
   . cases h
 . split at h
   . split at h
     . rename_i hT
       simp only[VR] at hx hy;obtain⟨vs,us,rfl,_⟩:=hx;exact xH
     . cases h
   . cases h
 . split at h
   . split at h
     . split at h
       . rename_i hT
         simp only[VR] at hx hy;subst hx;subst hy
         simp only[Option.some.injEq] at h;subst h
         refine C8_ hu hv xP (λ_ _=>⟨_,rfl⟩) xP xP xP xP (Dw_ λd w=>?_)
         exact xB
       . cases h
     . cases h
   . cases h
 . split at h
   . split at h
     . rename_i hT
       simp only[VR] at hx hy;obtain⟨u',rfl,_⟩:=hx;exact xH
     . cases h
   . cases h
 . cases h
def binE (P:Program) (op:BinOp) (T:TypeId) (x y:Operand) (a b:CV):Option CV:=
 match a with
 | .int k p=>match b with
   | .int k' q=>bif isSh op then bSh op k p q else bif decide (k=k') then bF op k p q else none
   |_=>none
 | .str n p=>match b with
   | .str m q=>bS op n p m q
   |_=>none
 |a=>match op with
   | .eql=>match eqE P T x y a b with
     |some r=>some (.bool r)
     |none=>none
   | .neq=>match eqE P T x y a b with
     |some r=>some (.bool (!r))
     |none=>none
   |_=>none
theorem P8_ {op:BinOp} {a b c:CV} (hx:VR β a (ev F x)) (hy:VR β b (ev F y)) (h:binE P op T x y a b=some c):∃ v,VR β c v/\Lo P N (.binOp op T x y T') ty F H L v:=by
 unfold binE at h
 split at h
 . rename_i k p
   split at h
   . rename_i k' q
     simp only[VR] at hx hy
     cases hs:isSh op with
     |true=>rw[hs] at h;exact lo_sh hx hy h
     |false=>
       rw[hs] at h
       cases hk:decide (k=k') with
       |true=>rw[hk] at h;have :=of_decide_eq_true hk;subst this;simp only[cond_false,cond_true,bF_eq] at h;exact lo_bI hx hy h
       |false=>rw[hk] at h;cases h
   . cases h
 . split at h
   simp only[VR] at hx hy
   exact lo_bS hx.1 hy.1 hx.2 hy.2 h
   . cases h
 . split at h
   . split at h
     . rename_i r hr
       simp only[Option.some.injEq] at h;subst h
       exact⟨_,rfl,(Up_ hx hy hr).1⟩
     . cases h
   . split at h
     . rename_i r hr
       simp only[Option.some.injEq] at h;subst h
       exact⟨_,rfl,(Up_ hx hy hr).2⟩
     . cases h
   . cases h
def unE (op:UnOp) (a:CV):Option CV:=
 match a with
 | .bool b=>match op with
   | .not=>some (.bool (!b))
   |_=>none
 | .int k n=>match op with
   | .neg=>some (.int k (wrF k (0-n)))
   | .xor=>some (.int k (k.wrap (BitVec.ofInt k.bits (bif k.signed then -1 else k.max) ^^^ BitVec.ofInt k.bits n).toNat))
   |_=>none
 |_=>none
theorem Ux_ {op:UnOp} {a c:CV} (hx:VR β a (ev F x)) (h:unE op a=some c):∃ v,VR β c v/\Lo P N (.unOp op T x) ty F H L v:=by
 unfold unE at h
 split at h
 . split at h
   simp only[Option.some.injEq] at h;subst h;simp only[VR] at hx;exact⟨_,rfl,Uu_ hx⟩
   . cases h
 . rename_i k n
   split at h
   simp only[Option.some.injEq] at h;subst h;simp only[VR] at hx
   exact⟨_,rfl,λd pos af g w _=>by simp[execOp,hx,Op.unary,Op.intArith,K6_]⟩
   . cases hk:k.signed with
     |true=>
       rw[hk] at h
       simp only[cond_true,Option.some.injEq] at h;subst h;simp only[VR] at hx
       exact⟨_,rfl,λd pos af g w _=>by simp[execOp,hx,Op.unary,Op.intBits,hk]⟩
     |false=>
       rw[hk] at h
       simp only[cond_false,Option.some.injEq] at h;subst h;simp only[VR] at hx
       exact⟨_,rfl,Un_ hx hk⟩
   . cases h
 . cases h
def cvE (P:Program) (T T':TypeId) (a:CV):Option CV:=
 match a with
 | .int _ n=>match P.underlying T with
   |some _=>match P.underlying T' with
     |some (.int k)=>some (.int k (wrF k n))
     |_=>none
   |none=>none
 | .str n x=>match P.underlying T with
   |some .string=>match P.underlying T' with
     |some .string=>some (.str n x)
     |_=>none
   |_=>none
 |_=>none
theorem Uo_ {a c:CV} (hx:VR β a (ev F x)) (h:cvE P T T' a=some c):∃ v,VR β c v/\Lo P N (.convert T T' x) ty F H L v:=by
 unfold cvE at h
 split at h
 . split at h
   . rename_i hT
     split at h
     . rename_i hT'
       simp only[Option.some.injEq] at h;subst h;simp only[VR] at hx
       rw[K6_];exact⟨_,rfl,Jj_ hx (by rw[hT];rfl) hT'⟩
     . cases h
   . cases h
 . split at h
   . rename_i hT
     split at h
     . rename_i hT'
       simp only[Option.some.injEq] at h;subst h;simp only[VR] at hx
       exact⟨_,⟨hx.1,rfl⟩,Hi_ hx.2 hT hT'⟩
     . cases h
   . cases h
 . cases h
end Go.CE
namespace Go.CE
open Go.SW
variable {P:Program} {N:SW.Rest} {F:Fr} {H:Hp} {L:Ls} {ty T T':TypeId} {x y z:Operand} {β:Be} {f:Fe}
abbrev Yl (P:Program) (N:SW.Rest) (F:Fr) (H:Hp) (L:Ls) (β:Be) (op:Op) (ty:TypeId) (c:CV):Prop:=∃ v,VR β c v/\Lo P N op ty F H L v
theorem y_mv {c:CV} (hx:VR β c (ev F x)):Yl P N F H L β (.move x) ty c:=⟨_,hx,λd pos af g w _=>by simp[execOp]⟩
theorem y_as {c:CV} (hx:VR β c (ev F x)):Yl P N F H L β (.assign x) ty c:=⟨_,hx,λd pos af g w _=>by simp[execOp]⟩
theorem Nv_ {b:Bool} {c:CV} (hx:VR β (.bool b) (ev F x)) (hy:VR β c (ev F (bif b then y else z))):Yl P N F H L β (.pick x y z) ty c:=by
 simp only[VR] at hx;refine⟨_,hy,λd pos af g w _=>?_⟩
 cases b<;>simp[execOp,hx,asBool]
def H5_ (P:Program) (T:TypeId):Option (List CV):=match P.info? T with
 |some i=>match i.zero with
   |some z=>vCs z.cells.toList
   |none=>none
 |none=>none
theorem Cc_ {cs:List CV} (h:H5_ P T=some cs):∃ z:Value,(∀ w,(zeroValue T).run P w = .ok z w)/\VRs β cs z.cells.toList:=by
 unfold H5_ at h
 split at h
 . rename_i i hi
   split at h
   . rename_i z hz
     exact⟨z,λw=>by simp[zeroValue,typeInfo,hi,hz],R4_ h⟩
   . cases h
 . cases h
def G1_:CV->Option (List CV)
 | .agg cs=>some cs
 | .tup _=>none
 |c=>some [c]
theorem C5_ {c:CV} {cs:List CV} {v:Value} (h:G1_ c=some cs) (hv:VR β c v):VRs β cs v.cells.toList:=by
 unfold G1_ at h
 split at h
 simp only[Option.some.injEq] at h;subst h;simp only[VR] at hv;obtain⟨vs,rfl,hv⟩:=hv;simpa [Value.cells] using hv
 . cases h
 . rename_i h1 h2
   simp only[Option.some.injEq] at h;subst h
   have :v.cells = #[v]:=by
     cases c<;>simp only[VR] at hv<;>first
       |(exact absurd Y (h1 _))|(exact absurd Y (h2 _))
       |(subst hv;rfl)
       |(obtain⟨_,rfl⟩:=hv;rfl)
       |(obtain⟨_,_,rfl⟩:=hv;rfl)
       |(obtain⟨_,rfl,_⟩:=hv;rfl)
       |(obtain⟨_,_,_,_,_,_,rfl,_⟩:=hv;rfl)
       |(obtain⟨_,_,rfl,_⟩:=hv;rfl)
   rw[this]
   exact .cons hv .nil
def Ek_:List CV->Nat->List CV->List CV
 |cs,_,[]=>cs
 |cs,o,v::r=>Ek_ (cs.set o v) (o+1) r
theorem Fo_:∀ (ds cs:List CV) (o:Nat) {vs us:List Value},VRs β cs vs->VRs β ds us->VRs β (Ek_ cs o ds) (Ax_ vs o us)
 |[],_,_,_,_,h,k=>by rw[k.nil_inv];exact h
 |_::_,_,_,_,_,h,k=>by obtain⟨v,us',rfl,h1,h2⟩:=k.cons_inv;simp only[Ek_,Ax_];exact Fo_ _ _ _ (h.set _ h1) h2
theorem Bw_:∀ (ds cs:List CV) (o:Nat),(Ek_ cs o ds).length=cs.length
 |[],_,_=>rfl
 |_::r,cs,o=>by simp only[Ek_];rw[Bw_ r];simp
def Pk_ (places:List (Nat×Nat)):List CV->List (Nat×CV)->Option (List CV)
 |cs,[]=>some cs
 |cs,(i,c)::r=>match places[i]? with
   |some (o,k)=>match G1_ c with
     |some ds=>bif Nat.beq ds.length k&&Nat.ble (o+k) cs.length then Pk_ places (Ek_ cs o ds) r else none
     |none=>none
   |none=>none
def efps (f:Fe):List (Nat×Operand)->Option (List (Nat×CV))
 |[]=>some []
 |(i,x)::r=>match ef f x with
   |some c=>match efps f r with
     |some cs=>some ((i,c)::cs)
     |none=>none
   |none=>none
def VRp (β:Be):List (Nat×CV)->List (Nat×Value)->Prop
 |[],vs=>vs=[]
 |(i,c)::r,vs=>∃ v us,vs=(i,v)::us/\VR β c v/\VRp β r us
theorem I6_ (hf:FR β f F):∀ {xs:List (Nat×Operand)} {cs:List (Nat×CV)},efps f xs=some cs->VRp β cs (evp F xs)
 |[],cs,h=>by simp only[efps,Option.some.injEq] at h;subst h;rfl
 |(i,x)::r,cs,h=>by
   simp only[efps] at h
   split at h
   . rename_i c hc
     split at h
     . rename_i ds hd
       simp only[Option.some.injEq] at h;subst h
       exact⟨_,_,rfl,Q_ hf hc,I6_ hf hd⟩
     . cases h
   . cases h
theorem It_:∀ (vs cs:List Value) (o j:Nat),(vs.zipIdx j).foldl (λ(cs:Array Value) (p:Value×Nat)=>cs.setIfInBounds (o+p.2) p.1) cs.toArray=(Ax_ cs (o+j) vs).toArray
 |[],cs,o,j=>by simp[Ax_]
 |v::r,cs,o,j=>by
   rw[List.zipIdx_cons,List.foldl_cons]
   have :=It_ r (cs.set (o+j) v) o (j+1)
   simp only[Ax_]
   rw[show o+j+1=o+(j+1) by omega,<- this]
   congr 1
   simp
theorem Mt_ (places:List (Nat×Nat)):∀ {ps:List (Nat×CV)} {cs ds:List CV} {vs:List Value} {us:List (Nat×Value)},Pk_ places cs ps=some ds->VRs β cs vs->VRp β ps us ->
   ∃ ws,Instr.fill (places.toArray[·]?) vs.toArray us=some ws.toArray/\VRs β ds ws
 |[],cs,ds,vs,us,h,hv,hu=>by
   simp only[Pk_,Option.some.injEq] at h;subst h
   simp only[VRp] at hu;subst hu
   exact⟨vs,rfl,hv⟩
 |(i,c)::r,cs,ds,vs,us,h,hv,hu=>by
   simp only[VRp] at hu
   obtain⟨v,us',rfl,h1,h2⟩:=hu
   simp only[Pk_] at h
   split at h
   . rename_i o k hi
     split at h
     . rename_i es he
       cases hb:(Nat.beq es.length k&&Nat.ble (o+k) cs.length) with
       |false=>rw[hb] at h;cases h
       |true=>
         rw[hb] at h
         simp only[Bool.and_eq_true] at hb
         have e1:=Nat.eq_of_beq_eq_true hb.1
         have e2:=Nat.le_of_ble_eq_true hb.2
         have hc:=C5_ he h1
         obtain⟨ws,hw1,hw2⟩:=Mt_ places (ps:=r) h (Fo_ es cs o hv hc) h2
         have hl:v.cells.size=k:=by have :=hc.length;simp at this;omega
         have hl2:=hv.length
         refine⟨ws,?_,hw2⟩
         simp only[Instr.fill]
         have hi':(places.toArray[i]? :Option (Nat×Nat))=some (o,k):=by simpa using hi
         rw[hi']
         have hcond:¬((decide (v.cells.size≠k) || decide (o+v.cells.size>vs.toArray.size))=true):=by simp[hl];omega
         simp only[]
         rw[if_neg hcond]
         have hz:=It_ v.cells.toList vs o 0
         rw[Nat.add_zero] at hz
         rw[<- hw1,<- hz,<- Array.foldl_toList,Array.toList_zipIdx]
     . cases h
   . cases h
def G8_ (P:Program) (fs:List Field):Option (List (Nat×Nat)):=match fs with
 |[]=>some []
 |f::r=>match szE P f.type with
   |some k=>match G8_ P r with
     |some l=>some ((f.offset,k)::l)
     |none=>none
   |none=>none
theorem Ij_:∀ {fs:List Field} {l:List (Nat×Nat)},G8_ P fs=some l->∀ w,(fs.mapM (λf=>(do pure (f.offset,<- sizeOf f.type):Sem (Nat×Nat)))).run P w = .ok l w
 |[],l,h,w=>by simp only[G8_,Option.some.injEq] at h;subst h;simp
 |f::r,l,h,w=>by
   simp only[G8_] at h
   split at h
   . rename_i k hk
     split at h
     . rename_i l' hl
       simp only[Option.some.injEq] at h;subst h
       have :=Ij_ hl w
       simp only[List.mapM_cons,Sem.run_bind,A0_ hk w,Result.andThen_ok,Sem.run_pure,this]
     . cases h
   . cases h
def J6_ (P:Program) (T:TypeId) (ps:List (Nat×CV)):Option CV:=
 match H5_ P T with
 |some z=>match P.underlying T with
   |some (.struct fs)=>match G8_ P fs.toList with
     |some l=>match Pk_ l z ps with
       |some cs=>some (.agg cs)
       |none=>none
     |none=>none
   |_=>none
 |none=>none
theorem J2_ {ps:List (Nat×Operand)} {qs:List (Nat×CV)} {c:CV} (hf:FR β f F) (hq:efps f ps=some qs) (h:J6_ P T qs=some c):Yl P N F H L β (.build T ps.toArray) ty c:=by
 unfold J6_ at h
 split at h
 . rename_i z hz
   split at h
   . rename_i fs hu
     split at h
     . rename_i l hl
       split at h
       . rename_i cs hcs
         simp only[Option.some.injEq] at h;subst h
         obtain⟨zv,hz1,hz2⟩:=Cc_ (β:=β) hz
         obtain⟨ws,hw1,hw2⟩:=Mt_ l hcs hz2 (I6_ hf hq)
         refine⟨.agg ws.toArray,by simp only[VR];exact⟨ws,rfl,hw2⟩,M2_ Y λw=>?_⟩
         have hm:=Ij_ hl w
         have hm2:(fs.mapM (λf=>(do pure (f.offset,<- sizeOf f.type):Sem (Nat×Nat)))).run P w = .ok l.toArray w:=by
           rw[Array.mapM_eq_mapM_toList]
           have hm':(fs.toList.mapM (λf=>Prod.mk f.offset <$> sizeOf f.type:Field->Sem (Nat×Nat))).run P w = .ok l w:=by
             have :=hm
             exact xF
           simp[hm']
         have e0:zv.cells.toList.toArray=zv.cells:=by simp
         rw[e0] at hw1
         simp only[Instr.build,Sem.run_bind,hz1 w,Result.andThen_ok,run_underlying hu,hm2,hw1,Sem.run_pure]
       . cases h
     . cases h
   . cases h
 . cases h
end Go.CE
namespace Go.CE
open Go.SW
variable {P:Program} {N:SW.Rest} {F:Fr} {H:Hp} {L:Ls} {ty T T':TypeId} {x y z:Operand} {β:Be} {f:Fe}
def nilE (a:CV):Option CV:=match a with
 | .ptr i o=>some (.ptr i o)
 | .gp g o=>some (.gp g o)
 | .fn g p q=>some (.fn g p q)
 |_=>none
theorem T4_ {a c:CV} (hx:VR β a (ev F x)) (h:nilE a=some c):Yl P N F H L β (.nilCheck x) ty c:=by
 unfold nilE at h
 split at h<;>first|(cases h;done)|skip
 all_goals (simp only[Option.some.injEq] at h;subst h)
 have hx':=hx;simp only[VR] at hx';obtain⟨q,_,e⟩:=hx';exact⟨_,hx,e ▸ Ae_ e⟩;have hx':=hx;simp only[VR] at hx';exact⟨_,hx,hx' ▸ Ae_ hx'⟩;have hx':=hx;simp only[VR] at hx';obtain⟨vs,us,e,_,_⟩:=hx';exact⟨_,hx,λd pos af g w _=>by simp[execOp,e]⟩
theorem y_fn {g:FuncId} {ps qs:List Operand} {a b:List CV} (hf:FR β f F) (ha:efs f ps=some a) (hb:efs f qs=some b):Yl P N F H L β (.makeFunc (.func g) ps.toArray qs.toArray) ty (.fn g a b):=
 ⟨_,by simp only[VR];exact⟨_,_,rfl,Fd_ hf ha,Fd_ hf hb⟩,F6_ Y Y⟩
def ifE (P:Program) (T:TypeId) (a:CV):Option CV:=match P.underlying T with
 |some (.interface _)=>none
 |some _=>some (.ifc T a)
 |none=>none
theorem y_if {a c:CV} (hx:VR β a (ev F x)) (h:ifE P T a=some c):Yl P N F H L β (.makeInterface T x) ty c:=by
 unfold ifE at h
 split at h
 . cases h
 . rename_i d hd hu
   simp only[Option.some.injEq] at h;subst h
   refine⟨_,by simp only[VR];exact⟨_,rfl,hx⟩,λ_ _ _ _ w _=>?_⟩
   cases d<;>first|(exact (hd _ Y).elim)|simp[execOp,Instr.makeInterface,run_underlying hu]
 . cases h
def fldE (P:Program) (T:TypeId) (i:Nat):Option Nat:=match P.underlying T with
 |some (.struct fs)=>match fs.toList[i]? with
   |some fd=>match szE P fd.type with
     |some k=>bif Nat.beq k 0 then none else some fd.offset
     |none=>none
   |none=>none
 |_=>none
theorem Po_ {i o:Nat} (h:fldE P T i=some o):Fld P T i o:=by
 unfold fldE at h
 split at h
 . rename_i fs hu
   split at h
   . rename_i fd hf
     split at h
     . rename_i k hk
       cases hb:Nat.beq k 0 with
       |true=>rw[hb] at h;cases h
       |false=>
         rw[hb] at h
         simp only[cond_false,Option.some.injEq] at h;subst h
         have h0:k≠0:=Nat.ne_of_beq_eq_false hb
         have hfa:fs[i]? = some fd:=by simpa using hf
         intro b off w
         simp[Instr.fieldAt,run_underlying hu,hfa,Instr.sureAddr,fieldPlace,A0_ hk w,h0,K_]
     . cases h
   . cases h
 . cases h
def faE (P:Program) (T:TypeId) (i:Nat) (a:CV):Option CV:=match fldE P T i with
 |some o=>match a with
   | .ptr j p=>some (.ptr j (p+o))
   | .gp g p=>some (.gp g (p+o))
   |_=>none
 |none=>none
theorem y_fa {i:Nat} {a c:CV} (hx:VR β a (ev F x)) (h:faE P T i a=some c):Yl P N F H L β (.fieldAddr T x i) ty c:=by
 unfold faE at h
 split at h
 . rename_i o ho
   split at h
   simp only[Option.some.injEq] at h;subst h
   simp only[VR] at hx ⊢;obtain⟨q,h1,e⟩:=hx
   exact⟨_,⟨q,h1,rfl⟩,by rw[<- Nat.add_assoc];exact W_ e (Po_ ho)⟩
   simp only[Option.some.injEq] at h;subst h
   simp only[VR] at hx ⊢
   exact⟨_,rfl,W_ hx (Po_ ho)⟩
   . cases h
 . cases h
def Te_ (P:Program) (t:TypeId) (cs:List CV) (o:Nat):Option CV:=match agE P t with
 |some true=>match szE P t with
   |some k=>some (.agg ((cs.drop o).take k))
   |none=>none
 |some false=>cs[o]?
 |none=>none
theorem Ng_ {t:TypeId} {cs:List CV} {o:Nat} {c:CV} {vs:List Value} (h:Te_ P t cs o=some c) (hv:VRs β cs vs):∃ v,VR β c v/\∀ w,(part t vs.toArray o).run P w = .ok v w:=by
 unfold Te_ at h
 split at h
 . rename_i hg
   split at h
   . rename_i k hk
     simp only[Option.some.injEq] at h;subst h
     exact⟨.agg (sub vs o k).toArray,by simp only[VR];exact⟨_,rfl,(hv.drop _).take _⟩,Ra_ (Ex_ hg) (A0_ hk) Y⟩
   . cases h
 . rename_i hg
   obtain⟨v,e,hv⟩:=hv.get h
   exact⟨v,hv,Q9_ (Ex_ hg) e⟩
 . cases h
def Kf_ (P:Program) (T:TypeId) (i:Nat) (a:CV):Option CV:=match a with
 | .agg cs=>match P.underlying T with
   |some (.struct fs)=>match fs.toList[i]? with
     |some fd=>Te_ P fd.type cs fd.offset
     |none=>none
   |_=>none
 |_=>none
theorem R9_ {i:Nat} {a c:CV} (hx:VR β a (ev F x)) (h:Kf_ P T i a=some c):Yl P N F H L β (.field T x i) ty c:=by
 unfold Kf_ at h
 split at h
 . split at h
   . rename_i fs hu
     split at h
     . rename_i fd hf
       simp only[VR] at hx;obtain⟨vs,e,hv⟩:=hx
       obtain⟨v,h1,h2⟩:=Ng_ h hv
       have hfa:fs[i]? = some fd:=by simpa using hf
       exact⟨v,h1,λ_ _ _ _ w _=>by simp[execOp,Instr.field,run_underlying hu,hfa,e,asAgg,h2 w]⟩
     . cases h
   . cases h
 . cases h
def natE (a:CV):Option Nat:=match a with
 | .int _ z=>match z with
   | .ofNat n=>some n
   | .negSucc _=>none
 |_=>none
theorem Du_ {a:CV} {n:Nat} {v:Value} (h:natE a=some n) (hv:VR β a v):∃ k,v = .int k (n:Int):=by
 unfold natE at h
 split at h
 . split at h
   simp only[Option.some.injEq] at h;subst h;simp only[VR] at hv;exact⟨_,hv⟩
   . cases h
 . cases h
def ixE (P:Program) (T:TypeId) (a b:CV):Option CV:=match natE b with
 |some m=>match a with
   | .str n s=>match P.underlying T with
     |some .string=>bif Nat.blt m n then some (.int .u8 ((s/256 ^ m%256:Nat):Int)) else none
     |_=>none
   | .agg cs=>match P.underlying T with
     |some (.array len e)=>match szE P e with
       |some k=>bif Nat.blt m len then Te_ P e cs (m*k) else none
       |none=>none
     |_=>none
   |_=>none
 |none=>none
theorem y_ix {a b c:CV} (hx:VR β a (ev F x)) (hy:VR β b (ev F y)) (h:ixE P T a b=some c):Yl P N F H L β (.index T x y) ty c:=by
 unfold ixE at h
 split at h
 . rename_i m hm
   obtain⟨k0,ey⟩:=Du_ hm hy
   split at h
   . rename_i n s
     split at h
     . rename_i hT
       cases hb:Nat.blt m n with
       |false=>rw[hb] at h;cases h
       |true=>
         rw[hb] at h
         have hlt:m<n:=Nat.lt_of_lt_of_le (Nat.lt_succ_self m) (Nat.le_of_ble_eq_true hb)
         simp only[cond_true,Option.some.injEq] at h;subst h
         simp only[VR] at hx
         refine⟨_,rfl,?_⟩
         have :=F5_ (P:=P) (N:=N) (H:=H) (L:=L) (ty:=ty) (T:=T) m hx.2 ey hT Y (by rw[D_];exact hlt)
         have e:((dec n s).getD m 0).toNat=s/256 ^ m%256:=by
           rw[List.getD_eq_getElem?_getD,G5_ n s m hlt];simp
         rw[e] at this
         exact this
     . cases h
   . rename_i cs
     split at h
     . rename_i len e hT
       split at h
       . rename_i k hk
         cases hb:Nat.blt m len with
         |false=>rw[hb] at h;cases h
         |true=>
           rw[hb] at h
           have hlt:m<len:=Nat.lt_of_lt_of_le (Nat.lt_succ_self m) (Nat.le_of_ble_eq_true hb)
           simp only[cond_true] at h
           simp only[VR] at hx;obtain⟨vs,ex,hv⟩:=hx
           obtain⟨v,h1,h2⟩:=Ng_ h hv
           refine⟨v,h1,λ_ _ _ _ w _=>?_⟩
           have hi:((m:Nat):Int)<(len:Int):=by omega
           simp[execOp,Instr.index,ex,ey,asIntOf,run_underlying hT,hlt,A0_ hk w,h2 w]
       . cases h
     . cases h
   . cases h
 . cases h
def iaE (P:Program) (T:TypeId) (a b:CV):Option CV:=match natE b with
 |some m=>match P.underlying T with
   |some (.slice e)=>match szE P e with
     |some k=>match a with
       | .sl i o len _=>bif Nat.blt m len then some (.ptr i (o+m*k)) else none
       | .slu i o len _=>bif Nat.blt m len then some (.ptr i (o+m*k)) else none
       |_=>none
     |none=>none
   |some (.array len e)=>match szE P e with
     | some k=>bif Nat.blt m len then (match a with
       | .ptr i o=>some (.ptr i (o+m*k))
       | .gp g o=>some (.gp g (o+m*k))
       |_=>none) else none
     |none=>none
   |_=>none
 |none=>none
theorem Ce_ {m n:Nat} (h:Nat.blt m n=true):m<n:=Nat.lt_of_lt_of_le (Nat.lt_succ_self m) (Nat.le_of_ble_eq_true h)
theorem y_ia {a b c:CV} (hx:VR β a (ev F x)) (hy:VR β b (ev F y)) (h:iaE P T a b=some c):Yl P N F H L β (.indexAddr T x y) ty c:=by
 unfold iaE at h
 split at h
 . rename_i m hm
   obtain⟨k0,ey⟩:=Du_ hm hy
   split at h
   . rename_i e hT
     split at h
     . rename_i k hk
       split at h
       . rename_i i o len cap
         cases hb:Nat.blt m len with
         |false=>rw[hb] at h;cases h
         |true=>
           rw[hb] at h
           have hlt:=Ce_ hb
           simp only[cond_true,Option.some.injEq] at h;subst h
           simp only[VR] at hx ⊢;obtain⟨q,h1,ex⟩:=hx
           refine⟨_,⟨q,h1,rfl⟩,λ_ _ _ _ w _=>?_⟩
           simp[execOp,Instr.indexAt,ex,ey,asIntOf,run_underlying hT,hlt,A0_ hk w,K_,Nat.add_assoc]
       . rename_i i o len k'
         cases hb:Nat.blt m len with
         |false=>rw[hb] at h;cases h
         |true=>
           rw[hb] at h
           have hlt:=Ce_ hb
           simp only[cond_true,Option.some.injEq] at h;subst h
           simp only[VR] at hx ⊢;obtain⟨q,cc,aa,h1,_,hle,ex,ha⟩:=hx
           have ha:=ha xN;subst ha
           refine⟨_,⟨q,h1,rfl⟩,λ_ _ _ _ w _=>?_⟩
           simp[execOp,Instr.indexAt,ex,ey,asIntOf,run_underlying hT,hlt,A0_ hk w,K_,Nat.add_assoc]
       . cases h
     . cases h
   . rename_i len e hT
     split at h
     . rename_i k hk
       cases hb:Nat.blt m len with
       |false=>rw[hb] at h;cases h
       |true=>
         rw[hb] at h
         have hlt:=Ce_ hb
         simp only[cond_true] at h
         split at h
         . simp only[Option.some.injEq] at h;subst h
           simp only[VR] at hx ⊢;obtain⟨q,h1,ex⟩:=hx
           refine⟨_,⟨q,h1,rfl⟩,λ_ _ _ _ w _=>?_⟩
           simp[execOp,Instr.indexAt,ex,ey,asIntOf,run_underlying hT,hlt,A0_ hk w,K_,Nat.add_assoc,Instr.sureAddr]
         . simp only[Option.some.injEq] at h;subst h
           simp only[VR] at hx ⊢
           refine⟨_,rfl,λ_ _ _ _ w _=>?_⟩
           simp[execOp,Instr.indexAt,hx,ey,asIntOf,run_underlying hT,hlt,A0_ hk w,K_,Instr.sureAddr]
         . cases h
     . cases h
   . cases h
 . cases h
def exE (a:CV) (i:Nat):Option CV:=match a with
 | .tup vs=>vs[i]?
 |_=>none
theorem y_ex {a c:CV} {i:Nat} (hx:VR β a (ev F x)) (h:exE a i=some c):Yl P N F H L β (.extract x i) ty c:=by
 unfold exE at h
 split at h
 simp only[VR] at hx;obtain⟨vs,ex,hv⟩:=hx;obtain⟨v,e,h1⟩:=hv.get h;exact⟨v,h1,Im_ ex (by simpa using e)⟩
 . cases h
def lenE (P:Program) (T:TypeId) (a:CV):Option CV:=match P.underlying T with
 |some .string=>match a with
   | .str n _=>some (.int .i64 (n:Int))
   |_=>none
 |some (.slice _)=>match a with
   | .sl _ _ n _=>some (.int .i64 (n:Int))
   | .slu _ _ n _=>some (.int .i64 (n:Int))
   | .nils=>some (.int .i64 ((0:Nat):Int))
   |_=>none
 |_=>none
theorem T3_ {a c:CV} (hx:VR β a (ev F x)) (h:lenE P T a=some c):Yl P N F H L β (.call ⟨.builtin .len,#[x],#[T]⟩) ty c:=by
 unfold lenE at h
 split at h
 . rename_i hT
   split at h
   . rename_i n s
     simp only[Option.some.injEq] at h;subst h
     simp only[VR] at hx
     refine⟨_,rfl,?_⟩
     have :=Io_ (P:=P) (N:=N) (H:=H) (L:=L) (ty:=ty) hx.2 hT
     rwa [D_] at this
   . cases h
 . rename_i e hT
   split at h
   simp only[Option.some.injEq] at h;subst h
   simp only[VR] at hx;obtain⟨q,_,ex⟩:=hx
   exact⟨_,rfl,C9_ ex hT⟩
   simp only[Option.some.injEq] at h;subst h
   simp only[VR] at hx;obtain⟨q,c,a,_,_,_,ex,_⟩:=hx
   exact⟨_,rfl,C9_ ex hT⟩
   simp only[Option.some.injEq] at h;subst h
   simp only[VR] at hx
   exact⟨_,rfl,C9_ hx hT⟩
   . cases h
 . cases h
def capE (P:Program) (T:TypeId) (a:CV):Option CV:=match P.underlying T with
 |some (.slice _)=>match a with
   | .sl _ _ _ n=>some (.int .i64 (n:Int))
   | .nils=>some (.int .i64 ((0:Nat):Int))
   |_=>none
 |_=>none
theorem y_cap {a c:CV} (hx:VR β a (ev F x)) (h:capE P T a=some c):Yl P N F H L β (.call ⟨.builtin .cap,#[x],#[T]⟩) ty c:=by
 unfold capE at h
 split at h
 . rename_i e hT
   split at h
   simp only[Option.some.injEq] at h;subst h
   simp only[VR] at hx;obtain⟨q,_,ex⟩:=hx
   exact⟨_,rfl,Ko_ ex hT⟩
   simp only[Option.some.injEq] at h;subst h
   simp only[VR] at hx
   exact⟨_,rfl,Ko_ hx hT⟩
   . cases h
 . cases h
def P0_ (k:IntKind):List CV->Option (List Int)
 |[]=>some []
 | .int k' z::r=>bif decide (k'=k) then (match P0_ k r with
   |some l=>some (z::l)
   |none=>none) else none
 |_::_=>none
theorem Mz_ {k:IntKind}:∀ {cs:List CV} {zs:List Int} {vs:List Value},P0_ k cs=some zs->VRs β cs vs->vs=zs.map (Value.int k)
 |[],zs,vs,h,hv=>by simp only[P0_,Option.some.injEq] at h;subst h;rw[hv.nil_inv];rfl
 |c::r,zs,vs,h,hv=>by
   obtain⟨v,us,rfl,h1,h2⟩:=hv.cons_inv
   cases c<;>simp only[P0_] at h<;>first|(cases h;done)|skip
   rename_i k' z
   cases hk:decide (k'=k) with
   |false=>rw[hk] at h;cases h
   |true=>
     rw[hk] at h
     have :=of_decide_eq_true hk;subst this
     simp only[cond_true] at h
     split at h
     . rename_i l hl
       simp only[Option.some.injEq] at h;subst h
       simp only[VR] at h1;subst h1
       rw[Mz_ hl h2];rfl
     . cases h
theorem lo_minN {k:IntKind} {xs:List Operand} {z r:Int} (zs:List Int) {ats:Array TypeId} (hx:evs F xs=(z::zs).map (Value.int k)) (hr:zs.foldl min z=r):Lo P N (.call ⟨.builtin .min,xs.toArray,ats⟩) ty F H L (.int k r):=λd pos af g w _=>by
 refine I_ (args:=((z::zs).map (Value.int k)).toArray) (by simp[Fv_,hx]) λcs=>?_
 have key:∀ (zs:List Int) (z:Int),((zs.map (Value.int k)).foldlM Builtin.min2 (Value.int k z)).run P w = .ok (Value.int k (zs.foldl min z)) w:=by
   intro zs
   induction zs with
   |nil=>intro z;simp
   |cons a r ih=>
     intro z
     have e:(if a<z then a else z)=min z a:=by omega
     simp only[List.map_cons,List.foldlM_cons,Builtin.min2,Sem.run_bind,Sem.run_pure,Result.andThen_ok,e,List.foldl_cons]
     exact ih _
 have :=key zs z
 simp[builtin,Builtin.min_,this,hr]
def mmE (b:Builtin) (cs:List CV):Option CV:=match cs with
 | .int k z::r=>match P0_ k r with
   |some zs=>match b with
     | .min=>some (.int k (zs.foldl min z))
     | .max=>some (.int k (zs.foldl max z))
     |_=>none
   |none=>none
 |_=>none
theorem y_mm {b:Builtin} {xs:List Operand} {ats:Array TypeId} {cs:List CV} {c:CV} (hx:VRs β cs (evs F xs)) (h:mmE b cs=some c):Yl P N F H L β (.call ⟨.builtin b,xs.toArray,ats⟩) ty c:=by
 unfold mmE at h
 split at h
 . rename_i k z r
   split at h
   . rename_i zs hz
     obtain⟨v,us,e,h1,h2⟩:=hx.cons_inv
     simp only[VR] at h1;subst h1
     have e2:=Mz_ hz h2
     subst e2
     split at h
     simp only[Option.some.injEq] at h;subst h
     exact⟨_,rfl,lo_minN zs e Y⟩
     simp only[Option.some.injEq] at h;subst h
     exact⟨_,rfl,lo_maxN zs e Y⟩
     . cases h
   . cases h
 . cases h
end Go.CE
namespace Go.CE
open Go.SW
variable {P:Program} {N:SW.Rest} {F:Fr} {H:Hp} {L:Ls} {ty T T':TypeId} {x y z:Operand} {β:Be} {f:Fe}
def onE (f:Fe):Option Operand->Option (Option Nat)
 |none=>some none
 |some x=>match ef f x with
   |some c=>match natE c with
     |some n=>some (some n)
     |none=>none
   |none=>none
def Bd (l:Option Nat) (v:Option Value):Prop:=match l with
 |none=>v=none
 |some n=>∃ k,v=some (.int k (n:Int))
theorem Qr_ (hf:FR β f F) {o:Option Operand} {l:Option Nat} (h:onE f o=some l):Bd l (o.map (ev F)):=by
 unfold onE at h
 split at h
 simp only[Option.some.injEq] at h;subst h;rfl
 . split at h
   . rename_i c hc
     split at h
     . rename_i n hn
       simp only[Option.some.injEq] at h;subst h
       obtain⟨k,e⟩:=Du_ hn (Q_ hf hc)
       exact⟨k,by simp[e]⟩
     . cases h
   . cases h
def bdE (len cap:Nat) (lo hi mx:Option Nat):Option (Nat×Nat×Nat):=
 match mx with
 |none=>match hi with
   |none=>bif Nat.ble (lo.getD 0) len then some (lo.getD 0,len,cap) else none
   |some h=>bif Nat.ble h cap&&Nat.ble (lo.getD 0) h then some (lo.getD 0,h,cap) else none
 |some m=>match hi with
   |none=>none
   |some h=>bif Nat.ble m cap&&(Nat.ble h m&&Nat.ble (lo.getD 0) h) then some (lo.getD 0,h,m) else none
theorem Hu_ {i y:Nat} {k:IntKind} {c:BoundsCode} (h:i<=y) (w:World):(Instr.sliceBound (.int k (i:Int)) y c).run P w = .ok i w:=by
 have h2:((i:Nat):Int)<=(y:Int):=by omega
 simp[Instr.sliceBound,asIntOf,h]
theorem run_lo {lo:Option Nat} {a:Option Value} {y mm:Nat} {cd:BoundsCode} {w:World}:Bd lo a->lo.getD 0<=y->((match a with
     |some v=>do
       let l <- Instr.sliceBound v y cd
       pure (l,y,mm)
     |none=>do
       let l <- pure 0
       pure (l,y,mm)):Sem (Nat×Nat×Nat)).run P w = .ok (lo.getD 0,y,mm) w:=by
 intro h1 hy
 cases lo with
 |none=>simp only[Bd] at h1;subst h1;simp
 |some n=>
   obtain⟨k,rfl⟩:=h1
   have hn:n<=y:=hy
   simp[Hu_ (P:=P) (k:=k) (c:=cd) hn w]
theorem Id_ {len cap:Nat} {lo hi mx:Option Nat} {a b c:Option Value} {l h m:Nat} (he:bdE len cap lo hi mx=some (l,h,m)) (h1:Bd lo a) (h2:Bd hi b) (h3:Bd mx c) (q:Bool) (w:World):(Instr.sliceBounds q len cap a b c).run P w = .ok (l,h,m) w:=by
 unfold bdE at he
 split at he
 . simp only[Bd] at h3;subst h3
   split at he
   . simp only[Bd] at h2;subst h2
     cases hb:Nat.ble (lo.getD 0) len with
     |false=>rw[hb] at he;cases he
     |true=>
       rw[hb] at he
       simp only[cond_true,Option.some.injEq,Prod.mk.injEq] at he
       obtain⟨rfl,rfl,rfl⟩:=he
       have hy:lo.getD 0<=len:=Nat.le_of_ble_eq_true hb
       simp only[Instr.sliceBounds,Sem.run_bind,Sem.run_pure,Result.andThen_ok]
       cases lo with
       |none=>simp only[Bd] at h1;subst h1;simp
       |some n=>
         obtain⟨k1,rfl⟩:=h1
         have hn:n<=len:=hy
         simp[Hu_ (P:=P) (k:=k1) hn w]
   . rename_i hh
     obtain⟨k,rfl⟩:=h2
     cases hb:(Nat.ble hh cap&&Nat.ble (lo.getD 0) hh) with
     |false=>rw[hb] at he;cases he
     |true=>
       rw[hb] at he
       simp only[Bool.and_eq_true] at hb
       simp only[cond_true,Option.some.injEq,Prod.mk.injEq] at he
       obtain⟨rfl,rfl,rfl⟩:=he
       have e1:=Hu_ (P:=P) (k:=k) (c:=if q then .sliceAcap else .sliceAlen) (Nat.le_of_ble_eq_true hb.1) w
       have hy:lo.getD 0<=hh:=Nat.le_of_ble_eq_true hb.2
       simp only[Instr.sliceBounds,Sem.run_bind,Sem.run_pure,Result.andThen_ok,e1]
       cases lo with
       |none=>simp only[Bd] at h1;subst h1;simp
       |some n=>
         obtain⟨k1,rfl⟩:=h1
         have hn:n<=hh:=hy
         simp[Hu_ (P:=P) (k:=k1) hn w]
 . rename_i mm
   obtain⟨k3,rfl⟩:=h3
   split at he
   . cases he
   . rename_i hh
     obtain⟨k,rfl⟩:=h2
     cases hb:(Nat.ble mm cap&&(Nat.ble hh mm&&Nat.ble (lo.getD 0) hh)) with
     |false=>rw[hb] at he;cases he
     |true=>
       rw[hb] at he
       simp only[Bool.and_eq_true] at hb
       simp only[cond_true,Option.some.injEq,Prod.mk.injEq] at he
       obtain⟨rfl,rfl,rfl⟩:=he
       have e0:=Hu_ (P:=P) (k:=k3) (c:=if q then .slice3Acap else .slice3Alen) (Nat.le_of_ble_eq_true hb.1) w
       have e1:=Hu_ (P:=P) (k:=k) (c:= .slice3B) (Nat.le_of_ble_eq_true hb.2.1) w
       have hy:lo.getD 0<=hh:=Nat.le_of_ble_eq_true hb.2.2
       simp only[Instr.sliceBounds,Sem.run_bind,Sem.run_pure,Result.andThen_ok,e1,e0]
       cases lo with
       |none=>simp only[Bd] at h1;subst h1;simp
       |some n=>
         obtain⟨k1,rfl⟩:=h1
         have hn:n<=hh:=hy
         simp[Hu_ (P:=P) (k:=k1) hn w]
theorem Mh_ {len cap:Nat} {lo hi mx:Option Nat} {l h m:Nat} (hc:len<=cap) (he:bdE len cap lo hi mx=some (l,h,m)):l<=h/\h<=m/\m<=cap:=by
 unfold bdE at he
 split at he
 . split at he
   . cases hb:Nat.ble (lo.getD 0) len with
     |false=>rw[hb] at he;cases he
     |true=>rw[hb] at he;simp only[cond_true,Option.some.injEq,Prod.mk.injEq] at he;obtain⟨rfl,rfl,rfl⟩:=he;have :=Nat.le_of_ble_eq_true hb;omega
   . rename_i hh
     cases hb:(Nat.ble hh cap&&Nat.ble (lo.getD 0) hh) with
     |false=>rw[hb] at he;cases he
     |true=>rw[hb] at he;simp only[cond_true,Option.some.injEq,Prod.mk.injEq] at he;obtain⟨rfl,rfl,rfl⟩:=he;simp only[Bool.and_eq_true] at hb;have :=Nat.le_of_ble_eq_true hb.1;have :=Nat.le_of_ble_eq_true hb.2;omega
 . rename_i mm
   split at he
   . cases he
   . rename_i hh
     cases hb:(Nat.ble mm cap&&(Nat.ble hh mm&&Nat.ble (lo.getD 0) hh)) with
     |false=>rw[hb] at he;cases he
     |true=>rw[hb] at he;simp only[cond_true,Option.some.injEq,Prod.mk.injEq] at he;obtain⟨rfl,rfl,rfl⟩:=he;simp only[Bool.and_eq_true] at hb;have :=Nat.le_of_ble_eq_true hb.1;have :=Nat.le_of_ble_eq_true hb.2.1;have :=Nat.le_of_ble_eq_true hb.2.2;omega
def slE (P:Program) (T:TypeId) (a:CV) (lo hi mx:Option Nat):Option CV:=match P.underlying T with
 |some .string=>match a with
   | .str n s=>match mx with
     |none=>match bdE n n lo hi none with
       |some (l,h,_)=>some (.str (h-l) (s/256 ^ l%256 ^ (h-l)))
       |none=>none
     |some _=>none
   |_=>none
 |some (.slice e)=>match szE P e with
   |some k=>match a with
     | .sl i o len cap=>bif Nat.ble len cap then (match bdE len cap lo hi mx with
       |some (l,h,m)=>some (.sl i (bif Nat.beq m l then o else o+l*k) (h-l) (m-l))
       |none=>none) else none
     | .slu i o len k'=>bif Nat.beq k k' then (match mx with
       |none=>match bdE len len lo hi none with
         |some (l,h,_)=>some (.slu i (o+l*k) (h-l) k)
         |none=>none
       |some m=>match bdE len len lo hi (some m) with
         |some (l,h,m)=>bif Nat.beq m l then none else some (.sl i (o+l*k) (h-l) (m-l))
         |none=>none) else none
     | .nils=>match bdE 0 0 lo hi mx with
       |some _=>some .nils
       |none=>none
     |_=>none
   |none=>none
 |some (.array n e)=>match szE P e with
   |some k=>match a with
     | .ptr i o=>match bdE n n lo hi mx with
       |some (l,h,m)=>some (.sl i (bif Nat.beq m l then o else o+l*k) (h-l) (m-l))
       |none=>none
     |_=>none
   |none=>none
 |_=>none
theorem if_beq {m l o k:Nat} {b:Nat}:(if m=l then (⟨b,o,none⟩:Addr) else (⟨b,o,none⟩:Addr).add (l*k))=⟨b,bif Nat.beq m l then o else o+l*k,none⟩:=by
 by_cases h:m=l;subst h;simp;have :Nat.beq m l=false:=F7_ h;simp[h,this,K_]
theorem Sc_ {len cap:Nat} {lo hi:Option Nat} {l h m:Nat} (hc:len<=cap) (he:bdE len len lo hi none=some (l,h,m)):bdE len cap lo hi none=some (l,h,cap)/\h<=len:=by
 unfold bdE at he ⊢;simp only at he ⊢
 split at he
 . cases hb:Nat.ble (lo.getD 0) len with
   |false=>rw[hb] at he;cases he
   |true=>rw[hb] at he;simp only[cond_true,Option.some.injEq,Prod.mk.injEq] at he;obtain⟨rfl,rfl,rfl⟩:=he;simp
 . rename_i hh
   cases hb:(Nat.ble hh len&&Nat.ble (lo.getD 0) hh) with
   |false=>rw[hb] at he;cases he
   |true=>
     rw[hb] at he;simp only[cond_true,Option.some.injEq,Prod.mk.injEq] at he;obtain⟨rfl,rfl,rfl⟩:=he
     simp only[Bool.and_eq_true] at hb
     have h1:=Nat.le_of_ble_eq_true hb.1
     have :Nat.ble hh cap=true:=Nat.ble_eq_true_of_le xN
     simp[this,hb.2];exact h1
theorem Ox_ {len cap:Nat} {lo hi:Option Nat} {l h m m0:Nat} (hc:len<=cap) (he:bdE len len lo hi (some m0)=some (l,h,m)):bdE len cap lo hi (some m0)=some (l,h,m)/\m<=len/\m=m0:=by
 unfold bdE at he ⊢;simp only at he ⊢
 split at he
 . cases he
 . rename_i hh
   cases hb:(Nat.ble m0 len&&(Nat.ble hh m0&&Nat.ble (lo.getD 0) hh)) with
   |false=>rw[hb] at he;cases he
   |true=>
     rw[hb] at he;simp only[cond_true,Option.some.injEq,Prod.mk.injEq] at he;obtain⟨rfl,rfl,rfl⟩:=he
     simp only[Bool.and_eq_true] at hb
     have h1:=Nat.le_of_ble_eq_true hb.1
     have :Nat.ble m0 cap=true:=Nat.ble_eq_true_of_le xN
     simp[this,hb.2.1,hb.2.2];exact h1
theorem y_sl {lo hi mx:Option Operand} {l0 h0 m0:Option Nat} {a c:CV} (hf:FR β f F) (hx:VR β a (ev F x)) (h1:onE f lo=some l0) (h2:onE f hi=some h0) (h3:onE f mx=some m0) (h:slE P T a l0 h0 m0=some c):Yl P N F H L β (.slice T x lo hi mx) ty c:=by
 have b1:=Qr_ hf h1;have b2:=Qr_ hf h2;have b3:=Qr_ hf h3;unfold slE at h
 split at h
 . rename_i hT
   split at h
   . rename_i n s
     simp only[VR] at hx
     split at h
     . split at h
       . rename_i l hh mm hb
         simp only[Option.some.injEq] at h;subst h
         obtain⟨e1,e2,e3⟩:=Mh_ (Nat.le_refl _) hb
         refine⟨_,⟨Nat.mod_lt _ (Nat.pow_pos xN),rfl⟩,λ_ _ _ _ w _=>?_⟩
         have hr:=Id_ (P:=P) hb b1 b2 (show Bd none none from rfl) false w
         have hm:mx.map (ev F)=none:=b3
         have hs:(⟨(dec n s).toArray⟩:ByteArray).size=n:=by rw[C2_,D_]
         have key:(⟨(dec n s).toArray⟩:ByteArray).extract l hh=⟨(dec (hh-l) (s/256 ^ l%256 ^ (hh-l))).toArray⟩:=by
           rw[En_,Dp_ l n s xN,Cu_ (hh-l) (n-l) _ xN]
         have ex:ev F x = .string ⟨(dec n s).toArray⟩:=hx.2
         simp only[execOp,Instr.sliceAt,Instr.slice,ex,run_underlying hT,Sem.run_bind,Result.andThen_ok,hm,hs,hr,Sem.run_pure,key,Option.isSome_none,Bool.false_eq_true,if_false]
         rfl
       . cases h
     . cases h
   . cases h
 . rename_i e hT
   split at h
   . rename_i k hk
     split at h
     . rename_i i o len cap
       simp only[VR] at hx;obtain⟨q,hq,ex⟩:=hx
       cases hlc:Nat.ble len cap with
       |false=>rw[hlc] at h;cases h
       |true=>
         rw[hlc] at h
         simp only[cond_true] at h
         split at h
         . rename_i l hh mm hb
           simp only[Option.some.injEq] at h;subst h
           refine⟨_,by simp only[VR];exact⟨q,hq,rfl⟩,λ_ _ _ _ w _=>?_⟩
           have hr:=Id_ (P:=P) hb b1 b2 b3 true w
           simp only[execOp,Instr.sliceAt,Instr.slice,ex,run_underlying hT,Sem.run_bind,Result.andThen_ok,hr,Sem.run_pure,A0_ hk w,Option.map_some]
           congr 4
           by_cases hml:mm=l
           . subst hml;simp
           . exact zR
         . cases h
     . rename_i i o len k'
       simp only[VR] at hx;obtain⟨q,cc,aa,hq,hroom,hle,ex,hae⟩:=hx
       cases hkk:Nat.beq k k' with
       |false=>rw[hkk] at h;cases h
       |true=>
       rw[hkk] at h
       have :=Nat.eq_of_beq_eq_true hkk
       subst this
       simp only[cond_true] at h
       split at h
       . split at h
         . rename_i l hh mm hb
           simp only[Option.some.injEq] at h;subst h
           obtain⟨hb2,hl⟩:=Sc_ hle hb
           obtain⟨e1,e2,e3⟩:=Mh_ hle hb2
           refine ⟨_,by
             simp only[VR]
             refine⟨q,cc-l,if cc=l then aa else aa.add (l*k),hq,?_,by omega,rfl,λh0=>?_⟩
             . have :cc*k=l*k+(cc-l)*k:=by rw[<- Nat.add_mul];congr 1;omega
               omega
             . rw[if_neg xN,hae xN,K_,Nat.add_assoc],λ_ _ _ _ w _=>?_⟩
           have hr:=Id_ (P:=P) hb2 b1 b2 b3 true w
           simp only[execOp,Instr.sliceAt,Instr.slice,ex,run_underlying hT,Sem.run_bind,Result.andThen_ok,hr,Sem.run_pure,A0_ hk w,Option.map_some]
           congr 3
           split<;>rfl
         . cases h
       . split at h
         . rename_i m00 _ l hh mm hb
           obtain⟨hb2,hl,_⟩:=Ox_ hle hb
           obtain⟨e1,e2,e3⟩:=Mh_ hle hb2
           cases hml:Nat.beq mm l with
           |true=>rw[hml] at h;cases h
           |false=>
             rw[hml] at h
             simp only[cond_false,Option.some.injEq] at h;subst h
             have hne:=Nat.ne_of_beq_eq_false hml
             have ha:=hae xN
             subst ha
             refine⟨_,by simp only[VR];exact⟨q,hq,rfl⟩,λ_ _ _ _ w _=>?_⟩
             have hr:=Id_ (P:=P) hb2 b1 b2 b3 true w
             simp only[execOp,Instr.sliceAt,Instr.slice,ex,run_underlying hT,Sem.run_bind,Result.andThen_ok,hr,Sem.run_pure,A0_ hk w,Option.map_some]
             simp[hne,K_,Nat.add_assoc]
         . cases h
     . simp only[VR] at hx
       split at h
       . rename_i l hb
         obtain⟨l,hh,mm⟩:=l
         simp only[Option.some.injEq] at h;subst h
         obtain⟨e1,e2,e3⟩:=Mh_ (Nat.le_refl _) hb
         have l0:l=0:=by omega
         have l1:hh=0:=by omega
         have l2:mm=0:=by omega
         subst l0;subst l1;subst l2
         refine⟨_,rfl,λ_ _ _ _ w _=>?_⟩
         have hr:=Id_ (P:=P) hb b1 b2 b3 true w
         simp[execOp,Instr.sliceAt,Instr.slice,hx,run_underlying hT,hr,A0_ hk w]
       . cases h
     . cases h
   . cases h
 . rename_i n e hT
   split at h
   . rename_i k hk
     split at h
     . rename_i i o
       simp only[VR] at hx;obtain⟨q,hq,ex⟩:=hx
       split at h
       . rename_i l hh mm hb
         simp only[Option.some.injEq] at h;subst h
         refine⟨_,by simp only[VR];exact⟨q,hq,rfl⟩,λ_ _ _ _ w _=>?_⟩
         have hr:=Id_ (P:=P) hb b1 b2 b3 false w
         simp only[execOp,Instr.sliceAt,Instr.sureAddr,ex,run_underlying hT,Sem.run_bind,Result.andThen_ok,hr,Sem.run_pure,A0_ hk w]
         congr 4
         by_cases hml:mm=l
         subst hml;simp
         exact zR
       . cases h
     . cases h
   . cases h
 . cases h
end Go.CE
namespace Go.CE
open Go.SW
noncomputable section
variable {P:Program} {n:Nat} {N:SW.Rest} {F:Fr} {H:Hp} {L:Ls} {ty T T':TypeId} {x y z:Operand} {β:Be} {f:Fe} {h:He} {nx:Nat}
abbrev Gt:=List (Nat×List CV)
def gbE:Gt->Nat->Option (List CV)
 |[],_=>none
 |(a,cs)::r,g=>bif Nat.beq a g then some cs else gbE r g
structure GH (G:Gt) (H:Hp):Prop where
 h:∀ g cs,gbE G g=some cs->∃ vs T fr,H g=some (.cells vs T fr)/\∀ β,VRs β cs vs.toList
theorem O0_ {cs:List CV} {vs:List Value} {s:Nat} (hv:VRs β cs ((vs.drop s).take cs.length)) {o:Nat} {c:CV} (hc:cs[o]? = some c):∃ v,vs[s+o]? = some v/\VR β c v:=by
 obtain⟨v,e,h1⟩:=hv.get hc;have hlt:o<cs.length:=(List.getElem?_eq_some_iff.1 hc).1;rw[List.getElem?_take,if_pos hlt,List.getElem?_drop] at e;exact⟨v,e,h1⟩
theorem Gc_ {vs:List Value} {s m o k:Nat} (hm:o+k<=m):(((vs.drop s).take m).drop o).take k=sub vs (s+o) k:=by
 unfold sub;rw[List.drop_take,List.take_take,List.drop_drop,Nat.min_eq_left xN]
def u8s (n x:Nat):List CV:=match n with
 |0=>[]
 |n+1=> .int .u8 ((x%256:Nat):Int)::u8s n (x/256)
theorem Va_:∀ (n x:Nat),VRs β (u8s n x) ((dec n x).map u8v)
 |0,_=> .nil
 |n+1,x=>by
   simp only[u8s,dec,List.map_cons]
   refine .cons ?_ (Va_ n _)
   simp only[VR,u8v]
   simp
theorem Oi_:∀ (n x:Nat),(u8s n x).length=n
 |0,_=>rfl
 |n+1,x=>by simp[u8s,Oi_ n]
def ldE (P:Program) (G:Gt) (h:He) (T:TypeId) (a:CV):Option CV:=match agE P T with
 |some true=>match szE P T with
   |some k=>match a with
     | .ptr i o=>match h.get i with
       |some (.cells _ cs _)=>bif Nat.ble (o+k) cs.length then some (.agg ((cs.drop o).take k)) else none
       |some (.bys _ m z _)=>bif Nat.ble (o+k) m then some (.agg (u8s k (z/256 ^ o%256 ^ k))) else none
       |_=>none
     |_=>none
   |none=>none
 |some false=>match a with
   | .ptr i o=>match h.get i with
     |some (.cells _ cs _)=>cs[o]?
     |some (.bys _ m z _)=>bif Nat.blt o m then some (.int .u8 ((z/256 ^ o%256:Nat):Int)) else none
     |some (.rob _ m z)=>bif Nat.blt o m then some (.int .u8 ((z/256 ^ o%256:Nat):Int)) else none
     |_=>none
   | .gp g o=>match gbE G g with
     |some cs=>cs[o]?
     |none=>none
   |_=>none
 |none=>none
theorem y_ld {G:Gt} {a c:CV} (hG:GH G H) (hh:HR β h nx L) (hx:VR β a (ev F x)) (he:ldE P G h T a=some c):Yl P N F H L β (.load T x) ty c:=by
 unfold ldE at he
 split at he
 . rename_i hg
   split at he
   . rename_i k hk
     split at he
     . rename_i i o
       simp only[VR] at hx;obtain⟨q,hq,ex⟩:=hx
       split at he
       . rename_i T0 cs gr hi
         cases hb:Nat.ble (o+k) cs.length with
         |false=>rw[hb] at he;cases he
         |true=>
           rw[hb] at he
           have hle:=Nat.le_of_ble_eq_true hb
           simp only[cond_true,Option.some.injEq] at he;subst he
           obtain⟨q',vs,h1,h2,h3,h4,_,h6,_⟩:=hh.br i _ hi
           rw[hq] at h1;cases h1
           have hs:sub vs (q.s+o) k=(((vs.drop q.s).take cs.length).drop o).take k:=(Gc_ hle).symm
           refine⟨.agg (sub vs (q.s+o) k).toArray,?_,Gq_ ex (Ex_ hg) (A0_ hk) h2 Y ?_⟩
           . simp only[VR];rw[hs];exact⟨_,rfl,(h6.drop o).take k⟩
           . simp[sub];omega
       . rename_i T0 m zz gr hi
         cases hb:Nat.ble (o+k) m with
         |false=>rw[hb] at he;cases he
         |true=>
           rw[hb] at he
           have hle:=Nat.le_of_ble_eq_true hb
           simp only[cond_true,Option.some.injEq] at he;subst he
           obtain⟨q',vs,h1,h2,h3,h4,_,_,h6,_⟩:=hh.br i _ hi
           rw[hq] at h1;cases h1
           have hs:sub vs (q.s+o) k=(((vs.drop q.s).take m).drop o).take k:=(Gc_ hle).symm
           refine⟨.agg (sub vs (q.s+o) k).toArray,?_,Gq_ ex (Ex_ hg) (A0_ hk) h2 Y ?_⟩
           . simp only[VR];rw[hs,h6,<- List.map_drop,<- List.map_take,Dp_ o m zz xN,Cu_ k (m-o) _ xN]
             exact⟨_,rfl,Va_ _ _⟩
           . simp[sub];omega
       . cases he
     . cases he
   . cases he
 . rename_i hg
   split at he
   . rename_i i o
     simp only[VR] at hx;obtain⟨q,hq,ex⟩:=hx
     split at he
     . rename_i T0 cs gr hi
       obtain⟨q',vs,h1,h2,h3,h4,_,h6,_⟩:=hh.br i _ hi
       rw[hq] at h1;cases h1
       obtain⟨v,e,hv⟩:=O0_ h6 he
       exact⟨v,hv,Bj_ ex (Ex_ hg) h2 e⟩
     . rename_i T0 m zz gr hi
       cases hb:Nat.blt o m with
       |false=>rw[hb] at he;cases he
       |true=>
         rw[hb] at he
         have hlt:=Ce_ hb
         simp only[cond_true,Option.some.injEq] at he;subst he
         obtain⟨q',vs,h1,h2,h3,h4,_,_,h6,_⟩:=hh.br i _ hi
         rw[hq] at h1;cases h1
         have e:vs[q.s+o]? = some (u8v (UInt8.ofNat (zz/256 ^ o%256))):=by
           have :=congrArg (λl:List Value=>l[o]?) h6
           simp only[List.getElem?_map,G5_ m zz o hlt,Option.map_some] at this
           rw[List.getElem?_take,if_pos hlt,List.getElem?_drop] at this
           exact this
         refine⟨_,?_,Bj_ ex (Ex_ hg) h2 e⟩
         simp only[VR,u8v];simp
     . rename_i T0 m zz hi
       cases hb:Nat.blt o m with
       |false=>rw[hb] at he;cases he
       |true=>
         rw[hb] at he
         have hlt:=Ce_ hb
         simp only[cond_true,Option.some.injEq] at he;subst he
         obtain⟨q',vs,fr,h1,h2,h3,h4,h6⟩:=hh.br i _ hi
         rw[hq] at h1;cases h1
         have e:vs[o]? = some (u8v (UInt8.ofNat (zz/256 ^ o%256))):=by
           have :=congrArg (λl:List Value=>l[o]?) h6
           simp only[List.getElem?_map,G5_ m zz o hlt,Option.map_some] at this
           rw[List.getElem?_take,if_pos hlt] at this
           exact xF
         rw[h3,Nat.zero_add] at ex
         refine⟨u8v (UInt8.ofNat (zz/256 ^ o%256)),?_,λd pos af g w hm=>?_⟩
         . simp only[VR,u8v];simp
         . have hc:w.cell? ⟨q.b,o,none⟩=some (u8v (UInt8.ofNat (zz/256 ^ o%256))):=by simp[World.cell?,hm.l i q.b _ h2,e]
           simp[execOp,Instr.loadAt,ex,Instr.sureAddr,loadVar,Ex_ hg w,hc]
     . cases he
   . rename_i g o
     simp only[VR] at hx
     split at he
     . rename_i cs hg2
       obtain⟨vs,T0,fr,h1,h2⟩:=hG.h g cs hg2
       obtain⟨v,e,hv⟩:=(h2 β).get he
       exact⟨v,hv,M3_ hx (Ex_ hg) h1 (by simpa using e)⟩
     . cases he
   . cases he
 . cases he
def b2sE (P:Program) (h:He) (T T':TypeId) (a:CV):Option CV:=match P.underlying T with
 |some (.slice e)=>match P.underlying T' with
   |some .string=>match P.underlying e with
     |some (.int .u8)=>match a with
       | .sl i o len _=>match h.get i with
         |some (.bys _ m z _)=>bif Nat.ble (o+len) m then some (.str len (z/256 ^ o%256 ^ len)) else none
         |_=>none
       | .slu i o len _=>match h.get i with
         |some (.bys _ m z _)=>bif Nat.ble (o+len) m&&Nat.blt 0 len then some (.str len (z/256 ^ o%256 ^ len)) else none
         |_=>none
       | .nils=>some (.str 0 0)
       |_=>none
     |_=>none
   |_=>none
 |_=>none
theorem lo_b2sG {e b o cap i T2:Nat} (l:Bs) {vs:List Value} (hx:ev F x = .slice (some ⟨b,o,none⟩) l.length cap) (hT:P.underlying T=some (.slice e)) (hT':P.underlying T'=some .string) (he:P.underlying e=some (.int .u8)) (hi:L i=some (b,bx T2 vs)) (hz:sub vs o l.length=l.map u8v) :
   Lo P N (.convert T T' x) ty F H L (SW.str l):=λd pos af g w hm=>by
 have :=run_convert_bytes_back (P:=P) w T T' e ⟨b,o,none⟩ cap l hT he hT' (λj hj=>by
   rw[K_]
   refine hm.cellL hi ?_
   have e1:=congrArg (λl:List Value=>l[j]?) hz
   simp only[sub,List.getElem?_take,if_pos hj,List.getElem?_drop] at e1
   rw[e1]
   simp[hj,u8v])
 simp[execOp,hx,this,SW.str]
theorem Tm_ {e:TypeId} (hT:P.underlying T=some (.slice e)) (hT':P.underlying T'=some .string) (he:P.underlying e=some (.int .u8)) (w:World):(convert T T' (.slice none 0 0)).run P w = .ok (SW.str []) w:=by
 simp[convert,run_underlying hT,run_underlying hT',run_underlying he,Conv.bytesToString,SW.str];rfl
theorem y_b2s {a c:CV} (hh:HR β h nx L) (hx:VR β a (ev F x)) (he:b2sE P h T T' a=some c):Yl P N F H L β (.convert T T' x) ty c:=by
 have key:∀ {i o len m zz T0:Nat} {gr:Bool} {q:Pl} {cap:Nat},β i=some q->h.get i=some (.bys T0 m zz gr)->Nat.ble (o+len) m=true->∀ {e:TypeId},P.underlying T=some (.slice e)->P.underlying T'=some .string->P.underlying e=some (.int .u8) ->
     ev F x = .slice (some ⟨q.b,q.s+o,none⟩) len cap->Yl P N F H L β (.convert T T' x) ty (.str len (zz/256 ^ o%256 ^ len)):=by
   intro i o len m zz T0 gr q cap hq hi hb e hT hT' hu ex
   have hle:=Nat.le_of_ble_eq_true hb
   obtain⟨q',vs,h1,h2,h3,h4,_,_,h6,_⟩:=hh.br i _ hi
   rw[hq] at h1;cases h1
   refine⟨_,⟨Nat.mod_lt _ (Nat.pow_pos xN),rfl⟩,lo_b2sG (dec len (zz/256 ^ o%256 ^ len)) (by rw[D_];exact ex) hT hT' hu h2 ?_⟩
   rw[D_,<- Gc_ (m:=m) hle,h6,<- List.map_drop,<- List.map_take,Dp_ o m zz xN,Cu_ len (m-o) _ xN]
 unfold b2sE at he
 split at he
 . rename_i e hT
   split at he
   . rename_i hT'
     split at he
     . rename_i hu
       split at he
       . rename_i i o len cap
         simp only[VR] at hx;obtain⟨q,hq,ex⟩:=hx
         split at he
         . rename_i T0 m zz gr hi
           cases hb:Nat.ble (o+len) m with
           |false=>rw[hb] at he;cases he
           |true=>
             rw[hb] at he
             simp only[cond_true,Option.some.injEq] at he;subst he
             exact key hq hi hb hT hT' hu ex
         . cases he
       . rename_i i o len k
         simp only[VR] at hx;obtain⟨q,cc,aa,hq,_,hle,ex,ha⟩:=hx
         split at he
         . rename_i T0 m zz gr hi
           cases hb:(Nat.ble (o+len) m&&Nat.blt 0 len) with
           |false=>rw[hb] at he;cases he
           |true=>
             rw[hb] at he
             simp only[Bool.and_eq_true] at hb
             simp only[cond_true,Option.some.injEq] at he;subst he
             have :=Ce_ hb.2
             have ha:=ha xN;subst ha
             exact key hq hi hb.1 hT hT' hu ex
         . cases he
       simp only[VR] at hx
       simp only[Option.some.injEq] at he;subst he
       refine⟨SW.str [],by simp only[VR];exact⟨by simp,rfl⟩,λ_ _ _ _ w _=>?_⟩
       simp[execOp,hx,Tm_ hT hT' hu w]
       . cases he
     . cases he
   . cases he
 . cases he
end
end Go.CE
namespace Go.CE
open Go.SW
noncomputable section
variable {P:Program} {n:Nat} {N:SW.Rest} {F:Fr} {H:Hp} {L:Ls} {ty T T':TypeId} {x y z:Operand} {β:Be} {f:Fe} {h:He} {nx:Nat}
structure Post (β:Be) (h:He) (nx:Nat) (L:Ls) (β':Be) (h':He) (nx':Nat) (L':Ls):Prop where
 le:β.le β'
 nle:nx<=nx'
 hr:HR β' h' nx' L'
 fr:∀ i,i<nx->h.get i=none->L' i=L i/\β' i=β i/\h'.get i=none
theorem Post.refl (hr:HR β h nx L):Post β h nx L β h nx L:=⟨.refl _,Nat.le_refl _,hr,λ_ _ e=>⟨rfl,rfl,e⟩⟩
theorem Post.trans {β' β'':Be} {h' h'':He} {nx' nx'':Nat} {L' L'':Ls} (a:Post β h nx L β' h' nx' L') (b:Post β' h' nx' L' β'' h'' nx'' L''):Post β h nx L β'' h'' nx'' L'':=
 ⟨a.le.trans b.le,Nat.le_trans a.nle b.nle,b.hr,λi hi e=>by
   obtain⟨a1,a2,a3⟩:=a.fr i hi e
   obtain⟨b1,b2,b3⟩:=b.fr i (Nat.lt_of_lt_of_le hi a.nle) a3
   exact⟨b1.trans a1,b2.trans a2,b3⟩⟩
def bset (β:Be) (i:Nat) (q:Pl):Be:=λj=>if j=i then some q else β j
theorem B0_ {i:Nat} {q:Pl} (h:β i=none):β.le (bset β i q):=λj p e=>by
 unfold bset;split
 . rename_i e';subst e';rw[h] at e;cases e
 . exact e
theorem J_ {i:Nat} {q:Pl}:bset β i q i=some q:=by simp[bset]
theorem Post.new {h':He} {hb:HB} {q:Pl} {x:Option (Nat×Obj)} (hr:HR β h nx L) (h1:h'.get nx=some hb) (h2:∀ j,j≠nx->h'.get j=h.get j) (hB:BR (bset β nx q) nx hb x):Post β h nx L (bset β nx q) h' (nx+1) (lupd L nx x):=by
 have h0:=(hr.fr nx (Nat.le_refl _)).1;refine⟨B0_ h0,Nat.le_succ _,⟨λi b e=>?_,λi b e=>?_,λi hi=>?_⟩,λi hi e=>?_⟩;by_cases e':i=nx
 . subst e';rw[h1] at e;cases e;rw[F_];exact hB
 rw[h2 i e'] at e;rw[E_ _ _ _ _ e'];exact (hr.br i b e).mono (B0_ h0);by_cases e':i=nx;omega;rw[h2 i e'] at e;have :=hr.lt i b e;omega;have e':i≠nx:=by omega
 rw[E_ _ _ _ _ e'];have :=hr.fr i xN;exact⟨by unfold bset;rw[if_neg e'];exact this.1,this.2⟩;have e':i≠nx:=by omega
 rw[E_ _ _ _ _ e',h2 i e'];exact⟨rfl,by unfold bset;rw[if_neg e'],e⟩
theorem Post.set {h':He} {i:Nat} {hb hb0:HB} {x:Option (Nat×Obj)} (hr:HR β h nx L) (h0:h.get i=some hb0) (h1:h'.get i=some hb) (h2:∀ j,j≠i->h'.get j=h.get j) (hB:BR β i hb x):Post β h nx L β h' nx (lupd L i x):=by
 have hlt:=hr.lt i _ h0;refine⟨.refl _,Nat.le_refl _,⟨λj b e=>?_,λj b e=>?_,λj hj=>?_⟩,λj hj e=>?_⟩;by_cases e':j=i
 . subst e';rw[h1] at e;cases e;rw[F_];exact hB
 rw[h2 j e'] at e;rw[E_ _ _ _ _ e'];exact hr.br j b e;by_cases e':j=i;subst e';exact hlt;rw[h2 j e'] at e;exact hr.lt j b e;have e':j≠i:=by omega
 rw[E_ _ _ _ _ e'];exact hr.fr j hj;have e':j≠i:=λq=>by subst q;rw[h0] at e;cases e
 rw[E_ _ _ _ _ e',h2 j e'];exact⟨rfl,rfl,e⟩
def pkE:List CV->Option (Nat×Nat)
 |[]=>some (0,0)
 | .int .u8 (.ofNat z)::r=>bif Nat.blt z 256 then (match pkE r with
   |some (n,x)=>some (n+1,z+256*x)
   |none=>none) else none
 |_::_=>none
theorem Nh_:∀ {cs:List CV} {m x:Nat} {vs:List Value},pkE cs=some (m,x)->VRs β cs vs->vs=(dec m x).map u8v/\x<256 ^ m
 |[],m,x,vs,e,hv=>by simp only[pkE,Option.some.injEq,Prod.mk.injEq] at e;obtain⟨rfl,rfl⟩:=e;rw[hv.nil_inv];exact⟨rfl,by simp⟩
 |c::r,m,x,vs,e,hv=>by
   obtain⟨v,us,rfl,h1,h2⟩:=hv.cons_inv
   unfold pkE at e
   split at e
   . rename_i e0;cases e0
   . rename_i z r' e0
     cases e0
     cases hb:Nat.blt z 256 with
     |false=>rw[hb] at e;cases e
     |true=>
       rw[hb] at e
       have hlt:=Ce_ hb
       simp only[cond_true] at e
       split at e
       . rename_i m' x' hr
         simp only[Option.some.injEq,Prod.mk.injEq] at e;obtain⟨rfl,rfl⟩:=e
         obtain⟨e1,e2⟩:=Nh_ hr h2
         simp only[VR] at h1;subst h1
         have a1:(z+256*x')%256=z:=by omega
         have a2:(z+256*x')/256=x':=by omega
         refine⟨?_,by rw[Nat.pow_succ];omega⟩
         simp only[dec,List.map_cons,a1,a2,<- e1,u8v]
         congr 2
         rw[UInt8.toNat_ofNat']
         have :z%2 ^ 8=z:=Nat.mod_eq_of_lt hlt
         rw[this];rfl
       . cases e
   . cases e
def isB (P:Program) (T:TypeId):Bool:=match P.underlying T with
 |some (.int .u8)=>true
 |some (.array _ e)=>match P.underlying e with
   |some (.int .u8)=>true
   |_=>false
 |_=>false
def mkB (P:Program) (T:TypeId) (cs:List CV):Option HB:=match isB P T with
 |true=>match pkE cs with
   |some (n,x)=>some (.bys T n x false)
   |none=>none
 |false=>bif all1 cs then some (.cells T cs false) else none
theorem Ks_ {cs:List CV} {hb:HB} {vs:List Value} {i b:Nat} (e:mkB P T cs=some hb) (hv:VRs β cs vs) (hi:β i=some ⟨b,0,vs.length⟩):BR β i hb (some (b,bx T vs)):=by
 unfold mkB at e
 split at e
 . split at e
   . rename_i m x hp
     simp only[Option.some.injEq] at e;subst e
     obtain⟨e1,e2⟩:=Nh_ hp hv
     have hl:vs.length=m:=by rw[e1];simp[D_]
     refine⟨_,vs,hi,rfl,by simp,by simp;omega,λ_=>⟨rfl,by simp;omega⟩,e2,?_,λv hv=>?_⟩
     rw[List.drop_zero,<- hl,List.take_length];exact hl ▸ e1
     rw[e1] at hv;obtain⟨a,_,rfl⟩:=List.mem_map.1 hv;rfl
   . cases e
 . cases ha:all1 cs with
   |false=>rw[ha] at e;cases e
   |true=>
     rw[ha] at e
     simp only[cond_true,Option.some.injEq] at e;subst e
     have hl:=hv.length
     refine⟨_,vs,hi,rfl,by simp,by simp;omega,λ_=>⟨rfl,hl⟩,?_,Cd_ hv ha⟩
     rw[List.drop_zero,<- hl,List.take_length];exact hv
def Es (P:Program) (n:Nat) (N:SW.Rest) (F:Fr) (H:Hp) (L:Ls) (β:Be) (h:He) (nx:Nat) (o:Oper) (c:CV) (h':He) (nx':Nat):Prop:=
 ∀ (ops:List Oper) (K:Fr->Hp->Ls->Prop),(∀ β' v L',VR β' c v->Post β h nx L β' h' nx' L'->K (putO F o.dst v) H L')->Op1 P n N ops o K F H L
theorem Es.of_yl {op:Op} {d:Nat} {pos:String} {af:Array Edge} {c:CV} (hd:Nat.blt d n=true) (hr:HR β h nx L) (hy:Yl P N F H L β op ty c):Es P n N F H L β h nx ⟨some d,op,ty,pos,af,none⟩ c h nx:=λops K k=>by
 obtain⟨v,h1,h2⟩:=hy
 exact E9_ hd h2 (k β v L h1 (.refl hr))
abbrev Ke (R:Type):=CV->He->Nat->Option R
def newE {R:Type} (P:Program) (h:He) (nx:Nat) (T:TypeId) (cs:List CV) (k:Ke R):Option R:=match mkB P T cs with
 |some hb=>Tr.setK 40 h nx hb λh=>k (.ptr nx 0) h (nx+1)
 |none=>none
theorem Qj_ {R:Type} {cs:List CV} {k:Ke R} {z:R} (e:newE P h nx T cs k=some z):∃ h',k (.ptr nx 0) h' (nx+1)=some z/\∀ {β:Be} {L:Ls} {vs:List Value} (b:Nat),HR β h nx L->VRs β cs vs->VR (bset β nx ⟨b,0,vs.length⟩) (.ptr nx 0) (.pointer (some ⟨b,0,none⟩))/\Post β h nx L (bset β nx ⟨b,0,vs.length⟩) h' (nx+1) (lupd L nx (some (b,bx T vs))):=by
 unfold newE at e
 split at e
 . rename_i hb hB
   obtain⟨h',e1,e2,e3⟩:=Tr.setK_ok _ _ _ _ _ _ e
   exact yA
 . cases e
def alE {R:Type} (P:Program) (h:He) (nx:Nat) (T:TypeId) (k:Ke R):Option R:=match H5_ P T with
 |some cs=>newE P h nx T cs k
 |none=>none
theorem e_al {R:Type} {k:Ke R} {r:R} {d:Nat} {pos:String} {af:Array Edge} (e:alE P h nx T k=some r):∃ c h' nx',k c h' nx'=some r/\∀ {β:Be} {L:Ls} {F:Fr},Nat.blt d n=true->HR β h nx L->Es P n N F H L β h nx ⟨some d, .alloc T,ty,pos,af,none⟩ c h' nx':=by
 unfold alE at e
 split at e
 . rename_i cs hz
   obtain⟨h',e1,e2⟩:=Qj_ e
   refine⟨_,h',_,e1,λ{β L F} hd hr ops K k=>?_⟩
   obtain⟨zv,z1,z2⟩:=Cc_ (β:=β) hz
   refine Ec_ (cs:=zv.cells.toList) nx hd (λw=>⟨zv,z1 w,by simp⟩) λb=>?_
   obtain⟨a1,a2⟩:=e2 b hr z2
   exact k _ _ _ a1 a2
 . cases e
def bxE {R:Type} (P:Program) (h:He) (nx:Nat) (T:TypeId) (a:CV) (k:Ke R):Option R:=match G1_ a with
 |some cs=>newE P h nx T cs k
 |none=>none
theorem e_bx {R:Type} {k:Ke R} {r:R} {a:CV} {d:Nat} {pos:String} {af:Array Edge} (e:bxE P h nx T a k=some r):∃ c h' nx',k c h' nx'=some r/\∀ {β:Be} {L:Ls} {F:Fr},Nat.blt d n=true->HR β h nx L->VR β a (ev F x)->Es P n N F H L β h nx ⟨some d, .box T x,ty,pos,af,none⟩ c h' nx':=by
 unfold bxE at e
 split at e
 . rename_i cs hc
   obtain⟨h',e1,e2⟩:=Qj_ e
   refine⟨_,h',_,e1,λ{β L F} hd hr hx ops K k=>?_⟩
   have hv:=C5_ hc hx
   intro ac w ha hm
   rw[if_pos xR]
   unfold Oper.wp
   have :(execOp ac.eval ⟨some d, .box T x,ty,pos,af,none⟩).run P w = .ok (.value (.pointer (some ⟨w.heap.size,0,none⟩))) {w with heap:=w.heap.push (bx T (ev F x).cells.toList)}:=by
     rw[ha.eval]
     simp[execOp,Instr.box,newVar,newRow,bx]
   rw[this]
   obtain⟨a1,a2⟩:=e2 w.heap.size hr hv
   exact⟨_,H,_,ha.put xU _,hm.push nx _,k _ _ _ a1 a2⟩
 . cases e
def stE {R:Type} (P:Program) (h:He) (nx:Nat) (T:TypeId) (a b:CV) (k:Ke R):Option R:=match a with
 | .ptr i o=>match G1_ b with
   |some ds=>match szE P T with
     | some m=>bif Nat.beq ds.length m&&all1 ds then (match h.get i with
       |some (.cells T0 cs gr)=>bif Nat.ble (o+m) cs.length then Tr.setK 40 h i (.cells T0 (Ek_ cs o ds) gr) λh=>k (.tup []) h nx else none
       |some (.bys T0 l x gr)=>match pkE ds with
         |some (_,u)=>bif Nat.ble (o+m) l then Tr.setK 40 h i (.bys T0 l (x%256 ^ o+u*256 ^ o+x/256 ^ (o+m)*256 ^ (o+m)) gr) λh=>k (.tup []) h nx else none
         |none=>none
       |_=>none) else none
     |none=>none
   |none=>none
 |_=>none
theorem Ca_:∀ (us vs:List Value) (o:Nat),o+us.length<=vs.length->Ax_ vs o us=vs.take o++us++vs.drop (o+us.length)
 |[],vs,o,_=>by simp[Ax_]
 |u::r,vs,o,hl=>by
   simp only[List.length_cons] at hl
   simp only[Ax_,List.length_cons]
   rw[Ca_ r (vs.set o u) (o+1) xS]
   have hlt:o<vs.length:=by omega
   rw[List.take_add_one,List.take_set_of_le (Nat.le_refl _)]
   rw[List.drop_set_of_lt xN]
   simp[hlt,show o+(r.length+1)=o+1+r.length by omega]
theorem El_ {vs us:List Value} {s o m:Nat} (hm:o+us.length<=m) (hl:s+m<=vs.length):((Ax_ vs (s+o) us).drop s).take m=Ax_ ((vs.drop s).take m) o us:=by
 rw[Ca_ us vs (s+o) xN,Ca_ us _ o xS]
 apply List.ext_getElem?
 intro j;simp only[List.getElem?_take,List.getElem?_drop,List.getElem?_append,List.length_append,List.length_take,List.length_drop];by_cases hj:j<m;rw[if_pos hj];have e1:min (s+o) vs.length=s+o:=by omega
 have e2:min o (min m (vs.length-s))=o:=by omega
 rw[e1,e2];by_cases h1:j<o;rw[if_pos xN,if_pos xN,if_pos xN,if_pos xN,if_pos h1,if_pos hj,if_pos h1];by_cases h2:j<o+us.length
 . rw[if_pos xN,if_neg xN,if_pos xN,if_neg xN]
   congr 1;omega
 . rw[if_neg xN,if_neg xN]
   rw[if_pos xN]
   congr 1;omega
 . rw[if_neg hj]
   symm
   rw[if_neg xN]
   rw[if_neg xN]
theorem O9_ {l m o x u:Nat} (hx:x<256 ^ l) (hu:u<256 ^ m) (hl:o+m<=l):(dec l x).take o++dec m u++(dec l x).drop (o+m)=dec l (x%256 ^ o+u*256 ^ o+x/256 ^ (o+m)*256 ^ (o+m))/\x%256 ^ o+u*256 ^ o+x/256 ^ (o+m)*256 ^ (o+m)<256 ^ l:=by
 have h0:x%256 ^ o<256 ^ o:=Nat.mod_lt _ (Nat.pow_pos xN);have h1:x%256 ^ o+u*256 ^ o<256 ^ (o+m):=M7_ h0 hu;have h2:x/256 ^ (o+m)<256 ^ (l-(o+m)):=by
   rw[Nat.div_lt_iff_lt_mul (Nat.pow_pos xN),<- Nat.pow_add]
   rwa [show l-(o+m)+(o+m)=l by omega]
 have h3:=M7_ h1 h2;rw[show o+m+(l-(o+m))=l by omega] at h3;refine⟨?_,h3⟩;rw[Cu_ o l x xN,Dp_ (o+m) l x hl,E4_ o m _ _ h0,E4_ _ _ _ _ h1,show o+m+(l-(o+m))=l by omega]
theorem Jy_ {cs ds:List CV} {vs us:List Value} {s o:Nat} (hv:VRs β cs ((vs.drop s).take cs.length)) (hd:VRs β ds us) (hm:o+ds.length<=cs.length) (hl:s+cs.length<=vs.length):VRs β (Ek_ cs o ds) (((Ax_ vs (s+o) us).drop s).take (Ek_ cs o ds).length):=by
 rw[Bw_,El_ (by rw[hd.length];exact hm) hl];exact Fo_ _ _ _ hv hd
theorem Dd_:∀ (us vs:List Value) (o:Nat),(∀ v∈vs,v.oneCell'=true)->(∀ v∈us,v.oneCell'=true)->∀ v∈Ax_ vs o us,v.oneCell'=true
 |[],_,_,h,_,v,hv=>h v hv
 | u::r,vs,o,h,k,v,hv=>Dd_ r (vs.set o u) (o+1) (λw hw=>by
     rcases List.mem_or_eq_of_mem_set hw with q|rfl
     . exact h w q
     . exact k _ xP) (λw hw=>k w (by simp[hw])) v hv
theorem BR.cells_set {i b T0:Nat} {cs ds:List CV} {gr:Bool} {vs us:List Value} {o:Nat} (hB:BR β i (.cells T0 cs gr) (some (b,bx T0 vs))) (hd:VRs β ds us) (h1:all1 ds=true) (hm:o+ds.length<=cs.length):∃ q,β i=some q/\b=q.b/\q.s+o+us.length<=vs.length/\BR β i (.cells T0 (Ek_ cs o ds) gr) (some (b,bx T0 (Ax_ vs (q.s+o) us))):=by
 obtain⟨q,vs',e1,e2,e3,e4,e5,e6,e7⟩:=hB;simp only[Option.some.injEq,Prod.mk.injEq] at e2;obtain⟨rfl,e2⟩:=e2;have :vs=vs':=by
   exact yZ
 subst this;have hl:=hd.length;exact⟨q,e1,rfl,by omega,q,_,e1,rfl,by rw[B6_];exact e3,by rw[Bw_];exact e4,λg=>by rw[Bw_];exact e5 g,Jy_ e6 hd hm xN,Dd_ _ _ _ e7 (Cd_ hd h1)⟩
theorem BR.bys_set {i b T0:Nat} {l x m u:Nat} {gr:Bool} {vs:List Value} {o:Nat} (hB:BR β i (.bys T0 l x gr) (some (b,bx T0 vs))) (hu:u<256 ^ m) (hm:o+m<=l):∃ q,β i=some q/\b=q.b/\q.s+o+m<=vs.length/\BR β i (.bys T0 l (x%256 ^ o+u*256 ^ o+x/256 ^ (o+m)*256 ^ (o+m)) gr) (some (b,bx T0 (Ax_ vs (q.s+o) ((dec m u).map u8v)))):=by
 obtain⟨q,vs',e1,e2,e3,e4,e5,e6,e7,e8⟩:=hB;simp only[Option.some.injEq,Prod.mk.injEq] at e2;obtain⟨rfl,e2⟩:=e2;have :vs=vs':=by
   exact yZ
 subst this;have hl:((dec m u).map u8v).length=m:=by simp[D_]
 obtain⟨d1,d2⟩:=O9_ e6 hu hm;refine⟨q,e1,rfl,by omega,q,_,e1,rfl,by rw[B6_];exact e3,e4,e5,d2,?_,Dd_ _ _ _ e8 (λv hv=>by obtain⟨a,_,rfl⟩:=List.mem_map.1 hv;rfl)⟩;rw[El_ (by rw[hl];exact hm) xN,e7,Ca_ _ _ _ (by rw[hl];simp[D_];omega),hl,<- List.map_take,<- List.map_drop,<- List.map_append,<- List.map_append,d1]
theorem e_st {R:Type} {k:Ke R} {r:R} {a c:CV} {pos:String} {af:Array Edge} (e:stE P h nx T a c k=some r):∃ c' h' nx',k c' h' nx'=some r/\∀ {β:Be} {L:Ls} {F:Fr},HR β h nx L->VR β a (ev F x)->VR β c (ev F y)->Es P n N F H L β h nx ⟨none, .store T x y,ty,pos,af,none⟩ c' h' nx':=by
 have key:∀ {β:Be} {L:Ls} {F:Fr} {i o m:Nat} {q:Pl} {T0:TypeId} {vs us:List Value} {h':He} {hb hb0:HB},HR β h nx L->h.get i=some hb0->β i=some q->L i=some (q.b,bx T0 vs)->ev F x = .pointer (some ⟨q.b,q.s+o,none⟩)->us=(ev F y).cells.toList->us.length=m->szE P T=some m->q.s+o+us.length<=vs.length->(∀ v∈us,v.oneCell'=true) ->
     h'.get i=some hb->(∀ j,j≠i->h'.get j=h.get j)->BR β i hb (some (q.b,bx T0 (Ax_ vs (q.s+o) us)))->Es P n N F H L β h nx ⟨none, .store T x y,ty,pos,af,none⟩ (.tup []) h' nx:=by
   intro β L F i o m q T0 vs us h' hb hb0 hr hi0 hq hi ex hus hm hk hl h1 g1 g2 hB ops K kk ac w ha hmm
   rw[if_pos xR]
   unfold Oper.wp
   obtain⟨w',L',e1,e2,e3,e4⟩:=Mem.storeA (P:=P) q.b i (q.s+o) us vs 0 L w hmm hi wE h1
   have hcs:(ev F y).cells.size=m:=by rw[<- hm,hus];simp
   have :(execOp ac.eval ⟨none, .store T x y,ty,pos,af,none⟩).run P w = .ok .skip w':=by
     rw[ha.eval]
     rw[hus] at e1
     simp[execOp,Instr.storeAt,ex,Instr.sureAddr,storeVar,A0_ hk w,hcs,e1]
   rw[this]
   have hL:L'=lupd L i (some (q.b,bx T0 (Ax_ vs (q.s+o) us))):=funext λj=>by
     by_cases e':j=i
     . subst e';rw[F_,e4];rfl
     . rw[E_ _ _ _ _ e',e3 j e']
   subst hL
   exact⟨_,_,_,ha,e2,kk β undef _ (by simp only[VR];exact⟨[],rfl, .nil⟩) (.set hr hi0 g1 g2 hB)⟩
 unfold stE at e
 split at e
 . rename_i i o
   split at e
   . rename_i ds hds
     split at e
     . rename_i m hm
       cases hb:(Nat.beq ds.length m&&all1 ds) with
       |false=>rw[hb] at e;cases e
       |true=>
         rw[hb] at e
         simp only[Bool.and_eq_true] at hb
         have hlen:=Nat.eq_of_beq_eq_true hb.1
         simp only[cond_true] at e
         split at e
         . rename_i T0 cs gr hi
           cases hb2:Nat.ble (o+m) cs.length with
           |false=>rw[hb2] at e;cases e
           |true=>
             rw[hb2] at e
             have hle:=Nat.le_of_ble_eq_true hb2
             simp only[cond_true] at e
             obtain⟨h',e1,e2,e3⟩:=Tr.setK_ok _ _ _ _ _ _ e
             refine⟨_,h',_,e1,λ{β L F} hr hx hy=>?_⟩
             have hv:=C5_ hds hy
             have hB:=hr.br i _ hi
             obtain⟨q,vs,f1,f2,_⟩:=hB
             have hB:=hr.br i _ hi
             rw[f2] at hB
             obtain⟨q',g1,g2,g3,g4⟩:=BR.cells_set (o:=o) hB hv hb.2 xN
             rw[f1] at g1;cases g1
             simp only[VR] at hx;obtain⟨q2,hq,ex⟩:=hx
             rw[f1] at hq;cases hq
             exact key hr hi f1 f2 ex Y (by rw[hv.length];exact hlen) hm g3 (Cd_ hv hb.2) e2 e3 g4
         . rename_i T0 l x0 gr hi
           split at e
           . rename_i m' u hp
             cases hb2:Nat.ble (o+m) l with
             |false=>rw[hb2] at e;cases e
             |true=>
               rw[hb2] at e
               have hle:=Nat.le_of_ble_eq_true hb2
               simp only[cond_true] at e
               obtain⟨h',e1,e2,e3⟩:=Tr.setK_ok _ _ _ _ _ _ e
               refine⟨_,h',_,e1,λ{β L F} hr hx hy=>?_⟩
               have hv:=C5_ hds hy
               obtain⟨p1,p2⟩:=Nh_ hp hv
               have hm':m'=m:=by have :=hv.length;rw[p1] at this;simp[D_] at this;omega
               subst hm'
               obtain⟨q,vs,f1,f2,_⟩:=hr.br i _ hi
               have hB:=hr.br i _ hi
               rw[f2] at hB
               obtain⟨q',g1,g2,g3,g4⟩:=BR.bys_set (o:=o) hB p2 hle
               rw[f1] at g1;cases g1
               simp only[VR] at hx;obtain⟨q2,hq,ex⟩:=hx
               rw[f1] at hq;cases hq
               exact key hr hi f1 f2 ex p1.symm (by simp[D_]) hm (by simp[D_];exact g3) (λv hv=>by obtain⟨a,_,rfl⟩:=List.mem_map.1 hv;rfl) e2 e3 g4
           . cases e
         . cases e
     . cases e
   . cases e
 . cases e
end
end Go.CE
namespace Go.CE
open Go.SW
noncomputable section
variable {P:Program} {n:Nat} {N:SW.Rest} {F:Fr} {H:Hp} {L:Ls} {ty T T' T2:TypeId} {x y z:Operand} {β:Be} {f:Fe} {h:He} {nx:Nat}
def byE (P:Program) (T:TypeId):Option Nat:=match P.info? T with
 |some i=>some i.bytes
 |none=>none
theorem Mk_ {k:Nat} (e:byE P T=some k):By P T k:=by
 unfold byE at e
 split at e
 . rename_i i hi;simp only[Option.some.injEq] at e;intro w;exact⟨i,by simp[typeInfo,hi],e⟩
 . cases e
def ordE (k:Nat):Nat->List (Nat×CV)->Option (List CV)
 |_,[]=>some []
 | i,(j,c)::r=>bif Nat.beq j i then (match G1_ c with
   | some ds=>bif Nat.beq ds.length k then (match ordE k (i+1) r with
     |some es=>some (ds++es)
     |none=>none) else none
   |none=>none) else none
theorem Lx_ {k:Nat}:∀ {ps:List (Nat×CV)} {i:Nat} {cs:List CV} {vs:List (Nat×Value)},ordE k i ps=some cs->VRp β ps vs->Hd_ k i vs/\VRs β cs (Dn_ vs)/\vs.length=ps.length
 |[],i,cs,vs,e,hv=>by
   simp only[ordE,Option.some.injEq] at e;subst e
   simp only[VRp] at hv;subst hv
   exact⟨trivial, .nil,rfl⟩
 |(j,c)::r,i,cs,vs,e,hv=>by
   simp only[VRp] at hv
   obtain⟨v,us,rfl,h1,h2⟩:=hv
   simp only[ordE] at e
   cases hj:Nat.beq j i with
   |false=>rw[hj] at e;cases e
   |true=>
     rw[hj] at e
     simp only[cond_true] at e
     split at e
     . rename_i ds hd
       cases hk:Nat.beq ds.length k with
       |false=>rw[hk] at e;cases e
       |true=>
         rw[hk] at e
         simp only[cond_true] at e
         split at e
         . rename_i es he
           simp only[Option.some.injEq] at e;subst e
           obtain⟨a1,a2,a3⟩:=Lx_ he h2
           have hc:=C5_ hd h1
           have :=hc.length
           have hk':=Nat.eq_of_beq_eq_true hk
           simp at this
           exact⟨⟨Nat.eq_of_beq_eq_true hj,by show v.cells.size=k;omega,a1⟩,hc.app a2,by simp[a3]⟩
         . cases e
     . cases e
def newS {R:Type} (P:Program) (h:He) (nx:Nat) (e len:Nat) (cs:List CV) (k:Ke R):Option R:=match mkB P e cs with
 |some hb=>Tr.setK 40 h nx hb λh=>k (.sl nx 0 len len) h (nx+1)
 |none=>none
theorem newS_ok {R:Type} {cs:List CV} {k:Ke R} {z:R} {e len:Nat} (e0:newS P h nx e len cs k=some z):∃ h',k (.sl nx 0 len len) h' (nx+1)=some z/\∀ {β:Be} {L:Ls} {vs:List Value} (b:Nat),HR β h nx L->VRs β cs vs->VR (bset β nx ⟨b,0,vs.length⟩) (.sl nx 0 len len) (.slice (some ⟨b,0,none⟩) len len)/\Post β h nx L (bset β nx ⟨b,0,vs.length⟩) h' (nx+1) (lupd L nx (some (b,bx e vs))):=by
 unfold newS at e0
 split at e0
 . rename_i hb hB
   obtain⟨h',e1,e2,e3⟩:=Tr.setK_ok _ _ _ _ _ _ e0
   exact yA
 . cases e0
def bslE {R:Type} (P:Program) (f:Fe) (h:He) (nx:Nat) (T len:Nat) (ps:List (Nat×Operand)) (k:Ke R):Option R:=match P.underlying T with
 |some (.slice e)=>match szE P e with
   |some m=>match H5_ P e with
     |some _=>match efps f ps with
       |some qs=>match ordE m 0 qs with
         |some cs=>bif Nat.beq qs.length len&&Nat.ble (len*m) 16777216 then newS P h nx e len cs k else none
         |none=>none
       |none=>none
     |none=>none
   |none=>none
 |_=>none
theorem e_bsl {R:Type} {k:Ke R} {r:R} {len:Nat} {ps:List (Nat×Operand)} {d:Nat} {pos:String} {af:Array Edge} (e:bslE P f h nx T len ps k=some r):∃ c h' nx',k c h' nx'=some r/\∀ {β:Be} {L:Ls} {F:Fr},Nat.blt d n=true->FR β f F->HR β h nx L->Es P n N F H L β h nx ⟨some d, .buildSlice T len ps.toArray,ty,pos,af,none⟩ c h' nx':=by
 unfold bslE at e
 split at e
 . rename_i e0 hT
   split at e
   . rename_i m hm
     split at e
     . rename_i zs hz
       split at e
       . rename_i qs hq
         split at e
         . rename_i cs hc
           cases hb:(Nat.beq qs.length len&&Nat.ble (len*m) 16777216) with
           |false=>rw[hb] at e;cases e
           |true=>
             rw[hb] at e
             simp only[Bool.and_eq_true] at hb
             simp only[cond_true] at e
             obtain⟨h',e1,e2⟩:=newS_ok e
             refine⟨_,h',_,e1,λ{β L F} hd hf hr ops K kk=>?_⟩
             have hp:=I6_ hf hq
             obtain⟨a1,a2,a3⟩:=Lx_ hc hp
             obtain⟨zv,z1,_⟩:=Cc_ (β:=β) hz
             refine Er_ nx hd hT (A0_ hm) ⟨zv,z1⟩ Y a1 (by rw[a3];exact Nat.eq_of_beq_eq_true hb.1) Y (Nat.le_of_ble_eq_true hb.2) λb=>?_
             obtain⟨b1,b2⟩:=e2 b hr a2
             exact kk _ _ _ b1 b2
         . cases e
       . cases e
     . cases e
   . cases e
 . cases e
def repC (zs:List CV):Nat->List CV
 |0=>[]
 |n+1=>zs++repC zs n
def repV (zs:List Value):Nat->List Value
 |0=>[]
 |n+1=>zs++repV zs n
theorem Lz_ {zs:List CV} {vs:List Value} (hv:VRs β zs vs):∀ m,VRs β (repC zs m) (repV vs m)
 |0=> .nil
 |m+1=>hv.app (Lz_ hv m)
theorem Bl_ (zs:List Value):∀ m,(repV zs m).length=m*zs.length
 |0=>by simp[repV]
 |m+1=>by simp only[repV,List.length_append,Bl_ zs m,Nat.add_mul,Nat.one_mul];omega
theorem Nm_ (zs:List Value):∀ m i,i<m*zs.length->(repV zs m)[i]? = zs[i%zs.length]?
 |0,i,hi=>by simp at hi
 |m+1,i,hi=>by
   simp only[repV,List.getElem?_append]
   split
   . rename_i hlt;rw[Nat.mod_eq_of_lt hlt]
   . rename_i hge
     rw[Nm_ zs m (i-zs.length) (by rw[Nat.add_mul,Nat.one_mul] at hi;omega)]
     congr 1
     exact (Nat.mod_eq_sub_mod xN).symm
theorem Nw_ (zs:List Value) (m:Nat):((Array.range (m*zs.length)).map (λi=>zs.toArray[i%zs.toArray.size]!))=(repV zs m).toArray:=by
 apply Array.ext'
 apply List.ext_getElem?
 intro i;simp only[Array.toList_map,Array.toList_range,List.getElem?_map,List.getElem?_range'];by_cases hi:i<m*zs.length;have h0:0<zs.length:=by
   rcases Nat.eq_zero_or_pos zs.length with q|q
   . rw[q] at hi;simp at hi
   . exact q
 have hmod:i%zs.length<zs.length:=Nat.mod_lt _ h0;rw[Nm_ zs m i hi];simp[hi,hmod];rw[List.getElem?_eq_none (l:=repV zs m) (by rw[Bl_];omega)];simp[hi]
def mkE {R:Type} (P:Program) (h:He) (nx:Nat) (T:TypeId) (a b:CV) (k:Ke R):Option R:=match P.underlying T with
 |some (.slice e)=>match szE P e with
   |some m=>match byE P e with
     |some by_=>match natE a with
       |some l=>match natE b with
         | some c=>bif Nat.ble l c&&(Nat.ble (by_*c) 281474976710656&&Nat.blt 0 by_) then (match isB P e with
           | true=>bif Nat.beq m 1 then (match H5_ P e with
             |some zz=>bif (match pkE zz with|some (q,w)=>Nat.beq q 1&&Nat.beq w 0|none=>false) then Tr.setK 40 h nx (.bys e c 0 false) λh=>k (.sl nx 0 l c) h (nx+1) else none
             |none=>none) else none
           |false=>match H5_ P e with
             |some zs=>bif Nat.beq zs.length m&&all1 (repC zs c) then Tr.setK 40 h nx (.cells e (repC zs c) false) λh=>k (.sl nx 0 l c) h (nx+1) else none
             |none=>none) else none
         |none=>none
       |none=>none
     |none=>none
   |none=>none
 |_=>none
theorem K7_ {m:Nat} (h9:m<=9223372036854775807):IntKind.wrap .i64 (m:Int)=(m:Int):=by
 simp only[IntKind.wrap,IntKind.bits,IntKind.signed];simp;split<;>omega
theorem run_mk {l c m by_:Nat} {e:TypeId} {k1 k2:IntKind} {zs:List Value} {zv:Value} {w:World} (hT:P.underlying T=some (.slice e)) (hm:szE P e=some m) (hb:byE P e=some by_) (hz:∀ w,(zeroValue e).run P w = .ok zv w) (hzs:zv.cells=zs.toArray) (hzl:zs.length=m) (hlc:l<=c) (hbd:by_*c<=281474976710656) (h0:0<by_) :
   (Instr.makeSlice T (.int k1 (l:Int)) (.int k2 (c:Int))).run P w = .ok (.slice (some ⟨w.heap.size,0,none⟩) l c) {w with heap:=w.heap.push (bx e (repV zs c))}:=by
 have hc9:c<=9223372036854775807:=by
   have :c<=by_*c:=Nat.le_mul_of_pos_left _ h0
   omega
 obtain⟨inf,hinf,hbb⟩:=Mk_ hb w;have h2:¬(281474976710656<(inf.bytes:Int)*(c:Int)):=by
   rw[hbb]
   have e1:((by_:Int)*(c:Int))=((by_*c:Nat):Int):=by simp
   rw[e1];omega
 have h4:¬((c:Int)<(l:Int)):=by omega
 have h5:¬((c:Int)<0):=by omega
 have h6:¬((l:Int)<0):=by omega
 have hrep:=Nw_ zs c;rw[hzl] at hrep;by_cases h0:c*m=0;have :repV zs c=[]:=List.length_eq_zero_iff.1 (by rw[Bl_,hzl];exact h0);have hr:Array.range 0 = #[]:=by apply Array.ext';simp
 simp[Instr.makeSlice,run_underlying hT,Ej_,hinf,K7_ hc9,K7_ (show l<=9223372036854775807 by omega),h2,h4,h5,h6,A0_ hm w,h0,newRow,bx,this,hr];rw[<- hzs] at hrep;simp[Instr.makeSlice,run_underlying hT,Ej_,hinf,K7_ hc9,K7_ (show l<=9223372036854775807 by omega),h2,h4,h5,h6,A0_ hm w,h0,newRow,bx,hz];rw[hrep]
theorem Sk_:∀ n,dec n 0=List.replicate n 0
 |0=>rfl
 |n+1=>by simp only[dec,Nat.zero_mod,Nat.zero_div,Sk_ n,List.replicate_succ];rfl
theorem e_mk {R:Type} {k:Ke R} {r:R} {a b:CV} {d:Nat} {pos:String} {af:Array Edge} (e:mkE P h nx T a b k=some r):∃ c h' nx',k c h' nx'=some r/\∀ {β:Be} {L:Ls} {F:Fr},Nat.blt d n=true->HR β h nx L->VR β a (ev F x)->VR β b (ev F y)->Es P n N F H L β h nx ⟨some d, .makeSlice T x y,ty,pos,af,none⟩ c h' nx':=by
 unfold mkE at e
 split at e
 . rename_i e0 hT
   split at e
   . rename_i m hm
     split at e
     . rename_i by_ hby
       split at e
       . rename_i l hl
         split at e
         . rename_i c hc
           cases hb:(Nat.ble l c&&(Nat.ble (by_*c) 281474976710656&&Nat.blt 0 by_)) with
           |false=>rw[hb] at e;cases e
           |true=>
             rw[hb] at e
             simp only[Bool.and_eq_true] at hb
             have hlc:=Nat.le_of_ble_eq_true hb.1
             have hbd:=Nat.le_of_ble_eq_true hb.2.1
             have h0:=Ce_ hb.2.2
             simp only[cond_true] at e
             have key:∀ {β:Be} {L:Ls} {F:Fr} {zv:Value} {h':He} {hb:HB},Nat.blt d n=true->HR β h nx L->VR β a (ev F x)->VR β b (ev F y)->(∀ w,(zeroValue e0).run P w = .ok zv w)->zv.cells.toList.length=m->h'.get nx=some hb->(∀ j,j≠nx->h'.get j=h.get j) ->
                 (∀ b,BR (bset β nx ⟨b,0,c*m⟩) nx hb (some (b,bx e0 (repV zv.cells.toList c))))->Es P n N F H L β h nx ⟨some d, .makeSlice T x y,ty,pos,af,none⟩ (.sl nx 0 l c) h' (nx+1):=by
               intro β L F zv h' hb hd hr hx hy hz hzl g1 g2 hB ops K kk ac w ha hmm
               rw[if_pos xR]
               unfold Oper.wp
               obtain⟨k1,ex⟩:=Du_ hl hx
               obtain⟨k2,ey⟩:=Du_ hc hy
               have hrun:=run_mk (k1:=k1) (k2:=k2) (w:=w) hT hm hby hz (zs:=zv.cells.toList) xP hzl hlc hbd h0
               have :(execOp ac.eval ⟨some d, .makeSlice T x y,ty,pos,af,none⟩).run P w = .ok (.value (.slice (some ⟨w.heap.size,0,none⟩) l c)) {w with heap:=w.heap.push (bx e0 (repV zv.cells.toList c))}:=by
                 rw[ha.eval]
                 simp only[execOp,ex,ey,Sem.run_bind,hrun,Result.andThen_ok,Sem.run_pure]
               rw[this]
               refine⟨_,H,_,ha.put xU _,hmm.push nx _,kk (bset β nx ⟨w.heap.size,0,c*m⟩) _ _ ?_ (.new hr g1 g2 (hB _))⟩
               exact yY
             split at e
             . rename_i hB
               cases hm1:Nat.beq m 1 with
               |false=>rw[hm1] at e;cases e
               |true=>
                 rw[hm1] at e
                 have hm1':=Nat.eq_of_beq_eq_true hm1
                 subst hm1'
                 simp only[cond_true] at e
                 split at e
                 . rename_i zz hz0
                   cases hz1:(match pkE zz with|some (q,w)=>Nat.beq q 1&&Nat.beq w 0|none=>false) with
                   |false=>rw[hz1] at e;cases e
                   |true=>
                     rw[hz1] at e
                     simp only[cond_true] at e
                     obtain⟨h',e1,e2,e3⟩:=Tr.setK_ok _ _ _ _ _ _ e
                     refine⟨_,h',_,e1,λ{β L F} hd hr hx hy=>?_⟩
                     obtain⟨zv,z1,z2⟩:=Cc_ (β:=β) hz0
                     split at hz1
                     . rename_i q w hp
                       simp only[Bool.and_eq_true] at hz1
                       have q1:=Nat.eq_of_beq_eq_true hz1.1
                       have w1:=Nat.eq_of_beq_eq_true hz1.2
                       subst q1;subst w1
                       obtain⟨p1,_⟩:=Nh_ hp z2
                       have hrp:∀ c,repV zv.cells.toList c=(dec c 0).map u8v:=by
                         intro c
                         rw[p1]
                         induction c with
                         |zero=>rfl
                         |succ c ih=>simp only[repV,ih];simp[dec,u8v]
                       have hlen:(repV zv.cells.toList c).length=c:=by rw[hrp];simp[D_]
                       refine key hd hr hx hy z1 (by rw[p1];rfl) e2 e3 λb=>⟨_,_,J_,rfl,by simp[hlen],by simp,λ_=>⟨rfl,by simp⟩,Nat.pow_pos xN,?_,λv hv=>?_⟩
                       . simp only[List.drop_zero]
                         rw[List.take_of_length_le xN,hrp]
                       . rw[hrp] at hv;obtain⟨a,_,rfl⟩:=List.mem_map.1 hv;rfl
                     . cases hz1
                 . cases e
             . split at e
               . rename_i zz hz0
                 cases hz1:(Nat.beq zz.length m&&all1 (repC zz c)) with
                 |false=>rw[hz1] at e;cases e
                 |true=>
                   rw[hz1] at e
                   simp only[Bool.and_eq_true] at hz1
                   simp only[cond_true] at e
                   obtain⟨h',e1,e2,e3⟩:=Tr.setK_ok _ _ _ _ _ _ e
                   refine⟨_,h',_,e1,λ{β L F} hd hr hx hy=>?_⟩
                   obtain⟨zv,z1,z2⟩:=Cc_ (β:=β) hz0
                   have hlm:zv.cells.toList.length=m:=by rw[z2.length];exact Nat.eq_of_beq_eq_true hz1.1
                   have hlen:(repV zv.cells.toList c).length=c*m:=by rw[Bl_,hlm]
                   have hR:=Lz_ z2 c
                   have hlr:=hR.length
                   refine key hd hr hx hy z1 hlm e2 e3 λb=>⟨_,_,J_,rfl,by simp[hlen],by simp;omega,λ_=>⟨rfl,by simp;omega⟩,?_,Cd_ hR hz1.2⟩
                   simp only[List.drop_zero]
                   rw[List.take_of_length_le xN]
                   exact hR.mono (B0_ (hr.fr nx (Nat.le_refl _)).1)
               . cases e
         . cases e
       . cases e
     . cases e
   . cases e
 . cases e
end
end Go.CE
