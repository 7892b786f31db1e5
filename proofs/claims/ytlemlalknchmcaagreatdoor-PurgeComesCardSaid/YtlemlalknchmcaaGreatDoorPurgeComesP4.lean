/-
  A part of the proof of PurgeComes: Closed runs: appends and copies. Over any program; each asks that its operands stand for what it
-/
import Derived.Test.YtlemlalknchmcaaGreatDoorPurgeComesP3
import Derived.Lib.Bytealg
import Derived.Test.YtlemlalknchmcaaGreatDoorPurgeComesP2
import Derived.LoopN
import Derived.Lib.Repeat
import Derived.Lib.MakeNoZero
set_option linter.unusedVariables false
set_option linter.unusedSimpArgs false
set_option maxRecDepth 100000
set_option maxHeartbeats 4000000
namespace Go.CE
open Go.SW
noncomputable section
variable {P:Program} {n:Nat} {N:SW.Rest} {F:Fr} {H:Hp} {L:Ls} {ty T T' T2:TypeId} {x y z:Operand} {β:Be} {f:Fe} {h:He} {nx:Nat}
theorem Gb_ {k len m cap b o i:Nat} {e ats T0:TypeId} {d2:TypeDesc} {sv:Value} {vs news:List Value} {w:World} (hT:P.underlying T=some (.slice e)) (hT2:P.underlying T2=some d2) (hd2:Hn_ d2=true) (hk:Sz P e k) (hs:Src P N H L k sv m news) (hone:∀ u∈news,u.oneCell'=true)
   (hm:Mem N H L w) (hi:L i=some (b,bx T0 vs)) (hle:len+m<=cap) (hl:o+len*k+news.length<=vs.length) :
   ∃ w',(Builtin.append_ #[T,T2] ats #[.slice (some ⟨b,o,none⟩) len cap,sv]).run P w = .ok (.slice (some ⟨b,o,none⟩) (len+m) cap) w'/\Mem N H (lupd L i (some (b,bx T0 (Ax_ vs (o+len*k) news)))) w':=by
 obtain⟨hlen,hcells⟩:=hs.2 w hm;obtain⟨w',L',e1,e2,e3,e4⟩:=Mem.storeA (P:=P) b i (o+len*k) news vs 0 L w hm hi xN hone;have hLL:L'=lupd L i (some (b,bx T0 (Ax_ vs (o+len*k) news))):=funext λq=>by
   by_cases e':q=i
   . subst e';rw[F_,e4];rfl
   . rw[E_ _ _ _ _ e',e3 q e']
 subst hLL;refine⟨w',?_,e2⟩;rw[Go_ hT hT2 hd2 hk hlen hle];simp[hcells,K_,e1]
theorem K4_ {k len m cap bytes:Nat} {e ats:TypeId} {d2:TypeDesc} {sv:Value} {base:Option Addr} {zs old news:List Value} {w:World} (j:Nat) (hT:P.underlying T=some (.slice e)) (hT2:P.underlying T2=some d2) (hd2:Hn_ d2=true) (hk:Sz P e k) (hb:By P e bytes) (h0:0<bytes) (hz:Zr P e zs) (hzl:zs.length=k) (hzo:∀ u∈zs,u.oneCell'=true)
   (hs:Src P N H L k sv m news) (hm:Mem N H L w) (hle:¬len+m<=cap) (hbd:(len+m)*bytes<=140737488355328) (hold:∀ w,Mem N H L w->(Builtin.firstCells k len (.slice base len cap)).run P w = .ok old.toArray w) (hol:old.length=len*k) :
   ∃ w' nc b rest,(Builtin.append_ #[T,T2] ats #[.slice base len cap,sv]).run P w = .ok (.slice (some ⟨b,0,none⟩) (len+m) nc) w'/\len+m<=nc/\(old++news++rest).length=nc*k/\(∀ u∈rest,u.oneCell'=true)/\Mem N H (lupd L j (some (b,bx e (old++news++rest)))) w':=by
 obtain⟨inf,hinf,hbb⟩:=hb w;obtain⟨hlen,hcells⟩:=hs.2 w hm;have hfit:=growslice_fits (need:=len+m) (old:=cap) (bytes:=bytes) xN hbd;have hgrow:=Mg_ (P:=P) (ats:=ats) (base:=base) hT hT2 hd2 hk hlen hle hinf xN (by rw[hbb];omega);obtain⟨nc,hnc⟩:∃ nc,nc=(Question.appendCap (len+m) cap e).cut (w.tape w.drawn (Question.appendCap (len+m) cap e)):=⟨_,rfl⟩;have hnge:len+m<=nc:=by rw[hnc];simp only[Question.cut];omega
 have hzc:∀ q,(Builtin.zeroCells zs.toArray q).size=q*k:=λq=>by simp[Builtin.zeroCells,hzl]
 refine⟨_,nc,w.heap.size,(Builtin.zeroCells zs.toArray (nc-(len+m))).toList,?_,hnge,?_,λu hu=>?_,(hm.drew (w.drawn+1)).push j _⟩;rw[hgrow];obtain⟨z,hz1,hz2⟩:=hz w.drew;obtain⟨inf',hinf',_⟩:=hb w.drew;obtain⟨_,hcells'⟩:=hs.2 w.drew (hm.drew (w.drawn+1));have hold':=hold w.drew (hm.drew (w.drawn+1));have hq:(Question.appendCap (len+m) cap e).forced=false:=rfl;simp[hq,hinf',hcells',hz1,hz2,newRow,bx,hold',<- hnc];exact yT
 . simp only[List.length_append,Array.length_toList,hzc,hs.1,hol]
   rw[<- Nat.add_mul,<- Nat.add_mul]
   congr 1;omega
 simp only[Builtin.zeroCells,Array.toList_map,List.mem_map] at hu;obtain⟨q,hq,rfl⟩:=hu;have h1:q<(nc-(len+m))*zs.length:=by simpa using hq
 have h0:0<zs.length:=Nat.pos_of_ne_zero λe=>by rw[e] at h1;simp at h1
 have hmod:q%zs.length<zs.length:=Nat.mod_lt _ h0;have :zs.toArray[q%zs.toArray.size]! = zs[q%zs.length]:=by simp[hmod]
 rw[this];exact hzo _ (List.getElem_mem hmod)
theorem Mem.renum {w:World} {i j:Nat} {x:Option (Nat×Obj)} (hm:Mem N H (lupd L i x) w) (hj:L j=none) (hij:j≠i):Mem N H (lupd (lupd L i none) j x) w:=by
 have hx:∀ q (y:Nat×Obj),lupd (lupd L i none) j x q=some y->∃ q',lupd L i x q'=some y/\(q=j/\q'=i\/q≠j/\q'=q/\q≠i):=λq y e=>by
   by_cases e1:q=j
   . subst e1;rw[F_] at e;exact⟨i,by rw[F_];exact e, .inl ⟨rfl,rfl⟩⟩
   . rw[E_ _ _ _ _ e1] at e
     obtain⟨e2,e3⟩:=Kr_ e
     exact⟨q,by rw[E_ _ _ _ _ e2];exact e3, .inr ⟨e1,rfl,e2⟩⟩
 refine hm.sub (λq y e=>?_) (λq q' y y' e e' hb=>?_);obtain⟨p,h1,_⟩:=hx q y e;exact⟨p,h1⟩
 . obtain⟨p,h1,c1⟩:=hx q y e
   obtain⟨p',h2,c2⟩:=hx q' y' e'
   obtain⟨yb,yo⟩:=y;obtain⟨yb',yo'⟩:=y'
   cases (show yb=yb' from hb)
   have :=hm.ll p p' yb yo yo' h1 h2
   omega
theorem Post.take {h1 h2:He} {i:Nat} {hb hb0:HB} {q:Pl} {x:Option (Nat×Obj)} (hr:HR β h nx L) (h0:h.get i=some hb0) (g1:h1.get i=some .dead) (g2:∀ j,j≠i->h1.get j=h.get j) (g3:h2.get nx=some hb) (g4:∀ j,j≠nx->h2.get j=h1.get j) (hB:BR (bset β nx q) nx hb x) :
   Post β h nx L (bset β nx q) h2 (nx+1) (lupd (lupd L i none) nx x):=
 (Post.set hr h0 g1 g2 (show BR β i .dead none from rfl)).trans (.new (Post.set hr h0 g1 g2 (show BR β i .dead none from rfl)).hr g3 g4 hB)
end
end Go.CE
namespace Go.CE
open Go.SW
noncomputable section
variable {P:Program} {n:Nat} {N:SW.Rest} {F:Fr} {H:Hp} {L:Ls} {ty T T' T2:TypeId} {x y z:Operand} {β:Be} {f:Fe} {h:He} {nx:Nat}
inductive CC where
 |b (n x:Nat)
 |c (cs:List CV)
def CC.len:CC->Nat
 | .b n _=>n
 | .c cs=>cs.length
def CC.R (β:Be):CC->List Value->Prop
 | .b n x,vs=>x<256 ^ n/\vs=(dec n x).map u8v
 | .c cs,vs=>VRs β cs vs/\∀ v∈vs,v.oneCell'=true
theorem CC.R.length {c:CC} {vs:List Value} (hr:c.R β vs):vs.length=c.len:=by
 cases c with
 |b n x=>rw[hr.2];simp[CC.len,D_]
 |c cs=>exact hr.1.length
theorem CC.R.one {c:CC} {vs:List Value} (hr:c.R β vs):∀ v∈vs,v.oneCell'=true:=by
 cases c with
 |b n x=>intro v hv;rw[hr.2] at hv;obtain⟨a,_,rfl⟩:=List.mem_map.1 hv;rfl
 |c cs=>exact hr.2
theorem CC.R.mono {β':Be} (hl:β.le β') {c:CC} {vs:List Value} (hr:c.R β vs):c.R β' vs:=by
 cases c with
 |b n x=>exact hr
 |c cs=>exact⟨hr.1.mono hl,hr.2⟩
def CC.sub (o m:Nat) (c:CC):Option CC:=bif Nat.ble (o+m) c.len then (match c with
 | .b _ x=>some (.b m (x/256 ^ o%256 ^ m))
 | .c cs=>some (.c ((cs.drop o).take m))) else none
theorem CC.sub_ok {o m:Nat} {c d:CC} {vs:List Value} (e:c.sub o m=some d) (hr:c.R β vs):d.R β ((vs.drop o).take m)/\d.len=m/\o+m<=c.len:=by
 unfold CC.sub at e
 cases hb:Nat.ble (o+m) c.len with
 |false=>rw[hb] at e;cases e
 |true=>
   rw[hb] at e
   have hle:=Nat.le_of_ble_eq_true hb
   simp only[cond_true] at e
   split at e
   . rename_i l x
     simp only[Option.some.injEq] at e;subst e
     simp only[CC.len] at hle
     refine⟨⟨Nat.mod_lt _ (Nat.pow_pos xN),?_⟩,rfl,hle⟩
     rw[hr.2,<- List.map_drop,<- List.map_take,Dp_ o l x xN,Cu_ m (l-o) _ xN]
   . rename_i cs
     simp only[Option.some.injEq] at e;subst e
     simp only[CC.len] at hle
     exact⟨⟨(hr.1.drop o).take m,λv hv=>hr.2 v (List.mem_of_mem_drop (List.mem_of_mem_take hv))⟩,by simp[CC.len];omega,hle⟩
def CC.app (c d:CC):Option CC:=match c with
 | .b n x=>match d with
   | .b m y=>some (.b (n+m) (x+y*256 ^ n))
   | .c _=>none
 | .c cs=>match d with
   | .c ds=>some (.c (cs++ds))
   | .b _ _=>none
theorem CC.app_ok {c d e:CC} {vs us:List Value} (h:c.app d=some e) (hc:c.R β vs) (hd:d.R β us):e.R β (vs++us)/\e.len=c.len+d.len:=by
 unfold CC.app at h
 split at h
 . split at h
   simp only[Option.some.injEq] at h;subst h
   exact⟨⟨M7_ hc.1 hd.1,by rw[hc.2,hd.2,<- List.map_append,E4_ _ _ _ _ hc.1]⟩,rfl⟩
   . cases h
 . split at h
   simp only[Option.some.injEq] at h;subst h
   exact⟨⟨hc.1.app hd.1,λv hv=>(List.mem_append.1 hv).elim (hc.2 v) (hd.2 v)⟩,by simp[CC.len]⟩
   . cases h
def CC.put (o:Nat) (c d:CC):Option CC:=bif Nat.ble (o+d.len) c.len then (match c with
 | .b n x=>match d with
   | .b m u=>some (.b n (x%256 ^ o+u*256 ^ o+x/256 ^ (o+m)*256 ^ (o+m)))
   | .c _=>none
 | .c cs=>match d with
   | .c ds=>some (.c (Ek_ cs o ds))
   | .b _ _=>none) else none
theorem CC.put_ok {o:Nat} {c d e:CC} {vs us:List Value} (h:c.put o d=some e) (hc:c.R β vs) (hd:d.R β us):e.R β (Ax_ vs o us)/\e.len=c.len/\o+d.len<=c.len:=by
 unfold CC.put at h
 cases hb:Nat.ble (o+d.len) c.len with
 |false=>rw[hb] at h;cases h
 |true=>
   rw[hb] at h
   have hle:=Nat.le_of_ble_eq_true hb
   simp only[cond_true] at h
   split at h
   . rename_i l x
     split at h
     . rename_i m u
       simp only[Option.some.injEq] at h;subst h
       simp only[CC.len] at hle
       obtain⟨d1,d2⟩:=O9_ hc.1 hd.1 hle
       refine⟨⟨d2,?_⟩,rfl,hle⟩
       rw[hc.2,hd.2,Ca_ _ _ _ (by simp[D_];omega)]
       simp only[List.length_map,D_]
       rw[<- List.map_take,<- List.map_drop,<- List.map_append,<- List.map_append,d1]
     . cases h
   . split at h
     . simp only[Option.some.injEq] at h;subst h
       exact⟨⟨Fo_ _ _ _ hc.1 hd.1,Dd_ _ _ _ hc.2 hd.2⟩,by simp[CC.len,Bw_],hle⟩
     . cases h
def hbC:HB->Option (TypeId×CC×Bool)
 | .cells T cs gr=>some (T, .c cs,gr)
 | .bys T n x gr=>some (T, .b n x,gr)
 |_=>none
def CC.hb (T:TypeId) (c:CC) (gr:Bool):HB:=match c with
 | .b n x=> .bys T n x gr
 | .c cs=> .cells T cs gr
theorem BR.cc {i:Nat} {hb:HB} {c:CC} {gr:Bool} {x:Option (Nat×Obj)} (hB:BR β i hb x) (e:hbC hb=some (T,c,gr)):∃ q vs,β i=some q/\x=some (q.b,bx T vs)/\vs.length=q.s+q.r/\c.len<=q.r/\(gr=false->q.s=0/\q.r=c.len)/\c.R β ((vs.drop q.s).take c.len)/\(∀ v∈vs,v.oneCell'=true):=by
 unfold hbC at e
 split at e
 simp only[Option.some.injEq,Prod.mk.injEq] at e;obtain⟨rfl,rfl,rfl⟩:=e;obtain⟨q,vs,h1,h2,h3,h4,h5,h6,h7⟩:=hB;exact⟨q,vs,h1,h2,h3,h4,h5,⟨h6,λv hv=>h7 v (List.mem_of_mem_drop (List.mem_of_mem_take hv))⟩,h7⟩;simp only[Option.some.injEq,Prod.mk.injEq] at e;obtain⟨rfl,rfl,rfl⟩:=e;obtain⟨q,vs,h1,h2,h3,h4,h5,h6,h7,h8⟩:=hB;exact⟨q,vs,h1,h2,h3,h4,h5,⟨h6,h7⟩,h8⟩
 . cases e
theorem CC.br {i:Nat} {c:CC} {gr:Bool} {q:Pl} {vs:List Value} (h1:β i=some q) (h3:vs.length=q.s+q.r) (h4:c.len<=q.r) (h5:gr=false->q.s=0/\q.r=c.len) (h6:c.R β ((vs.drop q.s).take c.len)) (h7:∀ v∈vs,v.oneCell'=true):BR β i (c.hb T gr) (some (q.b,bx T vs)):=by
 cases c with
 |b n x=>exact⟨q,vs,h1,rfl,h3,h4,h5,h6.1,h6.2,h7⟩
 |c cs=>exact⟨q,vs,h1,rfl,h3,h4,h5,h6.1,h7⟩
def CC.nil (isb:Bool):CC:=bif isb then .b 0 0 else .c []
theorem CC.nil_ok {isb:Bool}:(CC.nil isb).R β []/\(CC.nil isb).len=0:=by
 cases isb
 exact⟨⟨.nil,λv hv=>by cases hv⟩,rfl⟩
 exact⟨⟨by simp,rfl⟩,rfl⟩
def srcE (h:He) (isb:Bool) (k:Nat) (a:CV):Option (Nat×CC):=match a with
 | .str n x=>bif isb then some (n, .b n x) else none
 | .nils=>some (0,CC.nil isb)
 | .sl i o len _=>match len with
   |0=>some (0,CC.nil isb)
   |_=>match h.get i with
     |some hb=>match hbC hb with
       |some (_,c,_)=>match c.sub o (len*k) with
         |some d=>some (len,d)
         |none=>none
       |none=>none
     |none=>none
 | .slu i o len _=>match len with
   |0=>some (0,CC.nil isb)
   |_=>match h.get i with
     |some hb=>match hbC hb with
       |some (_,c,_)=>match c.sub o (len*k) with
         |some d=>some (len,d)
         |none=>none
       |none=>none
     |none=>none
 |_=>none
theorem Tt_ {k:Nat} {a:Option Addr} {c:Nat}:Src P N H L k (.slice a 0 c) 0 []:=⟨by simp,λw _=>⟨by simp [Builtin.lenOf],by
 cases a<;>simp[Builtin.firstCells,loadCells,loadCellsFrom]⟩⟩
theorem L5_ {b o i len cap k T0:Nat} {vs:List Value} (hi:L i=some (b,bx T0 vs)) (hl:o+len*k<=vs.length):Src P N H L k (.slice (some ⟨b,o,none⟩) len cap) len (SW.sub vs o (len*k)):=by
 have hlen:(SW.sub vs o (len*k)).length=len*k:=by simp[SW.sub];omega
 refine⟨hlen,λw hm=>⟨by simp[Builtin.lenOf],?_⟩⟩
 have :=run_loadCells_list (P:=P) w ⟨b,o,none⟩ (SW.sub vs o (len*k)) (λj v hj=>by
   rw[K_]
   refine hm.cellL hi ?_
   simp only[SW.sub,List.getElem?_take,List.getElem?_drop] at hj
   split at hj
   . exact hj
   . cases hj)
 rw[hlen] at this;exact xD
theorem H0_ {isb:Bool} {k m:Nat} {a:CV} {d:CC} {v:Value} (e:srcE h isb k a=some (m,d)) (hk:isb=true->k=1) (hr:HR β h nx L) (hv:VR β a v):∃ us,Src P N H L k v m us/\d.R β us:=by
 have nil:∀ {aa:Option Addr} {c:Nat},∃ us,Src P N H L k (.slice aa 0 c) 0 us/\(CC.nil isb).R β us:=λ{aa c}=>⟨[],Tt_,CC.nil_ok.1⟩;have blk:∀ {i o len cap:Nat} {q:Pl} {hb:HB} {T0:TypeId} {c:CC} {gr:Bool} {d:CC},β i=some q->h.get i=some hb->hbC hb=some (T0,c,gr)->c.sub o (len*k)=some d->∃ us,Src P N H L k (.slice (some ⟨q.b,q.s+o,none⟩) len cap) len us/\d.R β us:=by
   intro i o len cap q hb T0 c gr d hq hi hc hs
   obtain⟨q',vs,f1,f2,f3,f4,f5,f6,f7⟩:=(hr.br i _ hi).cc hc
   rw[hq] at f1;cases f1
   obtain⟨s1,s2,s3⟩:=CC.sub_ok hs f6
   refine⟨_,L5_ f2 xN,?_⟩
   rw[<- Gc_ (m:=c.len) s3]
   exact s1
 unfold srcE at e
 split at e
 . rename_i l x
   cases isb with
   |false=>cases e
   |true=>
     simp only[cond_true,Option.some.injEq,Prod.mk.injEq] at e
     obtain⟨rfl,rfl⟩:=e
     have :=hk Y;subst this
     simp only[VR] at hv
     rw[hv.2]
     have hs:=src_str (P:=P) (N:=N) (H:=H) (L:=L) (l:=dec l x)
     rw[D_] at hs
     exact⟨_,hs,hv.1,rfl⟩
 simp only[Option.some.injEq,Prod.mk.injEq] at e;obtain⟨rfl,rfl⟩:=e;simp only[VR] at hv;subst hv;exact nil
 . rename_i i o len cap
   simp only[VR] at hv;obtain⟨q,hq,rfl⟩:=hv
   cases len with
   |zero=>simp only[Option.some.injEq,Prod.mk.injEq] at e;obtain⟨rfl,rfl⟩:=e;exact nil
   |succ len=>
     simp only at e
     split at e
     . rename_i hb hi
       split at e
       . rename_i T0 c gr hc
         split at e
         . exact yG
         . cases e
       . cases e
     . cases e
 . rename_i i o len k'
   simp only[VR] at hv;obtain⟨q,cc,aa,hq,_,hle,rfl,ha⟩:=hv
   cases len with
   |zero=>simp only[Option.some.injEq,Prod.mk.injEq] at e;obtain⟨rfl,rfl⟩:=e;exact nil
   |succ len=>
     simp only at e
     have :=ha xN;subst this
     split at e
     . rename_i hb hi
       split at e
       . rename_i T0 c gr hc
         split at e
         . exact yG
         . cases e
       . cases e
     . cases e
 . cases e
end
end Go.CE
namespace Go.CE
open Go.SW
noncomputable section
variable {P:Program} {n:Nat} {N:SW.Rest} {F:Fr} {H:Hp} {L:Ls} {ty T T' T2:TypeId} {x y z:Operand} {β:Be} {f:Fe} {h:He} {nx:Nat}
def apT (P:Program) (T T2:TypeId):Option (TypeId×Nat×Nat):=match P.underlying T with
 |some (.slice e)=>match P.underlying T2 with
   |some d2=>match szE P e with
     |some m=>match byE P e with
       |some by_=>match H5_ P e with
         |some zs=>bif Hn_ d2&&(Nat.blt 0 by_&&(Nat.beq zs.length m&&(all1 zs&&(Nat.blt 0 m&&(!isB P e||Nat.beq m 1))))) then some (e,m,by_) else none
         |none=>none
       |none=>none
     |none=>none
   |none=>none
 |_=>none
structure ApT (P:Program) (T T2:TypeId) (e m by_:Nat):Prop where
 hT:P.underlying T=some (.slice e)
 hT2:∃ d2,P.underlying T2=some d2/\Hn_ d2=true
 hk:Sz P e m
 hb:By P e by_
 h0:0<by_
 hz:∃ zs:List Value,Zr P e zs/\zs.length=m/\∀ u∈zs,u.oneCell'=true
 hm:0<m
 hB:isB P e=true->m=1
theorem apT_ok {e m by_:Nat} (he:apT P T T2=some (e,m,by_)):ApT P T T2 e m by_:=by
 unfold apT at he
 split at he
 . rename_i e' hT
   split at he
   . rename_i d2 hT2
     split at he
     . rename_i m' hm
       split at he
       . rename_i b' hb
         split at he
         . rename_i zs hz
           cases hc:(Hn_ d2&&(Nat.blt 0 b'&&(Nat.beq zs.length m'&&(all1 zs&&(Nat.blt 0 m'&&(!isB P e'||Nat.beq m' 1)))))) with
           |false=>rw[hc] at he;cases he
           |true=>
             rw[hc] at he
             simp only[cond_true,Option.some.injEq,Prod.mk.injEq] at he
             obtain⟨rfl,rfl,rfl⟩:=he
             simp only[Bool.and_eq_true] at hc
             obtain⟨c1,c2,c3,c4,c6,c5⟩:=hc
             obtain⟨zv,z1,z2⟩:=Cc_ (β:=λ_=>none) hz
             refine⟨hT,⟨d2,hT2,c1⟩,A0_ hm,Mk_ hb,Ce_ c2,⟨zv.cells.toList,λw=>⟨zv,z1 w,by simp⟩,by rw[z2.length];exact Nat.eq_of_beq_eq_true c3,Cd_ z2 c4⟩,Ce_ c6,λhB=>?_⟩
             rw[hB] at c5
             simpa using c5
         . cases he
       . cases he
     . cases he
   . cases he
 . cases he
def grE {R:Type} (h:He) (nx:Nat) (e m len by_:Nat) (c:CC) (k:Ke R):Option R:=
 bif Nat.ble (len*by_) 140737488355328&&Nat.beq c.len (len*m) then Tr.setK 40 h nx (c.hb e true) λh=>k (.slu nx 0 len m) h (nx+1) else none
def apE {R:Type} (P:Program) (h:He) (nx:Nat) (T T2:TypeId) (a b:CV) (k:Ke R):Option R:=match apT P T T2 with
 |some (e,m,by_)=>match srcE h (isB P e) m b with
   |some (l,d)=>match a with
     | .nils=>match l with
       |0=>k .nils h nx
       |_=>grE h nx e m l by_ d k
     | .sl i o len cap=>match l with
       |0=>bif Nat.ble len cap then k (.sl i o len cap) h nx else none
       |_=>match h.get i with
         |some hb=>match hbC hb with
           | some (T0,c,gr)=>bif Nat.ble (len+l) cap then (match c.put (o+len*m) d with
               |some c'=>Tr.setK 40 h i (c'.hb T0 gr) λh=>k (.sl i o (len+l) cap) h nx
               |none=>none) else (match c.sub o (len*m) with
               |some c0=>match c0.app d with
                 |some c'=>grE h nx e m (len+l) by_ c' k
                 |none=>none
               |none=>none)
           |none=>none
         |none=>none
     | .slu i o len m'=>bif Nat.beq m' m then (match l with
       |0=>k (.slu i o len m) h nx
       |_=>match h.get i with
         |some hb=>match hbC hb with
           | some (T0,c,gr)=>bif Nat.ble (o+(len+l)*m) c.len then (match c.put (o+len*m) d with
               |some c'=>Tr.setK 40 h i (c'.hb T0 gr) λh=>k (.slu i o (len+l) m) h nx
               |none=>none) else bif Nat.beq (o+len*m) c.len&&Nat.beq T0 e then (match c.sub o (len*m) with
               |some c0=>match c0.app d with
                 |some c'=>Tr.setK 40 h i .dead λh=>grE h nx e m (len+l) by_ c' k
                 |none=>none
               |none=>none) else none
           |none=>none
         |none=>none) else none
     |_=>none
   |none=>none
 |none=>none
theorem Cw_ {v sv r:Value} {w w':World} {d:Option Tmp} {pos:String} {af:Array Edge} {g:Option (Nat×Bool)} (hx:ev F x=v) (hy:ev F y=sv) (h:∀ ats,(Builtin.append_ #[T,T2] ats #[v,sv]).run P w = .ok r w'):(execOp (ev F) ⟨d, .call ⟨.builtin .append,#[x,y],#[T,T2]⟩,ty,pos,af,g⟩).run P w = .ok (.value r) w':=
 I_ (args:=#[v,sv]) wH λcs=>by simp[builtin,h]
theorem HR.cc {i:Nat} {hb:HB} {c:CC} {gr:Bool} {q:Pl} {T0:TypeId} (hr:HR β h nx L) (hi:h.get i=some hb) (hc:hbC hb=some (T0,c,gr)) (hq:β i=some q):∃ vs,L i=some (q.b,bx T0 vs)/\vs.length=q.s+q.r/\c.len<=q.r/\(gr=false->q.s=0/\q.r=c.len)/\c.R β ((vs.drop q.s).take c.len)/\(∀ v∈vs,v.oneCell'=true):=by
 obtain⟨q',vs,f1,f2⟩:=(hr.br i _ hi).cc hc;rw[hq] at f1;cases f1
 exact⟨vs,f2⟩
theorem CC.put_br {i:Nat} {c d c':CC} {gr:Bool} {q:Pl} {vs us:List Value} {o:Nat} (hq:β i=some q) (e:c.put o d=some c') (g3:vs.length=q.s+q.r) (g4:c.len<=q.r) (g5:gr=false->q.s=0/\q.r=c.len) (g6:c.R β ((vs.drop q.s).take c.len)) (g7:∀ v∈vs,v.oneCell'=true) (hd:d.R β us):q.s+o+us.length<=vs.length/\BR β i (c'.hb T gr) (some (q.b,bx T (Ax_ vs (q.s+o) us))):=by
 obtain⟨p1,p2,p3⟩:=CC.put_ok e g6 hd;have hl:=hd.length;refine⟨by omega,CC.br hq (by rw[B6_];exact g3) xN (λg=>by rw[p2];exact g5 g) ?_ (Dd_ _ _ _ g7 hd.one)⟩;rw[p2,El_ (m:=c.len) xN xN];exact p1
theorem Ty_ {vs us:List Value} {s p:Nat} (hl:s+p+us.length<=vs.length):((Ax_ vs (s+p) us).drop s).take (p+us.length)=SW.sub vs s p++us:=by
 rw[Ca_ _ _ _ hl,SW.sub]
 apply List.ext_getElem?
 intro j;simp only[List.getElem?_take,List.getElem?_drop,List.getElem?_append,List.length_append,List.length_take,List.length_drop];have e1:min (s+p) vs.length=s+p:=by omega
 have e2:min p (vs.length-s)=p:=by omega
 rw[e1,e2];by_cases h1:j<p;simp only[h1,if_true];rw[if_pos xN,if_pos xN,if_pos xN,if_pos xN];by_cases h2:j<p+us.length
 . rw[if_pos h2,if_pos xN,if_neg xN,if_neg h1]
   congr 1;omega
 rw[if_neg h2,if_neg h1,List.getElem?_eq_none xN]
theorem e_ap {R:Type} {k:Ke R} {r:R} {a b:CV} {dd:Nat} {pos:String} {af:Array Edge} (e:apE P h nx T T2 a b k=some r):∃ c h' nx',k c h' nx'=some r/\∀ {β:Be} {L:Ls} {F:Fr},Nat.blt dd n=true->HR β h nx L->VR β a (ev F x)->VR β b (ev F y)->Es P n N F H L β h nx ⟨some dd, .call ⟨.builtin .append,#[x,y],#[T,T2]⟩,ty,pos,af,none⟩ c h' nx':=by
 unfold apE at e
 split at e
 . rename_i et m by_ hA
   have hA:=apT_ok hA
   obtain⟨d2,hT2,hd2⟩:=hA.hT2
   obtain⟨zs,hz,hzl,hzo⟩:=hA.hz
   split at e
   . rename_i l d hs
     have room:∀ {β:Be} {L:Ls} {F:Fr} {i o len cap:Nat} {hb:HB} {q:Pl} {T0:TypeId} {c c':CC} {gr:Bool} {h':He} {rc:CV},Nat.blt dd n=true->HR β h nx L->VR β b (ev F y)->h.get i=some hb->hbC hb=some (T0,c,gr)->β i=some q->c.put (o+len*m) d=some c'->len+l<=cap->h'.get i=some (c'.hb T0 gr)->(∀ j,j≠i->h'.get j=h.get j) ->
         ev F x = .slice (some ⟨q.b,q.s+o,none⟩) len cap->VR β rc (.slice (some ⟨q.b,q.s+o,none⟩) (len+l) cap)->Es P n N F H L β h nx ⟨some dd, .call ⟨.builtin .append,#[x,y],#[T,T2]⟩,ty,pos,af,none⟩ rc h' nx:=by
       intro β L F i o len cap hb q T0 c c' gr h' rc hd hr hy hi hc hq hp hle g1 g2 ex hrc ops K kk ac w ha hm
       obtain⟨us,hsrc,hus⟩:=H0_ hs hA.hB hr hy
       obtain⟨vs,f2,f3,f4,f5,f6,f7⟩:=hr.cc hi hc hq
       obtain⟨b1,b2⟩:=CC.put_br hq hp f3 f4 f5 f6 f7 hus
       rw[if_pos xR]
       unfold Oper.wp
       have hrun:∀ ats,_:=λats=>Gb_ (P:=P) (ats:=ats) (len:=len) (cap:=cap) hA.hT hT2 hd2 hA.hk hsrc hus.one hm f2 hle (o:=q.s+o) xN
       obtain⟨w',r1,r2⟩:=hrun 0
       have r1':∀ ats,(Builtin.append_ #[T,T2] ats #[.slice (some ⟨q.b,q.s+o,none⟩) len cap,ev F y]).run P w = .ok (.slice (some ⟨q.b,q.s+o,none⟩) (len+l) cap) w':=λats=>r1
       rw[ha.eval,Cw_ ex rfl r1']
       rw[Nat.add_assoc] at r2
       exact⟨_,H,_,ha.put xU _,r2,kk β _ _ hrc (.set hr hi g1 g2 b2)⟩
     have grow:∀ {β:Be} {L L1:Ls} {F:Fr} {len cap:Nat} {base:Option Addr} {old:List Value} {c':CC} {h' h1:He},Nat.blt dd n=true->HR β h nx L->Post β h nx L β h1 nx L1->(∀ w x,Mem N H (lupd L nx x) w->Mem N H (lupd L1 nx x) w)->VR β b (ev F y)->(∀ w,Mem N H L w->(Builtin.firstCells m len (.slice base len cap)).run P w = .ok old.toArray w)->old.length=len*m->(∀ us,d.R β us->c'.R β (old++us))->¬len+l<=cap->(len+l)*by_<=140737488355328->h'.get nx=some (c'.hb et true)->(∀ j,j≠nx->h'.get j=h1.get j) ->
         ev F x = .slice base len cap->∀ (ac:Act) (w:World),At n ac F->Mem N H L w->∃ nc b w' β' L',(execOp ac.eval ⟨some dd, .call ⟨.builtin .append,#[x,y],#[T,T2]⟩,ty,pos,af,none⟩).run P w = .ok (.value (.slice (some ⟨b,0,none⟩) (len+l) nc)) w'/\Mem N H L' w'/\VR β' (.slu nx 0 (len+l) m) (.slice (some ⟨b,0,none⟩) (len+l) nc)/\Post β h nx L β' h' (nx+1) L':=by
       intro β L L1 F len cap base old c' h' h1 hd hr hP hL1 hy hold holl hcc hle hbd g1 g2 ex ac w ha hm
       obtain⟨us,hsrc,hus⟩:=H0_ hs hA.hB hr hy
       obtain⟨w',nc,b,rest,r1,r2,r3,r4,r5⟩:=K4_ (P:=P) (ats:=0) (len:=len) (cap:=cap) (base:=base) nx hA.hT hT2 hd2 hA.hk hA.hb hA.h0 hz hzl hzo hsrc hm hle hbd hold holl
       have r1':∀ ats,(Builtin.append_ #[T,T2] ats #[.slice base len cap,ev F y]).run P w = .ok (.slice (some ⟨b,0,none⟩) (len+l) nc) w':=λats=>r1
       have a1:=hcc us hus
       have hla:=a1.length
       refine⟨nc,b,w',bset β nx ⟨b,0,nc*m⟩,lupd L1 nx (some (b,bx et (old++us++rest))),by rw[ha.eval,Cw_ ex rfl r1'],hL1 _ _ r5,?_,hP.trans (.new hP.hr g1 g2 ?_)⟩
       . simp only[VR]
         exact⟨_,nc,_,J_,by simp,r2,rfl,λ_=>rfl⟩
       . have hlen:(old++us).length<=nc*m:=by
           have :=r3;simp only[List.length_append] at this ⊢;omega
         refine CC.br (q:=⟨b,0,nc*m⟩) J_ (by simpa using r3) (by show c'.len<=nc*m;omega) (λg=>by cases g) ?_ (λv hv=>?_)
         . simp only[List.drop_zero]
           rw[<- hla,List.take_left]
           exact a1.mono (B0_ (hP.hr.fr nx (Nat.le_refl _)).1)
         . rcases List.mem_append.1 hv with q|q
           . exact a1.one v q
           . exact r4 v q
     have idn:∀ {L:Ls} (w:World) (x:Option (Nat×Obj)),Mem N H (lupd L nx x) w->Mem N H (lupd L nx x) w:=λ_ _ h=>h
     have hgr:∀ {len:Nat} {c:CC} {h1:He},grE h1 nx et m len by_ c k=some r->∃ h',k (.slu nx 0 len m) h' (nx+1)=some r/\len*by_<=140737488355328/\c.len=len*m/\h'.get nx=some (c.hb et true)/\∀ j,j≠nx->h'.get j=h1.get j:=by
       intro len c h1 e
       unfold grE at e
       cases hb:(Nat.ble (len*by_) 140737488355328&&Nat.beq c.len (len*m)) with
       |false=>rw[hb] at e;cases e
       |true=>
         rw[hb] at e
         simp only[Bool.and_eq_true] at hb
         simp only[cond_true] at e
         obtain⟨h',e1,e2,e3⟩:=Tr.setK_ok _ _ _ _ _ _ e
         exact⟨h',e1,Nat.le_of_ble_eq_true hb.1,Nat.eq_of_beq_eq_true hb.2,e2,e3⟩
     have wrap:∀ {β:Be} {L:Ls} {F:Fr} {c:CV} {h':He} {nx':Nat},Nat.blt dd n=true->(∀ (ac:Act) (w:World),At n ac F->Mem N H L w->∃ v w' β' L',(execOp ac.eval ⟨some dd, .call ⟨.builtin .append,#[x,y],#[T,T2]⟩,ty,pos,af,none⟩).run P w = .ok (.value v) w'/\Mem N H L' w'/\VR β' c v/\Post β h nx L β' h' nx' L')->Es P n N F H L β h nx ⟨some dd, .call ⟨.builtin .append,#[x,y],#[T,T2]⟩,ty,pos,af,none⟩ c h' nx':=by
       intro β L F c h' nx' hd hk ops K kk ac w ha hm
       obtain⟨v,w',β',L',a1,a2,a3,a4⟩:=hk ac w ha hm
       rw[if_pos xR]
       unfold Oper.wp
       rw[a1]
       exact⟨_,H,_,ha.put xU _,a2,kk β' v L' a3 a4⟩
     have none0:∀ {β:Be} {L:Ls} {F:Fr} {w:World} {base:Option Addr} {len cap:Nat} {b:CV} {d:CC},l=0->srcE h (isB P et) m b=some (l,d)->HR β h nx L->VR β b (ev F y)->Mem N H L w->len<=cap->∀ ats,(Builtin.append_ #[T,T2] ats #[.slice base len cap,ev F y]).run P w = .ok (.slice base len cap) w:=by
       intro β L F w base len cap b d hl0 hs hr hy hm hle ats
       obtain⟨us,hsrc,hus⟩:=H0_ hs hA.hB hr hy
       obtain⟨hlen,hcells⟩:=hsrc.2 w hm
       have hus0:us=[]:=List.length_eq_zero_iff.1 (by rw[hsrc.1,hl0];simp)
       subst hus0;subst hl0
       rw[Go_ (P:=P) (ats:=ats) (base:=base) hA.hT hT2 hd2 hA.hk hlen xN]
       cases base<;>simp[hcells,storeCells]
     split at e
     . -- nothing yet
       split at e
       refine⟨_,_,_,e,λ{β L F} hd hr hx hy=>wrap hd λac w ha hm=>?_⟩
       obtain⟨us,hsrc,hus⟩:=H0_ hs hA.hB hr hy
       simp only[VR] at hx
       obtain⟨hlen,hcells⟩:=hsrc.2 w hm
       have hus0:us=[]:=List.length_eq_zero_iff.1 (by rw[hsrc.1];simp)
       have r1:∀ ats,(Builtin.append_ #[T,T2] ats #[.slice none 0 0,ev F y]).run P w = .ok (.slice none 0 0) w:=λats=>by
         rw[Go_ (P:=P) (ats:=ats) (base:=none) hA.hT hT2 hd2 hA.hk hlen xN]
         simp[hcells]
       exact⟨_,w,β,L,by rw[ha.eval,Cw_ hx rfl r1],hm,by simp only[VR], .refl hr⟩
       . rename_i l0 hl0
         obtain⟨h',e1,e2,e3,e4,e5⟩:=hgr e
         refine⟨_,h',_,e1,λ{β L F} hd hr hx hy=>wrap hd λac w ha hm=>?_⟩
         simp only[VR] at hx
         obtain⟨nc,b,w',β',L',q⟩:=grow (L1:=L) (h1:=h) (old:=[]) (len:=0) (cap:=0) (base:=none) hd hr (.refl hr) (λ_ _ h=>h) hy (λw _=>by simp[Builtin.firstCells]) xP (λus h=>by simpa using h) (λhq=>hl0 xN) (by simpa using e2) (by simpa using e4) e5 hx ac w ha hm
         exact⟨_,w',β',L',by simpa using q⟩
     . -- a slice of known room
       rename_i i o len cap
       split at e
       . cases hlc:Nat.ble len cap with
         |false=>rw[hlc] at e;cases e
         |true=>
           rw[hlc] at e
           simp only[cond_true] at e
           refine⟨_,_,_,e,λ{β L F} hd hr hx hy=>wrap hd λac w ha hm=>?_⟩
           have hx':=hx
           simp only[VR] at hx;obtain⟨q,hq,ex⟩:=hx
           exact⟨_,w,β,L,by rw[ha.eval,Cw_ ex rfl (none0 rfl hs hr hy hm (Nat.le_of_ble_eq_true hlc))],hm,ex ▸ hx', .refl hr⟩
       . split at e
         . rename_i hb hi
           split at e
           . rename_i T0 c gr hc
             cases hroom:Nat.ble (len+l) cap with
             |true=>
               rw[hroom] at e
               simp only[cond_true] at e
               split at e
               . rename_i c' hp
                 obtain⟨h',e1,e2,e3⟩:=Tr.setK_ok _ _ _ _ _ _ e
                 refine⟨_,h',_,e1,λ{β L F} hd hr hx hy=>?_⟩
                 simp only[VR] at hx;obtain⟨q,hq,ex⟩:=hx
                 exact room hd hr hy hi hc hq hp (Nat.le_of_ble_eq_true hroom) e2 e3 ex (by simp only[VR];exact⟨q,hq,rfl⟩)
               . cases e
             |false=>
               rw[hroom] at e
               simp only[cond_false] at e
               split at e
               . rename_i c0 hs0
                 split at e
                 . rename_i c' happ
                   obtain⟨h',e1,e2,e3,e4,e5⟩:=hgr e
                   refine⟨_,h',_,e1,λ{β L F} hd hr hx hy=>wrap hd λac w ha hm=>?_⟩
                   simp only[VR] at hx;obtain⟨q,hq,ex⟩:=hx
                   obtain⟨vs,f2,f3,f4,f5,f6,f7⟩:=hr.cc hi hc hq
                   obtain⟨s1,s2,s3⟩:=CC.sub_ok hs0 f6
                   rw[Gc_ s3] at s1
                   obtain⟨nc,b,w',β',L',q⟩:=grow (L1:=L) (h1:=h) (old:=SW.sub vs (q.s+o) (len*m)) (len:=len) (cap:=cap) (base:=some ⟨q.b,q.s+o,none⟩) hd hr (.refl hr) (λ_ _ h=>h) hy (λw hm=>((L5_ (P:=P) (len:=len) (cap:=cap) f2 xN).2 w hm).2) (by rw[s1.length];exact s2) (λus h=>(CC.app_ok happ s1 h).1) (λhq=>by have :=Nat.ble_eq_true_of_le hq;rw[hroom] at this;cases this) e2 e4 e5 ex ac w ha hm
                   exact⟨_,w',β',L',q⟩
                 . cases e
               . cases e
           . cases e
         . cases e
     . -- one of unknown room
       rename_i i o len m'
       cases hmm:Nat.beq m' m with
       |false=>rw[hmm] at e;cases e
       |true=>
         rw[hmm] at e
         have :=Nat.eq_of_beq_eq_true hmm
         subst this
         simp only[cond_true] at e
         split at e
         . refine⟨_,_,_,e,λ{β L F} hd hr hx hy=>wrap hd λac w ha hm=>?_⟩
           have hx':=hx
           simp only[VR] at hx;obtain⟨q,cc,aa,hq,_,hle,ex,_⟩:=hx
           exact⟨_,w,β,L,by rw[ha.eval,Cw_ ex rfl (none0 rfl hs hr hy hm hle)],hm,ex ▸ hx', .refl hr⟩
         . rename_i hl0
           split at e
           . rename_i hb hi
             split at e
             . rename_i T0 c gr hc
               have hl1:0<l:=Nat.pos_of_ne_zero hl0
               cases hroom:Nat.ble (o+(len+l)*m') c.len with
               |true=>
                 rw[hroom] at e
                 have hrl:=Nat.le_of_ble_eq_true hroom
                 simp only[cond_true] at e
                 split at e
                 . rename_i c' hp
                   obtain⟨h',e1,e2,e3⟩:=Tr.setK_ok _ _ _ _ _ _ e
                   refine⟨_,h',_,e1,λ{β L F} hd hr hx hy=>?_⟩
                   simp only[VR] at hx;obtain⟨q,cc,aa,hq,hrm,hle,ex,ha⟩:=hx
                   obtain⟨vs,f2,f3,f4,f5,f6,f7⟩:=hr.cc hi hc hq
                   have hcap:len+l<=cc:=by
                     have :(len+l)*m'<=cc*m':=by omega
                     exact Nat.le_of_mul_le_mul_right this hA.hm
                   have haa:=ha xN;subst haa
                   exact room hd hr hy hi hc hq hp hcap e2 e3 ex (by simp only[VR];exact⟨q,cc,_,hq,hrm,hcap,rfl,λ_=>rfl⟩)
                 . cases e
               |false=>
                 rw[hroom] at e
                 simp only[cond_false] at e
                 cases hend:(Nat.beq (o+len*m') c.len&&Nat.beq T0 et) with
                 |false=>rw[hend] at e;cases e
                 |true=>
                   rw[hend] at e
                   simp only[Bool.and_eq_true] at hend
                   have hend1:=Nat.eq_of_beq_eq_true hend.1
                   have hT0:=Nat.eq_of_beq_eq_true hend.2
                   subst hT0
                   simp only[cond_true] at e
                   split at e
                   . rename_i c0 hs0
                     split at e
                     . rename_i c' happ
                       obtain⟨h1,e0,d1,d2⟩:=Tr.setK_ok _ _ _ _ _ _ e
                       obtain⟨h',e1,e2,e3,e4,e5⟩:=hgr e0
                       refine⟨_,h',_,e1,λ{β L F} hd hr hx hy=>wrap hd λac w ha hm=>?_⟩
                       simp only[VR] at hx;obtain⟨q,cc,aa,hq,hrm,hle,ex,haa⟩:=hx
                       obtain⟨vs,f2,f3,f4,f5,f6,f7⟩:=hr.cc hi hc hq
                       obtain⟨s1,s2,s3⟩:=CC.sub_ok hs0 f6
                       rw[Gc_ s3] at s1
                       have hinx:i<nx:=hr.lt i _ hi
                       have hLn:L nx=none:=(hr.fr nx (Nat.le_refl _)).2
                       by_cases hcap:len+l<=cc
                       . -- in place, under a new number
                         have haa:=haa xN;subst haa
                         obtain⟨us,hsrc,hus⟩:=H0_ hs hA.hB hr hy
                         have hfit:q.s+o+len*m'+us.length<=vs.length:=by
                           have h1:(len+l)*m'<=cc*m':=Nat.mul_le_mul_right _ hcap
                           rw[hsrc.1];rw[Nat.add_mul] at h1;omega
                         obtain⟨w',r1,r2⟩:=Gb_ (P:=P) (ats:=0) (len:=len) (cap:=cc) hA.hT hT2 hd2 hA.hk hsrc hus.one hm f2 hcap (o:=q.s+o) hfit
                         have r1':∀ ats,(Builtin.append_ #[T,T2] ats #[.slice (some ⟨q.b,q.s+o,none⟩) len cc,ev F y]).run P w = .ok (.slice (some ⟨q.b,q.s+o,none⟩) (len+l) cc) w':=λats=>r1
                         have a1:=(CC.app_ok happ s1 hus).1
                         refine⟨_,w',bset β nx ⟨q.b,q.s+o,q.r-o⟩,_,by rw[ha.eval,Cw_ ex rfl r1'],Mem.renum r2 hLn xN,?_, .take hr hi d1 d2 e4 e5 ?_⟩
                         . simp only[VR]
                           exact⟨_,cc,_,J_,by simp;omega,hcap,rfl,λ_=>by simp⟩
                         . have hla:=a1.length
                           have hsl:(SW.sub vs (q.s+o) (len*m')).length=len*m':=by rw[s1.length];exact s2
                           refine CC.br (q:=⟨q.b,q.s+o,q.r-o⟩) J_ (by rw[B6_];simp;omega) ?_ (λg=>by cases g) ?_ (Dd_ _ _ _ f7 hus.one)
                           . show c'.len<=q.r-o
                             rw[<- hla,List.length_append,hsl];omega
                           . rw[<- hla,List.length_append,hsl]
                             have :=Ty_ (vs:=vs) (us:=us) (s:=q.s+o) (p:=len*m') hfit
                             rw[this]
                             exact a1.mono (B0_ (hr.fr nx (Nat.le_refl _)).1)
                       . have hmem:∀ (w:World) (x:Option (Nat×Obj)),Mem N H (lupd L nx x) w->Mem N H (lupd (lupd L i none) nx x) w:=λw x hm=>by
                           have hx:∀ j y,lupd (lupd L i none) nx x j=some y->lupd L nx x j=some y:=λj y e=>by
                             by_cases e':j=nx
                             . subst e';rw[F_] at e ⊢;exact e
                             . rw[E_ _ _ _ _ e'] at e ⊢;exact (Kr_ e).2
                           exact hm.sub (λj y e=>⟨j,hx j y e⟩) λj j' y y' e e' hb=>by
                             obtain⟨yb,yo⟩:=y;obtain⟨yb',yo'⟩:=y'
                             cases (show yb=yb' from hb)
                             exact hm.ll j j' yb yo yo' (hx _ _ e) (hx _ _ e')
                         have hold:∀ w,Mem N H L w->(Builtin.firstCells m' len (.slice (some aa) len cc)).run P w = .ok (SW.sub vs (q.s+o) (len*m')).toArray w:=λw hm=>by
                           cases len with
                           |zero=>simp[SW.sub,Builtin.firstCells,loadCells,loadCellsFrom]
                           |succ len=>
                             have :=haa xN;subst this
                             exact ((L5_ (P:=P) (len:=len+1) (cap:=cc) f2 xN).2 w hm).2
                         obtain⟨nc,b,w',β',L',q⟩:=grow (L1:=lupd L i none) (h1:=h1) (old:=SW.sub vs (q.s+o) (len*m')) (len:=len) (cap:=cc) (base:=some aa) hd hr (Post.set hr hi d1 d2 (show BR β i .dead none from rfl)) hmem hy hold (by rw[s1.length];exact s2) (λus h=>(CC.app_ok happ s1 h).1) hcap e2 e4 e5 ex ac w ha hm
                         exact⟨_,w',β',L',q⟩
                     . cases e
                   . cases e
             . cases e
           . cases e
     . cases e
   . cases e
 . cases e
end
end Go.CE
namespace Go.CE
open Go.SW
noncomputable section
variable {P:Program} {n:Nat} {N:SW.Rest} {F:Fr} {H:Hp} {L:Ls} {ty T T' T2:TypeId} {x y z:Operand} {β:Be} {f:Fe} {h:He} {nx:Nat}
def lnE (a:CV):Option Nat:=match a with
 | .str n _=>some n
 | .nils=>some 0
 | .sl _ _ n _=>some n
 | .slu _ _ n _=>some n
 |_=>none
theorem Ul_ {a:CV} {m:Nat} {v:Value} (e:lnE a=some m) (hv:VR β a v) (w:World):(Builtin.lenOf v).run P w = .ok m w:=by
 unfold lnE at e
 split at e
 simp only[Option.some.injEq] at e;subst e;simp only[VR] at hv;rw[hv.2];simp[Builtin.lenOf,SW.str,C2_,D_];simp only[Option.some.injEq] at e;subst e;simp only[VR] at hv;subst hv;simp[Builtin.lenOf];simp only[Option.some.injEq] at e;subst e;simp only[VR] at hv;obtain⟨q,_,rfl⟩:=hv;simp[Builtin.lenOf];simp only[Option.some.injEq] at e;subst e;simp only[VR] at hv;obtain⟨q,c,a,_,_,_,rfl,_⟩:=hv;simp[Builtin.lenOf]
 . cases e
def fcE (h:He) (isb:Bool) (k m:Nat) (a:CV):Option CC:=match m with
 |0=>some (CC.nil isb)
 |_=>match a with
   | .str n x=>bif isb&&Nat.ble m n then some (.b m (x%256 ^ m)) else none
   | .sl i o len _=>bif Nat.ble m len then (match h.get i with
     |some hb=>match hbC hb with
       |some (_,c,_)=>c.sub o (m*k)
       |none=>none
     |none=>none) else none
   | .slu i o len _=>bif Nat.ble m len then (match h.get i with
     |some hb=>match hbC hb with
       |some (_,c,_)=>c.sub o (m*k)
       |none=>none
     |none=>none) else none
   |_=>none
theorem Ro_ {b o i len cap m k T0:Nat} {vs:List Value} {w:World} (hm:Mem N H L w) (hi:L i=some (b,bx T0 vs)) (hl:o+m*k<=vs.length):(Builtin.firstCells k m (.slice (some ⟨b,o,none⟩) len cap)).run P w = .ok (SW.sub vs o (m*k)).toArray w:=by
 have hlen:(SW.sub vs o (m*k)).length=m*k:=by simp[SW.sub];omega
 have :=run_loadCells_list (P:=P) w ⟨b,o,none⟩ (SW.sub vs o (m*k)) (λj v hj=>by
   rw[K_]
   refine hm.cellL hi ?_
   simp only[SW.sub,List.getElem?_take,List.getElem?_drop] at hj
   split at hj
   . exact hj
   . cases hj)
 rw[hlen] at this;exact xD
theorem Ue_ {isb:Bool} {k m:Nat} {a:CV} {d:CC} {v:Value} (e:fcE h isb k m a=some d) (hk:isb=true->k=1) (hr:HR β h nx L) (hv:VR β a v) (hsl:∃ l,lnE a=some l):∃ us,us.length=m*k/\d.R β us/\∀ w,Mem N H L w->(Builtin.firstCells k m v).run P w = .ok us.toArray w:=by
 cases m with
 |zero=>
   simp only[fcE,Option.some.injEq] at e;subst e
   refine⟨[],by simp,CC.nil_ok.1,λw _=>?_⟩
   obtain⟨l,hl⟩:=hsl
   unfold lnE at hl
   split at hl
   . simp only[VR] at hv;rw[hv.2];simp[Builtin.firstCells,SW.str,En_]
   . simp only[VR] at hv;subst hv;simp[Builtin.firstCells]
   . simp only[VR] at hv;obtain⟨q,_,rfl⟩:=hv;simp[Builtin.firstCells,loadCells,loadCellsFrom]
   . simp only[VR] at hv;obtain⟨q,c,a,_,_,_,rfl,_⟩:=hv;simp[Builtin.firstCells,loadCells,loadCellsFrom]
   . cases hl
 |succ m=>
   have blk:∀ {i o len cap:Nat} {q:Pl} {hb:HB} {T0:TypeId} {c:CC} {gr:Bool},β i=some q->h.get i=some hb->hbC hb=some (T0,c,gr)->c.sub o ((m+1)*k)=some d->∃ us,us.length=(m+1)*k/\d.R β us/\∀ w,Mem N H L w->(Builtin.firstCells k (m+1) (.slice (some ⟨q.b,q.s+o,none⟩) len cap)).run P w = .ok us.toArray w:=by
     intro i o len cap q hb T0 c gr hq hi hc hs
     obtain⟨vs,f2,f3,f4,f5,f6,f7⟩:=hr.cc hi hc hq
     obtain⟨s1,s2,s3⟩:=CC.sub_ok hs f6
     rw[Gc_ s3] at s1
     exact⟨_,by rw[s1.length,s2],s1,λw hm=>Ro_ hm f2 xN⟩
   simp only[fcE] at e
   split at e
   . rename_i l x
     cases hb:(isb&&Nat.ble (m+1) l) with
     |false=>rw[hb] at e;cases e
     |true=>
       rw[hb] at e
       simp only[Bool.and_eq_true] at hb
       have :=hk hb.1;subst this
       have hle:=Nat.le_of_ble_eq_true hb.2
       simp only[cond_true,Option.some.injEq] at e;subst e
       simp only[VR] at hv
       refine⟨(dec (m+1) (x%256 ^ (m+1))).map u8v,by simp[D_],⟨Nat.mod_lt _ (Nat.pow_pos xN),rfl⟩,λw _=>?_⟩
       rw[hv.2,<- Cu_ (m+1) l x hle]
       simp only[Builtin.firstCells,SW.str,En_]
       simp
       rfl
   . rename_i i o len cap
     cases hb:Nat.ble (m+1) len with
     |false=>rw[hb] at e;cases e
     |true=>
       rw[hb] at e
       simp only[cond_true] at e
       simp only[VR] at hv;obtain⟨q,hq,rfl⟩:=hv
       split at e
       . rename_i hb hi
         split at e
         . rename_i T0 c gr hc;exact blk hq hi hc e
         . cases e
       . cases e
   . rename_i i o len k'
     cases hb:Nat.ble (m+1) len with
     |false=>rw[hb] at e;cases e
     |true=>
       rw[hb] at e
       have hle:=Nat.le_of_ble_eq_true hb
       simp only[cond_true] at e
       simp only[VR] at hv;obtain⟨q,cc,aa,hq,_,hle2,rfl,ha⟩:=hv
       have :=ha xN;subst this
       split at e
       . rename_i hb hi
         split at e
         . rename_i T0 c gr hc;exact blk hq hi hc e
         . cases e
       . cases e
   . cases e
def cpE {R:Type} (P:Program) (h:He) (nx:Nat) (T:TypeId) (a b:CV) (k:Ke R):Option R:=match P.underlying T with
 |some (.slice e)=>match szE P e with
   |some m=>match lnE a with
     |some la=>match lnE b with
       | some lb=>bif (!isB P e)||Nat.beq m 1 then (match fcE h (isB P e) m (Nat.min lb la) b with
         |some d=>match Nat.min lb la with
           |0=>bif (match a with| .str _ _=>true|_=>false) then none else k (.int .i64 ((0:Nat):Int)) h nx
           |l+1=>match (match a with| .sl i o _ _=>some (i,o)| .slu i o _ _=>some (i,o)|_=>none) with
             |some (i,o)=>match h.get i with
               |some hb=>match hbC hb with
                 |some (T0,c,gr)=>match c.put o d with
                   |some c'=>Tr.setK 40 h i (c'.hb T0 gr) λh=>k (.int .i64 ((l+1:Nat):Int)) h nx
                   |none=>none
                 |none=>none
               |none=>none
             |none=>none
         |none=>none) else none
       |none=>none
     |none=>none
   |none=>none
 |_=>none
theorem Np_ {base:Option Addr} {len cap m lb l:Nat} {e:TypeId} {ats:TypeId} {sv:Value} {us:List Value} {w w':World} (hT:P.underlying T=some (.slice e)) (hk:Sz P e m) (hlb:(Builtin.lenOf sv).run P w = .ok lb w) (hl:Nat.min lb len=l) (hf:(Builtin.firstCells m l sv).run P w = .ok us.toArray w) (hs:(match base with|some a=>storeCells a us|none=>pure ():Sem Unit).run P w = .ok () w'):(Builtin.copy_ #[T,T2] ats #[.slice base len cap,sv]).run P w = .ok (goInt l) w':=by
 cases base with
 |none=>simp at hs;subst hs;simp[Builtin.copy_,run_underlying hT,hlb,hk w,hl,hf]
 |some a=>simp only at hs;simp[Builtin.copy_,run_underlying hT,hlb,hk w,hl,hf,hs]
theorem Ke_ {v sv r:Value} {w w':World} {d:Option Tmp} {pos:String} {af:Array Edge} {g:Option (Nat×Bool)} (hx:ev F x=v) (hy:ev F y=sv) (h:∀ ats,(Builtin.copy_ #[T,T2] ats #[v,sv]).run P w = .ok r w'):(execOp (ev F) ⟨d, .call ⟨.builtin .copy,#[x,y],#[T,T2]⟩,ty,pos,af,g⟩).run P w = .ok (.value r) w':=
 I_ (args:=#[v,sv]) wH λcs=>by simp[builtin,h]
theorem e_cp {R:Type} {k:Ke R} {r:R} {a b:CV} {dst:Option Tmp} {pos:String} {af:Array Edge} (e:cpE P h nx T a b k=some r):∃ c h' nx',k c h' nx'=some r/\∀ {β:Be} {L:Ls} {F:Fr},dstB n ⟨dst, .call ⟨.builtin .copy,#[x,y],#[T,T2]⟩,ty,pos,af,none⟩=true->HR β h nx L->VR β a (ev F x)->VR β b (ev F y)->Es P n N F H L β h nx ⟨dst, .call ⟨.builtin .copy,#[x,y],#[T,T2]⟩,ty,pos,af,none⟩ c h' nx':=by
 unfold cpE at e
 split at e
 . rename_i et hT
   split at e
   . rename_i m hm
     split at e
     . rename_i la hla
       split at e
       . rename_i lb hlb
         cases hB:((!isB P et)||Nat.beq m 1) with
         |false=>rw[hB] at e;cases e
         |true=>
           rw[hB] at e
           have hB1:isB P et=true->m=1:=λq=>by rw[q] at hB;simpa using hB
           simp only[cond_true] at e
           split at e
           . rename_i d hd
             have wrap:∀ {β:Be} {L:Ls} {F:Fr} {c:CV} {h':He} {nx':Nat},dstB n ⟨dst, .call ⟨.builtin .copy,#[x,y],#[T,T2]⟩,ty,pos,af,none⟩=true->(∀ (ac:Act) (w:World),At n ac F->Mem N H L w->∃ v w' β' L',(execOp ac.eval ⟨dst, .call ⟨.builtin .copy,#[x,y],#[T,T2]⟩,ty,pos,af,none⟩).run P w = .ok (.value v) w'/\Mem N H L' w'/\VR β' c v/\Post β h nx L β' h' nx' L')->Es P n N F H L β h nx ⟨dst, .call ⟨.builtin .copy,#[x,y],#[T,T2]⟩,ty,pos,af,none⟩ c h' nx':=by
               intro β L F c h' nx' hdst hk ops K kk ac w ha hw
               obtain⟨v,w',β',L',a1,a2,a3,a4⟩:=hk ac w ha hw
               rw[if_pos xR]
               unfold Oper.wp
               rw[a1]
               exact⟨_,H,_,ha.putO hdst v,a2,kk β' v L' a3 a4⟩
             cases hl:Nat.min lb la with
             |zero=>
               rw[hl] at e hd
               simp only at e
               cases hs:(match a with| .str _ _=>true|_=>false) with
               |true=>rw[hs] at e;cases e
               |false=>
                 rw[hs] at e
                 simp only[cond_false] at e
                 refine⟨_,_,_,e,λ{β L F} hdst hr hx hy=>wrap hdst λac w ha hw=>?_⟩
                 obtain⟨us,u1,u2,u3⟩:=Ue_ hd hB1 hr hy ⟨_,hlb⟩
                 have hus0:us=[]:=List.length_eq_zero_iff.1 (by rw[u1];simp)
                 subst hus0
                 obtain⟨base,cap,ex⟩:∃ base cap,ev F x = .slice base la cap:=by
                   unfold lnE at hla
                   split at hla
                   . cases hs
                   . simp only[Option.some.injEq] at hla;subst hla;simp only[VR] at hx;exact⟨_,_,hx⟩
                   . simp only[Option.some.injEq] at hla;subst hla;simp only[VR] at hx;obtain⟨q,_,ex⟩:=hx;exact⟨_,_,ex⟩
                   . simp only[Option.some.injEq] at hla;subst hla;simp only[VR] at hx;obtain⟨q,c,a,_,_,_,ex,_⟩:=hx;exact⟨_,_,ex⟩
                   . cases hla
                 have r1:∀ ats,(Builtin.copy_ #[T,T2] ats #[.slice base la cap,ev F y]).run P w = .ok (goInt 0) w:=λats=>
                   Np_ (P:=P) (ats:=ats) hT (A0_ hm) (Ul_ hlb hy w) hl (u3 w hw) (by cases base<;>simp[storeCells])
                 exact⟨_,w,β,L,by rw[ha.eval,Ke_ ex rfl r1],hw,by simp only[VR];rfl, .refl hr⟩
             |succ l=>
               rw[hl] at e hd
               simp only at e
               split at e
               . rename_i i o hio
                 split at e
                 . rename_i hb hi
                   split at e
                   . rename_i T0 c gr hc
                     split at e
                     . rename_i c' hp
                       obtain⟨h',e1,e2,e3⟩:=Tr.setK_ok _ _ _ _ _ _ e
                       refine⟨_,h',_,e1,λ{β L F} hdst hr hx hy=>wrap hdst λac w ha hw=>?_⟩
                       obtain⟨us,u1,u2,u3⟩:=Ue_ hd hB1 hr hy ⟨_,hlb⟩
                       obtain⟨q,cap,hq,ex⟩:∃ q cap,β i=some q/\ev F x = .slice (some ⟨q.b,q.s+o,none⟩) la cap:=by
                         have hmn:=Nat.min_le_right lb la
                         have hl':min lb la=l+1:=hl
                         cases a<;>simp only[Option.some.injEq,Prod.mk.injEq,reduceCtorEq] at hio
                         . obtain⟨rfl,rfl⟩:=hio
                           simp only[lnE,Option.some.injEq] at hla;subst hla
                           simp only[VR] at hx;obtain⟨q,h1,h2⟩:=hx;exact⟨q,_,h1,h2⟩
                         . obtain⟨rfl,rfl⟩:=hio
                           simp only[lnE,Option.some.injEq] at hla;subst hla
                           simp only[VR] at hx;obtain⟨q,cc,aa,h1,_,hle,h2,h3⟩:=hx
                           have :=h3 xN;subst this
                           exact⟨q,_,h1,h2⟩
                       obtain⟨vs,f2,f3,f4,f5,f6,f7⟩:=hr.cc hi hc hq
                       obtain⟨b1,b2⟩:=CC.put_br (T:=T0) hq hp f3 f4 f5 f6 f7 u2
                       obtain⟨w',L',s1,s2,s3,s4⟩:=Mem.storeA (P:=P) q.b i (q.s+o) us vs 0 L w hw f2 xN u2.one
                       have hLL:L'=lupd L i (some (q.b,bx T0 (Ax_ vs (q.s+o) us))):=funext λj=>by
                         by_cases e':j=i
                         . subst e';rw[F_,s4];rfl
                         . rw[E_ _ _ _ _ e',s3 j e']
                       subst hLL
                       have r1:∀ ats,(Builtin.copy_ #[T,T2] ats #[.slice (some ⟨q.b,q.s+o,none⟩) la cap,ev F y]).run P w = .ok (goInt (l+1)) w':=λats=>
                         Np_ (P:=P) (ats:=ats) hT (A0_ hm) (Ul_ hlb hy w) hl (u3 w hw) s1
                       exact⟨_,w',β,_,by rw[ha.eval,Ke_ ex rfl r1],s2,by simp only[VR];rfl, .set hr hi e2 e3 b2⟩
                     . cases e
                   . cases e
                 . cases e
               . cases e
           . cases e
       . cases e
     . cases e
   . cases e
 . cases e
def rgE {R:Type} (P:Program) (h:He) (nx:Nat) (T:TypeId) (a:CV) (k:Ke R):Option R:=match a with
 | .str m s=>match P.underlying T with
   |some .string=>Tr.setK 40 h nx (.itr m s 0) λh=>k (.ptr nx 0) h (nx+1)
   |_=>none
 |_=>none
theorem e_rg {R:Type} {k:Ke R} {r:R} {a:CV} {d:Nat} {pos:String} {af:Array Edge} (e:rgE P h nx T a k=some r):∃ c h' nx',k c h' nx'=some r/\∀ {β:Be} {L:Ls} {F:Fr},Nat.blt d n=true->HR β h nx L->VR β a (ev F x)->Es P n N F H L β h nx ⟨some d, .range T x,ty,pos,af,none⟩ c h' nx':=by
 unfold rgE at e
 split at e
 . rename_i m s
   split at e
   . rename_i hT
     obtain⟨h',e1,e2,e3⟩:=Tr.setK_ok _ _ _ _ _ _ e
     refine⟨_,h',_,e1,λ{β L F} hd hr hx ops K kk=>?_⟩
     simp only[VR] at hx
     refine Q0_ nx hd hx.2 hT λb=>kk (bset β nx ⟨b,0,0⟩) _ _ ?_ (.new hr e2 e3 ⟨_,J_,rfl,hx.1,rfl⟩)
     exact yY
   . cases e
 . cases e
def nxE {R:Type} (h:He) (nx:Nat) (a:CV) (k:Ke R):Option R:=match a with
 | .ptr i 0=>match h.get i with
   |some (.itr m s p)=>bif Nat.blt p m then (bif Nat.blt (s/256 ^ p%256) 128 then Tr.setK 40 h i (.itr m s (p+1)) λh=>k (.tup [.bool true, .int .i64 (p:Int), .int .i32 ((s/256 ^ p%256:Nat):Int)]) h nx else none) else k (.tup [.bool false]) h nx
   |_=>none
 |_=>none
theorem e_nx {R:Type} {k:Ke R} {r:R} {a:CV} {d:Nat} {pos:String} {af:Array Edge} (e:nxE h nx a k=some r):∃ c h' nx',k c h' nx'=some r/\∀ {β:Be} {L:Ls} {F:Fr},Nat.blt d n=true->HR β h nx L->VR β a (ev F x)->Es P n N F H L β h nx ⟨some d, .next x true,ty,pos,af,none⟩ c h' nx':=by
 unfold nxE at e
 split at e
 . rename_i i
   split at e
   . rename_i m s p hi
     cases hb:Nat.blt p m with
     |false=>
       rw[hb] at e
       simp only[cond_false] at e
       refine⟨_,_,_,e,λ{β L F} hd hr hx ops K kk=>?_⟩
       simp only[VR] at hx;obtain⟨q,hq,ex⟩:=hx
       obtain⟨q',h1,h0,h2,h3⟩:=hr.br i _ hi
       rw[hq] at h1;cases h1
       rw[h0] at ex
       have hge:m<=p:=by
         rcases Nat.lt_or_ge p m with q|q
         . have :Nat.blt p m=true:=Nat.ble_eq_true_of_le q
           rw[hb] at this;cases this
         . exact q
       exact Kv_ i hd ex h3 (by rw[D_];exact hge) (kk β _ _ (by simp only[VR];exact⟨[.bool false],rfl, .cons Y .nil⟩) (.refl hr))
     |true=>
       rw[hb] at e
       simp only[cond_true] at e
       have hlt:=Ce_ hb
       cases hb2:Nat.blt (s/256 ^ p%256) 128 with
       |false=>rw[hb2] at e;cases e
       |true=>
         rw[hb2] at e
         simp only[cond_true] at e
         obtain⟨h',e1,e2,e3⟩:=Tr.setK_ok _ _ _ _ _ _ e
         refine⟨_,h',_,e1,λ{β L F} hd hr hx ops K kk=>?_⟩
         simp only[VR] at hx;obtain⟨q,hq,ex⟩:=hx
         obtain⟨q',h1,h0,h2,h3⟩:=hr.br i _ hi
         rw[hq] at h1;cases h1
         rw[h0] at ex
         have hget:((dec m s).getD p 0).toNat=s/256 ^ p%256:=by
           rw[List.getD_eq_getElem?_getD,G5_ m s p hlt];simp
         refine Jn_ i hd ex h3 (by rw[D_];exact hlt) (by rw[hget];exact Ce_ hb2) (kk β _ _ ?_ (.set hr hi e2 e3 ⟨q,hq,h0,h2,rfl⟩))
         simp only[VR]
         exact⟨[.bool true, .int .i64 p, .int .i32 (((dec m s).getD p 0).toNat:Int)],rfl, .cons Y (.cons Y (.cons (by rw[hget];rfl) .nil))⟩
   . cases e
 . cases e
end
end Go.CE
namespace Go.CE
open Go.SW
noncomputable section
variable {P:Program} {n:Nat} {N:SW.Rest} {F:Fr} {H:Hp} {L:Ls} {ty T T' T2:TypeId} {x y z:Operand} {β:Be} {f:Fe} {h:He} {nx:Nat}
inductive XK where
 |noesc
 |count
 |ixb
 |mknz (e:TypeId)
abbrev Xt:=List (FuncId×XK)
def xkE:Xt->FuncId->Option XK
 |[],_=>none
 |(a,k)::r,g=>bif Nat.beq a g then some k else xkE r g
def XSp (P:Program) (g:FuncId):XK->Prop
 | .noesc=>∀ v w,(callFunc g #[v]).run P w = .ok (.value v) w
 | .count=>∀ (s:Bs) (c:Int) w,(callFunc g #[SW.str s, .int .u8 c]).run P w = .ok (.value (.int .i64 (Lib.countByte s c.toNat.toUInt8))) w
 | .ixb=>∀ (s:Bs) (c:Int) w,(callFunc g #[SW.str s, .int .u8 c]).run P w = .ok (.value (.int .i64 (Lib.indexByte s c.toNat.toUInt8))) w
 | .mknz e=>∀ (m:Nat) w,m<=281474976710656->∃ cs:List Value,m<=cs.length/\(∀ v∈cs,v.oneCell'=true)/\(callFunc g #[.int .i64 (m:Int)]).run P w = .ok (.value (.slice (some ⟨w.heap.size,0,none⟩) m cs.length)) {w with drawn:=w.drawn+2,heap:=w.heap.push (bx e cs)}
def XOk (P:Program) (X:Xt):Prop:=∀ g k,xkE X g=some k->XSp P g k
def cntN:Nat->Nat->Nat->Nat
 |0,_,_=>0
 |n+1,x,c=>(bif Nat.beq (x%256) c then 1 else 0)+cntN n (x/256) c
def ixN:Nat->Nat->Nat->Nat->Option Nat
 |0,_,_,_=>none
 |n+1,x,c,i=>bif Nat.beq (x%256) c then some i else ixN n (x/256) c (i+1)
theorem u8_eq {a c:Nat} (hc:c<256):(UInt8.ofNat (a%256)==UInt8.ofNat c)=Nat.beq (a%256) c:=by
 rw[Bool.eq_iff_iff,beq_iff_eq];constructor;intro e;have :=congrArg UInt8.toNat e;simp at this;have e2:c%256=c:=Nat.mod_eq_of_lt hc;rw[show a%256=c by omega];exact Nat.beq_refl _;intro e;rw[Nat.eq_of_beq_eq_true e]
theorem O3_ {c:Nat} (hc:c<256):∀ (m x:Nat),Lib.countByte (dec m x) (UInt8.ofNat c)=cntN m x c
 |0,_=>by simp[Lib.countByte,dec,cntN]
 |m+1,x=>by
   have ih:=O3_ hc m (x/256)
   unfold Lib.countByte at ih ⊢
   simp only[dec,cntN,List.count_cons,ih,u8_eq hc]
   cases Nat.beq (x%256) c<;>simp<;>omega
theorem Uk_ {c:Nat} (hc:c<256):∀ (m x i:Nat),(match ixN m x c i with|some j=>(j:Int)|none=>-1)=(if Lib.indexByte (dec m x) (UInt8.ofNat c) = -1 then -1 else Lib.indexByte (dec m x) (UInt8.ofNat c)+i)
 |0,_,_=>by simp[Lib.indexByte,dec,ixN]
 |m+1,x,i=>by
   have ih:=Uk_ hc m (x/256) (i+1)
   have hge:=Lib.indexByte_ge (dec m (x/256)) (UInt8.ofNat c)
   simp only[dec,ixN,Lib.indexByte,u8_eq hc]
   cases hb:Nat.beq (x%256) c with
   |true=>simp
   |false=>
     simp only[cond_false,Bool.false_eq_true,if_false]
     rw[ih]
     by_cases h1:Lib.indexByte (dec m (x/256)) (UInt8.ofNat c) = -1
     . simp[h1]
     . have h2:¬(Lib.indexByte (dec m (x/256)) (UInt8.ofNat c)+1 = -1):=by omega
       simp only[beq_iff_eq,h1,if_false,h2]
       omega
def xtE {R:Type} (h:He) (nx:Nat) (xk:XK) (args:List CV) (k:Ke R):Option R:=match xk with
 | .noesc=>match args with
   |[a]=>k a h nx
   |_=>none
 | .count=>match args with
   |[.str m s, .int .u8 (.ofNat c)]=>bif Nat.blt c 256 then k (.int .i64 (cntN m s c:Nat)) h nx else none
   |_=>none
 | .ixb=>match args with
   |[.str m s, .int .u8 (.ofNat c)]=>bif Nat.blt c 256 then k (.int .i64 (match ixN m s c 0 with|some j=>(j:Int)|none=>-1)) h nx else none
   |_=>none
 | .mknz e=>match args with
   |[.int .i64 (.ofNat m)]=>bif Nat.ble m 281474976710656 then Tr.setK 40 h nx (.bys e 0 0 true) λh=>k (.slu nx 0 m 1) h (nx+1) else none
   |_=>none
theorem e_xt {R:Type} {k:Ke R} {r:R} {xk:XK} {g:FuncId} {args:List CV} (hX:XSp P g xk) (e:xtE h nx xk args k=some r):∃ c h' nx',k c h' nx'=some r/\∀ {β:Be} {L:Ls} {vs:List Value} {w:World},HR β h nx L->VRs β args vs->Mem N H L w->∃ v w' β' L',(callFunc g vs.toArray).run P w = .ok (.value v) w'/\Mem N H L' w'/\VR β' c v/\Post β h nx L β' h' nx' L':=by
 unfold xtE at e
 split at e
 . split at e
   refine⟨_,_,_,e,λ{β L vs w} hr hv hm=>?_⟩
   obtain⟨v,us,rfl,h1,h2⟩:=hv.cons_inv
   rw[h2.nil_inv]
   exact⟨v,w,β,L,hX v w,hm,h1, .refl hr⟩
   . cases e
 . split at e
   . rename_i m s c
     cases hb:Nat.blt c 256 with
     |false=>rw[hb] at e;cases e
     |true=>
       rw[hb] at e
       have hc:=Ce_ hb
       simp only[cond_true] at e
       refine⟨_,_,_,e,λ{β L vs w} hr hv hm=>?_⟩
       obtain⟨v,us,rfl,h1,h2⟩:=hv.cons_inv
       obtain⟨v2,us2,rfl,h3,h4⟩:=h2.cons_inv
       rw[h4.nil_inv]
       simp only[VR] at h1 h3
       obtain⟨_,rfl⟩:=h1;subst h3
       refine⟨_,w,β,L,hX _ _ w,hm,?_, .refl hr⟩
       simp only[VR]
       have :=O3_ hc m s
       show Value.int .i64 (Lib.countByte (dec m s) (UInt8.ofNat c):Nat)=_
       rw[this]
   . cases e
 . split at e
   . rename_i m s c
     cases hb:Nat.blt c 256 with
     |false=>rw[hb] at e;cases e
     |true=>
       rw[hb] at e
       have hc:=Ce_ hb
       simp only[cond_true] at e
       refine⟨_,_,_,e,λ{β L vs w} hr hv hm=>?_⟩
       obtain⟨v,us,rfl,h1,h2⟩:=hv.cons_inv
       obtain⟨v2,us2,rfl,h3,h4⟩:=h2.cons_inv
       rw[h4.nil_inv]
       simp only[VR] at h1 h3
       obtain⟨_,rfl⟩:=h1;subst h3
       refine⟨_,w,β,L,hX _ _ w,hm,?_, .refl hr⟩
       simp only[VR]
       have :=Uk_ hc m s 0
       show Value.int .i64 (Lib.indexByte (dec m s) (UInt8.ofNat c))=_
       rw[this]
       congr 1
       split<;>omega
   . cases e
 . rename_i e0
   split at e
   . rename_i m
     cases hb:Nat.ble m 281474976710656 with
     |false=>rw[hb] at e;cases e
     |true=>
       rw[hb] at e
       simp only[cond_true] at e
       obtain⟨h',e1,e2,e3⟩:=Tr.setK_ok _ _ _ _ _ _ e
       refine⟨_,h',_,e1,λ{β L vs w} hr hv hm=>?_⟩
       obtain⟨v,us,rfl,h1,h2⟩:=hv.cons_inv
       rw[h2.nil_inv]
       simp only[VR] at h1;subst h1
       obtain⟨cs,c1,c2,c3⟩:=hX m w (Nat.le_of_ble_eq_true hb)
       refine⟨_,_,bset β nx ⟨w.heap.size,0,cs.length⟩,lupd L nx (some (w.heap.size,bx e0 cs)),c3,(hm.drew (w.drawn+2)).push nx _,?_, .new hr e2 e3 ⟨_,cs,J_,rfl,by simp,by simp,λg=>(by cases g),by simp,by simp[dec],c2⟩⟩
       simp only[VR]
       exact⟨_,cs.length,_,J_,by simp,c1,rfl,λ_=>rfl⟩
   . cases e
end
end Go.CE
namespace Go.CE
open Go.SW
noncomputable section
variable {P:Program} {n:Nat} {N:SW.Rest} {F:Fr} {H:Hp} {L:Ls} {ty T T' T2:TypeId} {x y z:Operand} {β:Be} {f:Fe} {h:He} {nx:Nat}
def upE (P:Program) (h:He) (T T':TypeId) (a:CV):Option CV:=match a with
 | .ptr i 0=>match h.get i with
   |some (.cells e cs false)=>match P.underlying T with
     |some (.pointer t)=>match P.underlying T' with
       |some .unsafePointer=>match szE P t with
         |some (_+1)=>match cs with
           |_::_=>some (.ptr i 0)
           |[]=>none
         |_=>none
       |_=>none
     |some .unsafePointer=>match P.underlying T' with
       |some (.pointer u)=>match P.info? u with
         |some _=>bif liesAt P P.depth e (cs.length/P.cellsOf e) 0 u 1 then some (.ptr i 0) else none
         |none=>none
       |_=>none
     |_=>none
   |_=>none
 |_=>none
theorem y_up {a c:CV} (hr:HR β h nx L) (hx:VR β a (ev F x)) (e:upE P h T T' a=some c):Yl P N F H L β (.convert T T' x) ty c:=by
 unfold upE at e
 split at e
 . rename_i i
   split at e
   . rename_i e0 cs hi
     have hx':=hx
     simp only[VR] at hx;obtain⟨q,hq,ex⟩:=hx
     obtain⟨q',vs,f1,f2,f3,f4,f5,f6,f7⟩:=hr.br i _ hi
     rw[hq] at f1;cases f1
     obtain⟨g1,g2⟩:=f5 Y
     rw[g1] at ex
     split at e
     . rename_i t hT
       split at e
       . rename_i hT'
         split at e
         . rename_i k hk
           split at e
           simp only[Option.some.injEq] at e;subst e
           obtain⟨j,hj⟩:∃ j,P.info? t=some j:=by
             unfold szE at hk;split at hk
             . rename_i j hj;exact⟨j,hj⟩
             . cases hk
           have hs:j.size≠0:=by unfold szE at hk;rw[hj] at hk;simp at hk;omega
           refine⟨_,hx',?_⟩
           rw[ex]
           exact Hk_ ex f2 (by simp[f3,g1,g2]) hT hT' hj hs
           . cases e
         . cases e
       . cases e
     . rename_i hT
       split at e
       . rename_i u hT'
         split at e
         . rename_i j hj
           cases hb:liesAt P P.depth e0 (cs.length/P.cellsOf e0) 0 u 1 with
           |false=>rw[hb] at e;cases e
           |true=>
             rw[hb] at e
             simp only[cond_true,Option.some.injEq] at e;subst e
             refine⟨_,hx',?_⟩
             rw[ex]
             exact Fg_ ex f2 hT hT' hj (by rw[f3,g1,g2,Nat.zero_add];exact hb)
         . cases e
       . cases e
     . cases e
   . cases e
 . cases e
def usdE (a:CV):Option CV:=match a with
 | .nils=>some .nilp
 | .slu i o (_+1) _=>some (.ptr i o)
 | .sl i o _ (_+1)=>some (.ptr i o)
 |_=>none
theorem y_usd {a c:CV} {ats:Array TypeId} (hx:VR β a (ev F x)) (e:usdE a=some c):Yl P N F H L β (.call ⟨.builtin .unsafeSliceData,#[x],ats⟩) ty c:=by
 unfold usdE at e
 split at e
 simp only[Option.some.injEq] at e;subst e;simp only[VR] at hx;refine⟨.pointer none,by simp only[VR],λd pos af g w _=>I_ (args:=#[.slice none 0 0]) xW λcs=>?_⟩;simp[builtin,Lib.run_unsafeSliceData_nil]
 . rename_i i o len k
   simp only[Option.some.injEq] at e;subst e
   simp only[VR] at hx;obtain⟨q,cc,aa,hq,_,hle,ex,ha⟩:=hx
   have :=ha xN;subst this
   refine⟨_,by simp only[VR];exact⟨q,hq,rfl⟩,λd pos af g w _=>I_ (args:=#[.slice (some ⟨q.b,q.s+o,none⟩) (len+1) cc]) (by simp[ex]) λcs=>?_⟩
   simp[builtin,Lib.run_unsafeSliceData_row _ _ _ _ _ _ (show cc≠0 by omega)]
 . rename_i i o len cap
   simp only[Option.some.injEq] at e;subst e
   simp only[VR] at hx;obtain⟨q,hq,ex⟩:=hx
   refine⟨_,by simp only[VR];exact⟨q,hq,rfl⟩,λd pos af g w _=>I_ (args:=#[.slice (some ⟨q.b,q.s+o,none⟩) len (cap+1)]) (by simp[ex]) λcs=>?_⟩
   simp[builtin,Lib.run_unsafeSliceData_row _ _ _ _ _ _ (show cap+1≠0 by omega)]
 . cases e
def usE {R:Type} (P:Program) (h:He) (nx:Nat) (T1:TypeId) (a b:CV) (k:Ke R):Option R:=match natE b with
 |some l=>match a with
   | .nilp=>match l with
     |0=>k (.str 0 0) h nx
     |_=>none
   | .ptr i o=>match l with
     |0=>none
     |_=>match h.get i with
       |some (.bys e m s gr)=>match P.underlying T1 with
         |some (.pointer e')=>bif Nat.beq e e'&&(Nat.beq (P.cellsOf e) 1&&(Nat.ble (o+l) m&&Nat.ble l 9223372036854775807)) then Tr.setK 40 h i .dead λh=>k (.str l (s/256 ^ o%256 ^ l)) h nx else none
         |_=>none
       |_=>none
   |_=>none
 |none=>none
theorem S0_ {e:TypeId} (hc:P.cellsOf e=1) (count o m:Nat) (hn:o+m<=count):liesAt P P.depth e count o e m=true:=by
 have hd:P.depth=(2*(P.types.size+Made.depth)+1)+1:=rfl;rw[hd];simp only[liesAt,Bool.or_eq_true];left;rw[hd];have h1:o%1=0:=Nat.mod_one o;simp[rowAt,hc,hn,sameLayout,h1]
theorem To_ {g o cells:Nat} {pt it ty e:TypeId} {w:World} (hp:P.underlying pt=some (.pointer e)) (hc:P.cellsOf e=1) (hsh:w.shape? g=some (e,cells)) (l:Bs) (h0:l≠[]) (hn:o+l.length<=cells) (h63:l.length<=9223372036854775807)
   (hcell:∀ j x,l[j]? = some x->w.cell? ((⟨g,o,none⟩:Addr).add j)=some (.int .u8 x.toNat)) :
   (Builtin.unsafeString_ #[pt,it] ty #[.pointer (some ⟨g,o,none⟩), .int .i64 l.length]).run P w = .ok (.string ⟨l.toArray⟩) (w.freeze ⟨g,o,none⟩ l.length):=by
 have hl:l.length≠0:=by simpa using h0
 have hlb:=Lib.run_loadBytes (P:=P) w l ⟨g,o,none⟩ .empty hcell;have hlies:=S0_ (P:=P) hc (cells/P.cellsOf e) o l.length (by rw[hc];simpa using hn);have h63':¬(9223372036854775807:Int)<(l.length:Int):=by omega
 obtain⟨m1,m2,m3,hdef⟩:∃ m1 m2 m3,Builtin.unsafeString_ #[pt,it] ty #[.pointer (some ⟨g,o,none⟩), .int .i64 l.length] =
     (do
       let n <- asInt (.int .i64 l.length)
       if n<0 then runtimePanic (.error m1)
       if n>IntKind.i64.max then unsupported (.unsafePointer m2)
       if n=0 then pure (.string .empty)
       else if <- variablesAt ⟨g,o,none⟩ (<- elemOf pt) n.toNat then do
         let s <- loadBytes ⟨g,o,none⟩ .empty n.toNat
         freeze ⟨g,o,none⟩ n.toNat
         pure (.string s)
       else unsupported (.unsafePointer m3)):=⟨_,_,_,rfl⟩
 rw[hdef];have hmax:IntKind.i64.max=9223372036854775807:=rfl;have hneg:¬(l.length:Int)<0:=by omega
 simp[asInt,asIntOf,hmax,h63',hneg,hl,variablesAt,hsh,elemOf,run_underlying hp,hlies,hlb]
theorem e_us {R:Type} {k:Ke R} {r:R} {a b:CV} {T1 T3:TypeId} {d:Nat} {pos:String} {af:Array Edge} (e:usE P h nx T1 a b k=some r):∃ c h' nx',k c h' nx'=some r/\∀ {β:Be} {L:Ls} {F:Fr},Nat.blt d n=true->HR β h nx L->VR β a (ev F x)->VR β b (ev F y)->Es P n N F H L β h nx ⟨some d, .call ⟨.builtin .unsafeString,#[x,y],#[T1,T3]⟩,ty,pos,af,none⟩ c h' nx':=by
 unfold usE at e
 split at e
 . rename_i l hl
   split at e
   . split at e
     refine⟨_,_,_,e,λ{β L F} hd hr hx hy ops K kk ac w ha hm=>?_⟩
     rw[if_pos xR]
     unfold Oper.wp
     simp only[VR] at hx
     obtain⟨k1,ey⟩:=Du_ hl hy
     have :(execOp ac.eval ⟨some d, .call ⟨.builtin .unsafeString,#[x,y],#[T1,T3]⟩,ty,pos,af,none⟩).run P w = .ok (.value (SW.str [])) w:=by
       rw[ha.eval]
       refine I_ (args:=#[.pointer none, .int k1 0]) (by simp[hx,ey]) λcs=>?_
       have :(Builtin.unsafeString_ #[T1,T3] ty #[.pointer none, .int k1 0]).run P w = .ok (.string .empty) w:=by
         exact Lib.run_unsafeString_none (P:=P) (w:=w) T1 T3 ty none
       simp[builtin,this,SW.str]
       rfl
     rw[this]
     exact⟨_,H,_,ha.put xU _,hm,kk β _ L ⟨by simp,rfl⟩ (.refl hr)⟩
     . cases e
   . rename_i i o
     split at e
     . cases e
     . rename_i hl0
       split at e
       . rename_i e0 m s gr hi
         split at e
         . rename_i e' hT
           cases hb:(Nat.beq e0 e'&&(Nat.beq (P.cellsOf e0) 1&&(Nat.ble (o+l) m&&Nat.ble l 9223372036854775807))) with
           |false=>rw[hb] at e;cases e
           |true=>
             rw[hb] at e
             simp only[Bool.and_eq_true] at hb
             obtain⟨b1,b2,b3,b4⟩:=hb
             have b1:=Nat.eq_of_beq_eq_true b1;subst b1
             have b2:=Nat.eq_of_beq_eq_true b2
             have b3:=Nat.le_of_ble_eq_true b3
             have b4:=Nat.le_of_ble_eq_true b4
             simp only[cond_true] at e
             obtain⟨h',e1,e2,e3⟩:=Tr.setK_ok _ _ _ _ _ _ e
             refine⟨_,h',_,e1,λ{β L F} hd hr hx hy ops K kk ac w ha hm=>?_⟩
             simp only[VR] at hx;obtain⟨q,hq,ex⟩:=hx
             obtain⟨k1,ey⟩:=Du_ hl hy
             obtain⟨q',vs,f1,f2,f3,f4,f5,f6,f7,f8⟩:=hr.br i _ hi
             rw[hq] at f1;cases f1
             have hlen:(dec l (s/256 ^ o%256 ^ l)).length=l:=D_ _ _
             have hsub:SW.sub vs (q.s+o) l=(dec l (s/256 ^ o%256 ^ l)).map u8v:=by
               rw[<- Gc_ (m:=m) b3,f7,<- List.map_drop,<- List.map_take,Dp_ o m s xN,Cu_ l (m-o) _ xN]
             have hbk:=hm.l i q.b _ f2
             rw[if_pos xR]
             unfold Oper.wp
             have hrun:=To_ (P:=P) (w:=w) (it:=T3) (ty:=ty) (g:=q.b) (o:=q.s+o) hT b2 (cells:=vs.length) (by simp [World.shape?,hbk,bx]) (dec l (s/256 ^ o%256 ^ l)) (λe=>hl0 (by have :=congrArg List.length e;rw [hlen] at this;simpa using this)) (by rw [hlen];omega) (by rw [hlen];exact b4) (λj c hj=>by
               rw[K_]
               refine hm.cellL f2 ?_
               have hjl:j<l:=by have :=(List.getElem?_eq_some_iff.1 hj).1;omega
               have h2:=congrArg (λr:List Value=>r[j]?) hsub
               simp only[SW.sub,List.getElem?_take,hjl,if_true,List.getElem?_drop,List.getElem?_map,hj,Option.map_some] at h2
               exact h2)
             rw[hlen] at hrun
             have hk1:k1 = .i64\/True:= .inr Z
             have this :(execOp ac.eval ⟨some d, .call ⟨.builtin .unsafeString,#[x,y],#[T1,T3]⟩,ty,pos,af,none⟩).run P w = .ok (.value (SW.str (dec l (s/256 ^ o%256 ^ l)))) (w.freeze ⟨q.b,q.s+o,none⟩ l):=by
               rw[ha.eval]
               refine I_ (args:=#[.pointer (some ⟨q.b,q.s+o,none⟩), .int k1 l]) (by simp[ex,ey]) λcs=>?_
               have hr2:(Builtin.unsafeString_ #[T1,T3] ty #[.pointer (some ⟨q.b,q.s+o,none⟩), .int k1 l]).run P w = .ok (.string ⟨(dec l (s/256 ^ o%256 ^ l)).toArray⟩) (w.freeze ⟨q.b,q.s+o,none⟩ l):=hrun
               simp[builtin,hr2,SW.str]
             rw[this]
             have hln:l≠0:=hl0
             obtain⟨o',ho'⟩:∃ o',(w.freeze ⟨q.b,q.s+o,none⟩ l).heap[q.b]? = some o':=by
               simp[World.freeze,hln,Array.getElem?_modify,hbk,bx]
             have hset:=hm.set (w':=w.freeze ⟨q.b,q.s+o,none⟩ l) (o':=o') f2 wA wA wA ho' (λc' o hne hq=>by
               simp only[World.freeze,hln,if_false,Array.getElem?_modify]
               rw[if_neg (λq=>hne q.symm)];exact hq)
             have hcl:=hset.clear i
             have heq:lupd (lupd L i (some (q.b,o'))) i none=lupd L i none:=funext λj=>by
               by_cases q:j=i
               . subst q;rw[F_,F_]
               . rw[E_ _ _ _ _ q,E_ _ _ _ _ q,E_ _ _ _ _ q]
             rw[heq] at hcl
             exact⟨_,H,_,ha.put xU _,hcl,kk β _ _ ⟨Nat.mod_lt _ (Nat.pow_pos xN),rfl⟩ (.set hr hi e2 e3 Y)⟩
         . cases e
       . cases e
   . cases e
 . cases e
def s2bE {R:Type} (P:Program) (h:He) (nx:Nat) (T T':TypeId) (a:CV) (k:Ke R):Option R:=match a with
 | .str m s=>match P.underlying T with
   |some .string=>match P.underlying T' with
     |some (.slice e)=>match P.underlying e with
       |some (.int .u8)=>Tr.setK 40 h nx (.rob e m s) λh=>k (.slu nx 0 m 1) h (nx+1)
       |_=>none
     |_=>none
   |_=>none
 |_=>none
def azE {R:Type} (P:Program) (h:He) (nx:Nat) (T T2:TypeId) (a b:CV) (k:Ke R):Option R:=match P.underlying T with
 |some (.slice e)=>match P.underlying T2 with
   |some (.int _)=>match szE P e with
     |some m=>match byE P e with
       |some by_=>match H5_ P e with
         |some zs=>match natE b with
           |some l=>match a with
             | .nils=>match l with
               |0=>k .nils h nx
               |_=>bif Nat.blt 0 by_&&(Nat.beq zs.length m&&(all1 zs&&(Nat.ble (l*by_) 140737488355328&&!isB P e))) then Tr.setK 40 h nx (.cells e (repC zs l) true) λh=>k (.slu nx 0 l m) h (nx+1) else none
             |_=>none
           |none=>none
         |none=>none
       |none=>none
     |none=>none
   |_=>none
 |_=>none
theorem e_s2b {R:Type} {k:Ke R} {r:R} {a:CV} {d:Nat} {pos:String} {af:Array Edge} (e:s2bE P h nx T T' a k=some r):∃ c h' nx',k c h' nx'=some r/\∀ {β:Be} {L:Ls} {F:Fr},Nat.blt d n=true->HR β h nx L->VR β a (ev F x)->Es P n N F H L β h nx ⟨some d, .convert T T' x,ty,pos,af,none⟩ c h' nx':=by
 unfold s2bE at e
 split at e
 . rename_i m s
   split at e
   . rename_i hT
     split at e
     . rename_i e0 hT'
       split at e
       . rename_i hu
         obtain⟨h',e1,e2,e3⟩:=Tr.setK_ok _ _ _ _ _ _ e
         refine⟨_,h',_,e1,λ{β L F} hd hr hx ops K kk ac w ha hm=>?_⟩
         simp only[VR] at hx
         rw[if_pos xR]
         unfold Oper.wp
         have hs:=run_bytes_of_string (P:=P) w T T' e0 ⟨(dec m s).toArray⟩ hT hT' hu
         rw[C2_,D_] at hs
         obtain⟨q,hq⟩:∃ q,q=grownCap w m 0 e0:=⟨_,rfl⟩
         have hqm:m<=q:=by rw[hq];simp[grownCap,Question.cut]
         rw[<- hq] at hs
         have h1:(execOp ac.eval ⟨some d, .convert T T' x,ty,pos,af,none⟩).run P w = .ok (.value (.slice (some ⟨w.heap.size,0,none⟩) m q)) {w.drew with heap:=w.heap.push (.cells (bytesRow ⟨(dec m s).toArray⟩ q) e0 ((bytesRow ⟨(dec m s).toArray⟩ q).size,(bytesRow ⟨(dec m s).toArray⟩ q).size+1))}:=by
           rw[ha.eval]
           simp[execOp,hx.2,SW.str,hs]
           rfl
         rw[h1]
         refine⟨_,H,_,ha.put xU _,(hm.drew (w.drawn+1)).push nx _,kk (bset β nx ⟨w.heap.size,0,q⟩) _ _ ?_ (.new hr e2 e3 ⟨_,_,_,J_,rfl,rfl,hx.1,?_⟩)⟩
         simp only[VR]
         exact⟨_,q,_,J_,by simp,hqm,rfl,λ_=>rfl⟩
         simp only[bytesRow,Array.toList_append,Array.toList_map]
         rw[List.take_append_of_le_length (by simp[D_]),List.take_of_length_le (by simp[D_])]
         rfl
       . cases e
     . cases e
   . cases e
 . cases e
theorem Vj_ (zs:List Value) (m:Nat):(Builtin.zeroCells zs.toArray m).toList=repV zs m:=by
 have :=congrArg Array.toList (Nw_ zs m);simpa [Builtin.zeroCells] using this
set_option maxHeartbeats 2000000 in
theorem run_az {l m by_:Nat} {e ats:TypeId} {k1 k2:IntKind} {zs:List Value} {w:World} (hT:P.underlying T=some (.slice e)) (hT2:P.underlying T2=some (.int k2)) (hk:Sz P e m) (hb:By P e by_) (h0:0<by_) (hz:Zr P e zs) (hzl:zs.length=m) (hl0:0<l) (hbd:l*by_<=140737488355328) :
   ∃ nc rest,l<=nc/\(repV zs l++rest).length=nc*m/\rest=repV zs (nc-l)/\(Builtin.append_ #[T,T2] ats #[.slice none 0 0, .int k1 (l:Int)]).run P w = .ok (.slice (some ⟨w.heap.size,0,none⟩) l nc) {w.drew with heap:=w.drew.heap.push (bx e (repV zs l++rest))}:=by
 obtain⟨inf,hinf,hbb⟩:=hb w;have hsz:l<=l*by_:=Nat.le_mul_of_pos_right _ h0;have hw:=K7_ (m:=l) xN;have hfit:=growslice_fits (need:=0+l) (old:=0) (bytes:=by_) xN (by simpa using hbd);have hfit':¬(281474976710656<Builtin.nextslicecap l 0*inf.bytes):=by rw[hbb];simp only[Nat.zero_add] at hfit;omega
 have hl:¬(281474976710656<(l:Int)*(inf.bytes:Int)):=by
   rw[hbb]
   have e1:((l:Int)*(by_:Int))=((l*by_:Nat):Int):=by simp
   rw[e1];omega
 have h63:¬(9223372036854775807<(l:Int)):=by omega
 have h1:¬((l:Int)<0):=by omega
 have hm00:¬l=0:=by omega
 have hmk:¬l<=0:=by omega
 obtain⟨nc,hnc⟩:∃ nc,nc=(Question.appendCap l 0 e).cut (w.tape w.drawn (Question.appendCap l 0 e)):=⟨_,rfl⟩;have hnge:l<=nc:=by rw[hnc];simp only[Question.cut];omega
 obtain⟨z,hz1,hz2⟩:=hz w.drew;obtain⟨inf',hinf',_⟩:=hb w.drew;have hqf:(Question.appendCap l 0 e).forced=false:=rfl;have hnil:(Builtin.firstCells m 0 (.slice none 0 0)).run P w.drew = .ok #[] w.drew:=by simp[Builtin.firstCells]
 refine⟨nc,repV zs (nc-l),hnge,by rw[List.length_append,Bl_,Bl_,hzl,<- Nat.add_mul];congr 1;omega,rfl,?_⟩;by_cases h:l*m=0;have hre:repV zs l=[]:=List.length_eq_zero_iff.1 (by rw[Bl_,hzl];exact h);simp[Builtin.append_,run_underlying hT,run_underlying hT2,hk w,hw,hinf,hl,h63,h1,hm00,hmk,hfit',hqf,hinf',hnil,h,hz1,hz2,newRow,bx,<- hnc,Ej_,hre,<- Vj_];exact zN;simp[Builtin.append_,run_underlying hT,run_underlying hT2,hk w,hw,hinf,hl,h63,h1,hm00,hmk,hfit',hqf,hinf',hnil,h,hz1,hz2,newRow,bx,<- hnc,Ej_,<- Vj_];exact zN
theorem e_az {R:Type} {k:Ke R} {r:R} {a b:CV} {d:Nat} {pos:String} {af:Array Edge} (e:azE P h nx T T2 a b k=some r):∃ c h' nx',k c h' nx'=some r/\∀ {β:Be} {L:Ls} {F:Fr},Nat.blt d n=true->HR β h nx L->VR β a (ev F x)->VR β b (ev F y)->Es P n N F H L β h nx ⟨some d, .call ⟨.builtin .append,#[x,y],#[T,T2]⟩,ty,pos,af,none⟩ c h' nx':=by
 unfold azE at e
 split at e
 . rename_i e0 hT
   split at e
   . rename_i k2 hT2
     split at e
     . rename_i m hm
       split at e
       . rename_i by_ hby
         split at e
         . rename_i zs hz
           split at e
           . rename_i l hl
             split at e
             . split at e
               refine⟨_,_,_,e,λ{β L F} hd hr hx hy ops K kk ac w ha hm2=>?_⟩
               rw[if_pos xR]
               unfold Oper.wp
               simp only[VR] at hx
               obtain⟨k1,ey⟩:=Du_ hl hy
               obtain⟨inf,hinf,_⟩:=Mk_ hby w
               have hw:IntKind.wrap .i64 0=0:=rfl
               have r1:∀ ats,(Builtin.append_ #[T,T2] ats #[.slice none 0 0, .int k1 (0:Int)]).run P w = .ok (.slice none 0 0) w:=λats=>by
                 simp[Builtin.append_,run_underlying hT,run_underlying hT2,A0_ hm w,hw,hinf,Ej_]
               rw[ha.eval,Cw_ hx ey r1]
               exact⟨_,H,L,ha.put xU _,hm2,kk β _ L wG (.refl hr)⟩
               . rename_i hl0
                 cases hb:(Nat.blt 0 by_&&(Nat.beq zs.length m&&(all1 zs&&(Nat.ble (l*by_) 140737488355328&&!isB P e0)))) with
                 |false=>rw[hb] at e;cases e
                 |true=>
                   rw[hb] at e
                   simp only[Bool.and_eq_true] at hb
                   obtain⟨b1,b2,b3,b4,_⟩:=hb
                   simp only[cond_true] at e
                   obtain⟨h',e1,e2,e3⟩:=Tr.setK_ok _ _ _ _ _ _ e
                   refine⟨_,h',_,e1,λ{β L F} hd hr hx hy ops K kk ac w ha hm2=>?_⟩
                   rw[if_pos xR]
                   unfold Oper.wp
                   simp only[VR] at hx
                   obtain⟨k1,ey⟩:=Du_ hl hy
                   obtain⟨zv,z1,z2⟩:=Cc_ (β:=β) hz
                   have hzl:zv.cells.toList.length=m:=by rw[z2.length];exact Nat.eq_of_beq_eq_true b2
                   obtain⟨nc,rest,n1,n2,n3,n4⟩:=run_az (P:=P) (k1:=k1) (w:=w) (ats:=0) hT hT2 (A0_ hm) (Mk_ hby) (Ce_ b1) (zs:=zv.cells.toList) (λw=>⟨zv,z1 w,by simp⟩) hzl (Nat.pos_of_ne_zero hl0) (Nat.le_of_ble_eq_true b4)
                   have r1:∀ ats,(Builtin.append_ #[T,T2] ats #[.slice none 0 0, .int k1 (l:Int)]).run P w=_:=λats=>n4
                   rw[ha.eval,Cw_ hx ey r1]
                   have hR:=Lz_ z2 l
                   have hlr:=hR.length
                   have hone:=Cd_ z2 b3
                   have h1r:∀ m,∀ v∈repV zv.cells.toList m,v.oneCell'=true:=by
                     intro m
                     induction m with
                     |zero=>intro v hv;cases hv
                     |succ m ih=>intro v hv;rcases List.mem_append.1 hv with q|q;exact hone v q;exact ih v q
                   refine⟨_,H,_,ha.put xU _,(hm2.drew (w.drawn+1)).push nx _,kk (bset β nx ⟨w.heap.size,0,nc*m⟩) _ _ ?_ (.new hr e2 e3 ⟨_,repV zv.cells.toList l++rest,J_,rfl,by simpa using n2,?_,λg=>(by cases g),?_,λv hv=>?_⟩)⟩
                   . simp only[VR];exact⟨_,nc,_,J_,by simp,n1,rfl,λ_=>rfl⟩
                   . show (repC zs l).length<=nc*m
                     rw[<- hlr,<- n2,List.length_append];omega
                   . simp only[List.drop_zero]
                     rw[<- hlr,List.take_left]
                     exact hR.mono (B0_ (hr.fr nx (Nat.le_refl _)).1)
                   . rcases List.mem_append.1 hv with q|q
                     . exact h1r l v q
                     . rw[n3] at q;exact h1r _ v q
             . cases e
           . cases e
         . cases e
       . cases e
     . cases e
   . cases e
 . cases e
end
end Go.CE
namespace Go.CE
open Go.SW
noncomputable section
variable {P:Program} {n:Nat} {N:SW.Rest} {H:Hp} {ty:TypeId} {f:Fe} {h:He} {nx:Nat} {G:Gt} {X:Xt} {R:Type}
def Cs (P:Program) (N:SW.Rest) (H:Hp) (g:FuncId) (args:List CV) (h:He) (nx:Nat) (c:CV) (h':He) (nx':Nat):Prop:=
 Ac_ P g/\∀ β L vs w,HR β h nx L->VRs β args vs->Mem N H L w->∀ R':Ending->World->Prop,(∀ β' v L' w',VR β' c v->Post β h nx L β' h' nx' L'->Mem N H L' w'->R' (.returned v) w')->Calls P g vs.toArray w R'
abbrev Cl (R:Type):=FuncId->List CV->He->Nat->Ke R->Option R
def ClOk (P:Program) (N:SW.Rest) (H:Hp) (cl:Cl R):Prop:=∀ g args h nx k r,cl g args h nx k=some r->∃ c h' nx',k c h' nx'=some r/\Cs P N H g args h nx c h' nx'
def cvaE (P:Program) (h:He) (T T':TypeId) (a:CV):Option CV:=match cvE P T T' a with
 |some c=>some c
 |none=>match b2sE P h T T' a with
   |some c=>some c
   |none=>upE P h T T' a
def retE (o:Option CV) (h:He) (nx:Nat) (k:Ke R):Option R:=match o with
 |some c=>k c h nx
 |none=>none
def X_ (f:Fe) (x:Operand) (k:CV->Option R):Option R:=match ef f x with
 |some a=>k a
 |none=>none
def biE (P:Program) (f:Fe) (h:He) (nx:Nat) (b:Builtin) (xs:List Operand) (ats:List TypeId) (k:Ke R):Option R:=match b with
 | .len=>match xs with
   |[x]=>match ats with
     |[T]=>X_ f x λa=>retE (lenE P T a) h nx k
     |_=>none
   |_=>none
 | .cap=>match xs with
   |[x]=>match ats with
     |[T]=>X_ f x λa=>retE (capE P T a) h nx k
     |_=>none
   |_=>none
 | .min=>match efs f xs with
   |some cs=>retE (mmE .min cs) h nx k
   |none=>none
 | .max=>match efs f xs with
   |some cs=>retE (mmE .max cs) h nx k
   |none=>none
 | .append=>match xs with
   |[x,y]=>match ats with
     |[T,T2]=>X_ f x λa=>X_ f y λb=>match P.underlying T2 with
       |some (.int _)=>azE P h nx T T2 a b k
       |_=>apE P h nx T T2 a b k
     |_=>none
   |_=>none
 | .copy=>match xs with
   |[x,y]=>match ats with
     |[T,_]=>X_ f x λa=>X_ f y λb=>cpE P h nx T a b k
     |_=>none
   |_=>none
 | .unsafeString=>match xs with
   |[x,y]=>match ats with
     |[T,_]=>X_ f x λa=>X_ f y λb=>usE P h nx T a b k
     |_=>none
   |_=>none
 | .unsafeSliceData=>match xs with
   |[x]=>X_ f x λa=>retE (usdE a) h nx k
   |_=>none
 |_=>none
def caE (X:Xt) (cl:Cl R) (f:Fe) (h:He) (nx:Nat) (x:Operand) (xs:List Operand) (k:Ke R):Option R:=match ef f x with
 |some (.fn g fs cap)=>match efs f xs with
   |some az=>match xkE X g with
     |some xk=>xtE h nx xk (fs++(az++cap)) k
     |none=>cl g (fs++(az++cap)) h nx k
   |none=>none
 |_=>none
def opE (P:Program) (G:Gt) (X:Xt) (cl:Cl R) (f:Fe) (h:He) (nx:Nat) (o:Op) (k:Ke R):Option R:=match o with
 | .move x=>X_ f x λa=>k a h nx
 | .assign x=>X_ f x λa=>k a h nx
 | .pick c x y=>match ef f c with
   |some (.bool b)=>X_ f (bif b then x else y) λa=>k a h nx
   |_=>none
 | .alloc T=>alE P h nx T k
 | .box T x=>X_ f x λa=>bxE P h nx T a k
 | .build T ps=>match efps f ps.toList with
   |some qs=>retE (J6_ P T qs) h nx k
   |none=>none
 | .buildSlice T len ps=>bslE P f h nx T len ps.toList k
 | .load T x=>X_ f x λa=>retE (ldE P G h T a) h nx k
 | .store T x y=>X_ f x λa=>X_ f y λb=>stE P h nx T a b k
 | .nilCheck x=>X_ f x λa=>retE (nilE a) h nx k
 | .binOp op T x y _=>X_ f x λa=>X_ f y λb=>retE (binE P op T x y a b) h nx k
 | .unOp op _ x=>X_ f x λa=>retE (unE op a) h nx k
 | .convert T T' x=>X_ f x λa=>match cvaE P h T T' a with
   |some c=>k c h nx
   |none=>s2bE P h nx T T' a k
 | .makeInterface T x=>X_ f x λa=>retE (ifE P T a) h nx k
 | .makeFunc fn ps qs=>match fn with
   | .func g=>match efs f ps.toList with
     |some a=>match efs f qs.toList with
       |some b=>k (.fn g a b) h nx
       |none=>none
     |none=>none
   |_=>none
 | .makeMap _ r=>match r with
   |none=>Tr.setK 40 h nx (.mp [] 0) λh=>k (.mp nx) h (nx+1)
   |some _=>none
 | .makeSlice T x y=>X_ f x λa=>X_ f y λb=>mkE P h nx T a b k
 | .slice T x lo hi mx=>X_ f x λa=>match onE f lo with
   |some l=>match onE f hi with
     |some u=>match onE f mx with
       |some m=>retE (slE P T a l u m) h nx k
       |none=>none
     |none=>none
   |none=>none
 | .fieldAddr T x i=>X_ f x λa=>retE (faE P T i a) h nx k
 | .field T x i=>X_ f x λa=>retE (Kf_ P T i a) h nx k
 | .indexAddr T x y=>X_ f x λa=>X_ f y λb=>retE (iaE P T a b) h nx k
 | .index T x y=>X_ f x λa=>X_ f y λb=>retE (ixE P T a b) h nx k
 | .range T x=>X_ f x λa=>rgE P h nx T a k
 | .next x b=>match b with
   |true=>X_ f x λa=>nxE h nx a k
   |false=>none
 | .extract x i=>X_ f x λa=>retE (exE a i) h nx k
 | .call c=>match c.callee with
   | .builtin b=>biE P f h nx b c.args.toList c.argTypes.toList k
   | .value x=>caE X cl f h nx x c.args.toList k
   |_=>none
 |_=>none
def o_move (x:Operand) (P:Program) (G:Gt) (X:Xt) (cl:Cl R) (f:Fe) (h:He) (nx:Nat) (k:Ke R):Option R:=X_ f x λa=>k a h nx
def S7_ (x:Operand) (P:Program) (G:Gt) (X:Xt) (cl:Cl R) (f:Fe) (h:He) (nx:Nat) (k:Ke R):Option R:=X_ f x λa=>k a h nx
def o_pick (c:Operand) (x:Operand) (y:Operand) (P:Program) (G:Gt) (X:Xt) (cl:Cl R) (f:Fe) (h:He) (nx:Nat) (k:Ke R):Option R:=match ef f c with
   |some (.bool b)=>X_ f (bif b then x else y) λa=>k a h nx
   |_=>none
def o_alloc (T:TypeId) (P:Program) (G:Gt) (X:Xt) (cl:Cl R) (f:Fe) (h:He) (nx:Nat) (k:Ke R):Option R:=alE P h nx T k
def o_box (T:TypeId) (x:Operand) (P:Program) (G:Gt) (X:Xt) (cl:Cl R) (f:Fe) (h:He) (nx:Nat) (k:Ke R):Option R:=X_ f x λa=>bxE P h nx T a k
def o_build (T:TypeId) (ps:Array (Nat×Operand)) (P:Program) (G:Gt) (X:Xt) (cl:Cl R) (f:Fe) (h:He) (nx:Nat) (k:Ke R):Option R:=match efps f ps.toList with
   |some qs=>retE (J6_ P T qs) h nx k
   |none=>none
def Kt_ (T:TypeId) (len:Nat) (ps:Array (Nat×Operand)) (P:Program) (G:Gt) (X:Xt) (cl:Cl R) (f:Fe) (h:He) (nx:Nat) (k:Ke R):Option R:=bslE P f h nx T len ps.toList k
def o_load (T:TypeId) (x:Operand) (P:Program) (G:Gt) (X:Xt) (cl:Cl R) (f:Fe) (h:He) (nx:Nat) (k:Ke R):Option R:=X_ f x λa=>retE (ldE P G h T a) h nx k
def o_store (T:TypeId) (x:Operand) (y:Operand) (P:Program) (G:Gt) (X:Xt) (cl:Cl R) (f:Fe) (h:He) (nx:Nat) (k:Ke R):Option R:=X_ f x λa=>X_ f y λb=>stE P h nx T a b k
def Oc_ (x:Operand) (P:Program) (G:Gt) (X:Xt) (cl:Cl R) (f:Fe) (h:He) (nx:Nat) (k:Ke R):Option R:=X_ f x λa=>retE (nilE a) h nx k
def o_binOp (op:BinOp) (T:TypeId) (x:Operand) (y:Operand) (z4:TypeId) (P:Program) (G:Gt) (X:Xt) (cl:Cl R) (f:Fe) (h:He) (nx:Nat) (k:Ke R):Option R:=X_ f x λa=>X_ f y λb=>retE (binE P op T x y a b) h nx k
def o_unOp (op:UnOp) (z1:TypeId) (x:Operand) (P:Program) (G:Gt) (X:Xt) (cl:Cl R) (f:Fe) (h:He) (nx:Nat) (k:Ke R):Option R:=X_ f x λa=>retE (unE op a) h nx k
def Qm_ (T:TypeId) (T':TypeId) (x:Operand) (P:Program) (G:Gt) (X:Xt) (cl:Cl R) (f:Fe) (h:He) (nx:Nat) (k:Ke R):Option R:=X_ f x λa=>match cvaE P h T T' a with
   |some c=>k c h nx
   |none=>s2bE P h nx T T' a k
def Ho_ (T:TypeId) (x:Operand) (P:Program) (G:Gt) (X:Xt) (cl:Cl R) (f:Fe) (h:He) (nx:Nat) (k:Ke R):Option R:=X_ f x λa=>retE (ifE P T a) h nx k
def Ob_ (fn:Go.Fn) (ps:Array Operand) (qs:Array Operand) (P:Program) (G:Gt) (X:Xt) (cl:Cl R) (f:Fe) (h:He) (nx:Nat) (k:Ke R):Option R:=match fn with
   | .func g=>match efs f ps.toList with
     |some a=>match efs f qs.toList with
       |some b=>k (.fn g a b) h nx
       |none=>none
     |none=>none
   |_=>none
def Qo_ (z0:TypeId) (r:Option Operand) (P:Program) (G:Gt) (X:Xt) (cl:Cl R) (f:Fe) (h:He) (nx:Nat) (k:Ke R):Option R:=match r with
   |none=>Tr.setK 40 h nx (.mp [] 0) λh=>k (.mp nx) h (nx+1)
   |some _=>none
def Lv_ (T:TypeId) (x:Operand) (y:Operand) (P:Program) (G:Gt) (X:Xt) (cl:Cl R) (f:Fe) (h:He) (nx:Nat) (k:Ke R):Option R:=X_ f x λa=>X_ f y λb=>mkE P h nx T a b k
def o_slice (T:TypeId) (x:Operand) (lo:Option Operand) (hi:Option Operand) (mx:Option Operand) (P:Program) (G:Gt) (X:Xt) (cl:Cl R) (f:Fe) (h:He) (nx:Nat) (k:Ke R):Option R:=X_ f x λa=>match onE f lo with
   |some l=>match onE f hi with
     |some u=>match onE f mx with
       |some m=>retE (slE P T a l u m) h nx k
       |none=>none
     |none=>none
   |none=>none
def Lt_ (T:TypeId) (x:Operand) (i:Nat) (P:Program) (G:Gt) (X:Xt) (cl:Cl R) (f:Fe) (h:He) (nx:Nat) (k:Ke R):Option R:=X_ f x λa=>retE (faE P T i a) h nx k
def o_field (T:TypeId) (x:Operand) (i:Nat) (P:Program) (G:Gt) (X:Xt) (cl:Cl R) (f:Fe) (h:He) (nx:Nat) (k:Ke R):Option R:=X_ f x λa=>retE (Kf_ P T i a) h nx k
def Lu_ (T:TypeId) (x:Operand) (y:Operand) (P:Program) (G:Gt) (X:Xt) (cl:Cl R) (f:Fe) (h:He) (nx:Nat) (k:Ke R):Option R:=X_ f x λa=>X_ f y λb=>retE (iaE P T a b) h nx k
def o_index (T:TypeId) (x:Operand) (y:Operand) (P:Program) (G:Gt) (X:Xt) (cl:Cl R) (f:Fe) (h:He) (nx:Nat) (k:Ke R):Option R:=X_ f x λa=>X_ f y λb=>retE (ixE P T a b) h nx k
def o_range (T:TypeId) (x:Operand) (P:Program) (G:Gt) (X:Xt) (cl:Cl R) (f:Fe) (h:He) (nx:Nat) (k:Ke R):Option R:=X_ f x λa=>rgE P h nx T a k
def o_next (x:Operand) (b:Bool) (P:Program) (G:Gt) (X:Xt) (cl:Cl R) (f:Fe) (h:He) (nx:Nat) (k:Ke R):Option R:=match b with
   |true=>X_ f x λa=>nxE h nx a k
   |false=>none
def Qn_ (x:Operand) (i:Nat) (P:Program) (G:Gt) (X:Xt) (cl:Cl R) (f:Fe) (h:He) (nx:Nat) (k:Ke R):Option R:=X_ f x λa=>retE (exE a i) h nx k
def o_call (c:Call) (P:Program) (G:Gt) (X:Xt) (cl:Cl R) (f:Fe) (h:He) (nx:Nat) (k:Ke R):Option R:=match c.callee with
   | .builtin b=>biE P f h nx b c.args.toList c.argTypes.toList k
   | .value x=>caE X cl f h nx x c.args.toList k
   |_=>none
def oNo (P:Program) (G:Gt) (X:Xt) (cl:Cl R) (f:Fe) (h:He) (nx:Nat) (k:Ke R):Option R:=none
def opF (o:Op):Program->Gt->Xt->Cl R->Fe->He->Nat->Ke R->Option R:=match o with
 | .move x=>o_move x
 | .assign x=>S7_ x
 | .pick c x y=>o_pick c x y
 | .alloc T=>o_alloc T
 | .box T x=>o_box T x
 | .build T ps=>o_build T ps
 | .buildSlice T len ps=>Kt_ T len ps
 | .load T x=>o_load T x
 | .store T x y=>o_store T x y
 | .nilCheck x=>Oc_ x
 | .binOp op T x y z4=>o_binOp op T x y z4
 | .unOp op z1 x=>o_unOp op z1 x
 | .convert T T' x=>Qm_ T T' x
 | .makeInterface T x=>Ho_ T x
 | .makeFunc fn ps qs=>Ob_ fn ps qs
 | .makeMap z0 r=>Qo_ z0 r
 | .makeSlice T x y=>Lv_ T x y
 | .slice T x lo hi mx=>o_slice T x lo hi mx
 | .fieldAddr T x i=>Lt_ T x i
 | .field T x i=>o_field T x i
 | .indexAddr T x y=>Lu_ T x y
 | .index T x y=>o_index T x y
 | .range T x=>o_range T x
 | .next x b=>o_next x b
 | .extract x i=>Qn_ x i
 | .call c=>o_call c
 |_=>oNo
theorem opF_eq {P:Program} {G:Gt} {X:Xt} {cl:Cl R} {f:Fe} {h:He} {nx:Nat} {o:Op} {k:Ke R}:opF o P G X cl f h nx k=opE P G X cl f h nx o k:=by
 cases o<;>rfl
theorem H_ {x:Operand} {k:CV->Option R} {r:R} (e:X_ f x k=some r):∃ a,ef f x=some a/\k a=some r:=by
 unfold X_ at e
 split at e
 . rename_i a ha;exact⟨a,ha,e⟩
 . cases e
theorem Bb_ {o:Option CV} {k:Ke R} {r:R} (e:retE o h nx k=some r):∃ c,o=some c/\k c h nx=some r:=by
 unfold retE at e
 split at e
 . rename_i c;exact⟨c,rfl,e⟩
 . cases e
def Ops (P:Program) (n:Nat) (N:SW.Rest) (H:Hp) (f:Fe) (h:He) (nx:Nat) (o:Oper) (c:CV) (h':He) (nx':Nat):Prop:=
 ∀ {β:Be} {L:Ls} {F:Fr},dstB n o=true->FR β f F->HR β h nx L->Es P n N F H L β h nx o c h' nx'
theorem arr1 {α:Type} {xs:Array α} {l:List α} (e:xs.toList=l):xs=l.toArray:=by rw[<- e]
def okD (o:Op) (d:Option Tmp):Bool:=match o with
 | .store _ _ _=>d.isNone
 | .call c=>match c.callee with
   | .builtin .copy=>true
   | .value _=>true
   |_=>d.isSome
 |_=>d.isSome
theorem e_call {cl:Cl R} {x:Operand} {xs:Array Operand} {ats:Array TypeId} {dst:Option Tmp} {pos:String} {af:Array Edge} {k:Ke R} {r:R} (hX:XOk P X) (hcl:ClOk P N H cl) (e:caE X cl f h nx x xs.toList k=some r):∃ c h' nx',k c h' nx'=some r/\Ops P n N H f h nx ⟨dst, .call ⟨.value x,xs,ats⟩,ty,pos,af,none⟩ c h' nx':=by
 unfold caE at e
 split at e
 . rename_i g fs cap hx
   split at e
   . rename_i az has
     split at e
     . rename_i xk hxk
       obtain⟨c,h',nx',e1,e2⟩:=e_xt (hX g xk hxk) e
       refine⟨c,h',nx',e1,λ{β L F} hd hf hr ops K kk a w ha hm=>?_⟩
       have hxv:=Q_ hf hx
       have hxs:=Fd_ hf has
       simp only[VR] at hxv;obtain⟨vs,us,ex,h1,h2⟩:=hxv
       obtain⟨v,w',β',L',r1,r2,r3,r4⟩:=e2 hr (h1.app (hxs.app h2)) hm
       rw[if_pos xR]
       unfold Oper.wp
       have e3:xs.map (ev F)=(evs F xs.toList).toArray:=by rw[<- Fv_];apply Array.ext';simp
       have :(execOp a.eval ⟨dst, .call ⟨.value x,xs,ats⟩,ty,pos,af,none⟩).run P w = .ok (.value v) w':=by
         rw[ha.eval]
         simp[execOp,resolve,Deferred.ofValue,ex,invoke,e3,r1]
       rw[this]
       exact⟨_,H,L',ha.putO hd v,r2,kk β' v L' r3 r4⟩
     obtain⟨c,h',nx',e1,hc,e2⟩:=hcl _ _ _ _ _ _ e
     refine⟨c,h',nx',e1,λ{β L F} hd hf hr ops K kk a w ha hm=>?_⟩
     have hxv:=Q_ hf hx
     have hxs:=Fd_ hf has
     simp only[VR] at hxv;obtain⟨vs,us,ex,h1,h2⟩:=hxv
     have hen:=Uc_ (ats:=ats) (xs:=xs) ex hc ty dst pos af none w
     rw[if_pos xR]
     unfold Oper.wp
     rw[ha.eval,hen]
     have :=e2 β L (vs++(evs F xs.toList++us)) w hr (h1.app (hxs.app h2)) hm
     rw[show vs++evs F xs.toList++us=vs++(evs F xs.toList++us) from List.append_assoc _ _ _]
     exact this _ λβ' v L' w' r3 r4 r2=>⟨_,H,L',ha.putO hd v,r2,kk β' v L' r3 r4⟩
   . cases e
 . cases e
theorem U0_ {cl:Cl R} {op:Op} {dst:Option Tmp} {pos:String} {af:Array Edge} {k:Ke R} {r:R} (hG:GH G H) (hX:XOk P X) (hcl:ClOk P N H cl) (e:opE P G X cl f h nx op k=some r) (hn:okD op dst=true):∃ c h' nx',k c h' nx'=some r/\Ops P n N H f h nx ⟨dst,op,ty,pos,af,none⟩ c h' nx':=by
 have yl:∀ {c:CV},dst.isSome=true->k c h nx=some r->(∀ {β:Be} {L:Ls} {F:Fr},FR β f F->HR β h nx L->Yl P N F H L β op ty c)->∃ c h' nx',k c h' nx'=some r/\Ops P n N H f h nx ⟨dst,op,ty,pos,af,none⟩ c h' nx':=by
   intro c hnd e1 hy
   obtain⟨d,rfl⟩:=Option.isSome_iff_exists.1 hnd
   exact⟨c,h,nx,e1,λ{β L F} hd hf hr=>Es.of_yl hd hr (hy hf hr)⟩
 unfold opE at e
 split at e
 obtain⟨a,hx,e⟩:=H_ e;exact yl hn e λhf hr=>y_mv (Q_ hf hx);obtain⟨a,hx,e⟩:=H_ e;exact yl hn e λhf hr=>y_as (Q_ hf hx)
 . split at e
   . rename_i b hb
     obtain⟨a,hx,e⟩:=H_ e
     exact yl hn e λhf hr=>Nv_ (Q_ hf hb) (Q_ hf hx)
   . cases e
 obtain⟨d,rfl⟩:=Option.isSome_iff_exists.1 hn;obtain⟨c,h',nx',e1,e2⟩:=e_al e;exact⟨c,h',nx',e1,λ{β L F} hd hf hr=>e2 hd hr⟩;obtain⟨d,rfl⟩:=Option.isSome_iff_exists.1 hn;obtain⟨a,hx,e⟩:=H_ e;obtain⟨c,h',nx',e1,e2⟩:=e_bx e;exact zK
 . rename_i T ps
   split at e
   . rename_i qs hq
     obtain⟨c,hc,e⟩:=Bb_ e
     refine yl hn e λ{β L F} hf hr=>?_
     have :=J2_ (P:=P) (N:=N) (H:=H) (L:=L) (ty:=ty) hf hq hc
     exact yS
   . cases e
 . rename_i T len ps
   obtain⟨d,rfl⟩:=Option.isSome_iff_exists.1 hn
   obtain⟨c,h',nx',e1,e2⟩:=e_bsl (ps:=ps.toList) e
   refine⟨c,h',nx',e1,λ{β L F} hd hf hr=>?_⟩
   have :=e2 hd hf hr
   exact yS
 obtain⟨a,hx,e⟩:=H_ e;obtain⟨c,hc,e⟩:=Bb_ e;exact yl hn e λhf hr=>y_ld hG hr (Q_ hf hx) hc
 . obtain⟨a,hx,e⟩:=H_ e
   obtain⟨b,hy,e⟩:=H_ e
   cases dst with
   |some d=>cases hn
   |none=>
     obtain⟨c,h',nx',e1,e2⟩:=e_st e
     exact⟨c,h',nx',e1,λ{β L F} hd hf hr=>e2 hr (Q_ hf hx) (Q_ hf hy)⟩
 obtain⟨a,hx,e⟩:=H_ e;obtain⟨c,hc,e⟩:=Bb_ e;exact yl hn e λhf hr=>T4_ (Q_ hf hx) hc;obtain⟨a,hx,e⟩:=H_ e;obtain⟨b,hy,e⟩:=H_ e;obtain⟨c,hc,e⟩:=Bb_ e;exact yl hn e λhf hr=>P8_ (Q_ hf hx) (Q_ hf hy) hc;obtain⟨a,hx,e⟩:=H_ e;obtain⟨c,hc,e⟩:=Bb_ e;exact yl hn e λhf hr=>Ux_ (Q_ hf hx) hc
 . obtain⟨a,hx,e⟩:=H_ e
   split at e
   . rename_i c hc
     refine yl hn e λhf hr=>?_
     unfold cvaE at hc
     split at hc
     exact yB
     . split at hc
       exact yC
       exact y_up hr (Q_ hf hx) hc
   obtain⟨d,rfl⟩:=Option.isSome_iff_exists.1 hn
   obtain⟨c,h',nx',e1,e2⟩:=e_s2b e
   exact zK
 obtain⟨a,hx,e⟩:=H_ e;obtain⟨c,hc,e⟩:=Bb_ e;exact yl hn e λhf hr=>y_if (Q_ hf hx) hc
 . rename_i fn ps qs
   split at e
   . rename_i g
     split at e
     . rename_i a ha
       split at e
       . rename_i b hb
         refine yl hn e λ{β L F} hf hr=>?_
         exact zQ
       . cases e
     . cases e
   . cases e
 . split at e
   obtain⟨d,rfl⟩:=Option.isSome_iff_exists.1 hn
   obtain⟨h',e1,e2,e3⟩:=Tr.setK_ok _ _ _ _ _ _ e
   refine⟨_,h',_,e1,λ{β L F} hd hf hr ops K kk=>Qy_ nx hd λb=>kk (bset β nx ⟨b,0,0⟩) _ _ ?_ (.new hr e2 e3 ⟨_,#[],J_,rfl,rfl⟩)⟩
   exact yY
   . cases e
 obtain⟨d,rfl⟩:=Option.isSome_iff_exists.1 hn;obtain⟨a,hx,e⟩:=H_ e;obtain⟨b,hy,e⟩:=H_ e;obtain⟨c,h',nx',e1,e2⟩:=e_mk e;exact zJ
 . obtain⟨a,hx,e⟩:=H_ e
   split at e
   . rename_i l hl
     split at e
     . rename_i u hu
       split at e
       . rename_i m hm
         obtain⟨c,hc,e⟩:=Bb_ e
         exact yl hn e λhf hr=>y_sl hf (Q_ hf hx) hl hu hm hc
       . cases e
     . cases e
   . cases e
 obtain⟨a,hx,e⟩:=H_ e;obtain⟨c,hc,e⟩:=Bb_ e;exact yl hn e λhf hr=>y_fa (Q_ hf hx) hc;obtain⟨a,hx,e⟩:=H_ e;obtain⟨c,hc,e⟩:=Bb_ e;exact yl hn e λhf hr=>R9_ (Q_ hf hx) hc;obtain⟨a,hx,e⟩:=H_ e;obtain⟨b,hy,e⟩:=H_ e;obtain⟨c,hc,e⟩:=Bb_ e;exact yl hn e λhf hr=>y_ia (Q_ hf hx) (Q_ hf hy) hc;obtain⟨a,hx,e⟩:=H_ e;obtain⟨b,hy,e⟩:=H_ e;obtain⟨c,hc,e⟩:=Bb_ e;exact yl hn e λhf hr=>y_ix (Q_ hf hx) (Q_ hf hy) hc;obtain⟨d,rfl⟩:=Option.isSome_iff_exists.1 hn;obtain⟨a,hx,e⟩:=H_ e;obtain⟨c,h',nx',e1,e2⟩:=e_rg e;exact zK
 . split at e
   obtain⟨d,rfl⟩:=Option.isSome_iff_exists.1 hn
   obtain⟨a,hx,e⟩:=H_ e
   obtain⟨c,h',nx',e1,e2⟩:=e_nx e
   exact zK
   . cases e
 obtain⟨a,hx,e⟩:=H_ e;obtain⟨c,hc,e⟩:=Bb_ e;exact yl hn e λhf hr=>y_ex (Q_ hf hx) hc
 . rename_i c0
   obtain⟨callee,xs,ats⟩:=c0
   split at e
   . rename_i b hb
     simp only at hb e;subst hb
     unfold biE at e
     split at e
     . split at e
       . rename_i x hxs
         split at e
         . rename_i T hts
           obtain⟨a,hx,e⟩:=H_ e
           obtain⟨c,hc,e⟩:=Bb_ e
           rw[arr1 hxs,arr1 hts] at yl ⊢
           exact yl hn e λhf hr=>T3_ (Q_ hf hx) hc
         . cases e
       . cases e
     . split at e
       . rename_i x hxs
         split at e
         . rename_i T hts
           obtain⟨a,hx,e⟩:=H_ e
           obtain⟨c,hc,e⟩:=Bb_ e
           rw[arr1 hxs,arr1 hts] at yl ⊢
           exact yl hn e λhf hr=>y_cap (Q_ hf hx) hc
         . cases e
       . cases e
     . split at e
       exact yE
       . cases e
     . split at e
       exact yE
       . cases e
     . split at e
       . rename_i x y hxs
         split at e
         . rename_i T T2 hts
           obtain⟨d,rfl⟩:=Option.isSome_iff_exists.1 hn
           obtain⟨a,hx,e⟩:=H_ e
           obtain⟨b,hy,e⟩:=H_ e
           rw[arr1 hxs,arr1 hts]
           split at e
           obtain⟨c,h',nx',e1,e2⟩:=e_az e
           exact zJ
           obtain⟨c,h',nx',e1,e2⟩:=e_ap e
           exact zJ
         . cases e
       . cases e
     . split at e
       . rename_i x y hxs
         split at e
         . rename_i T T2 hts
           obtain⟨a,hx,e⟩:=H_ e
           obtain⟨b,hy,e⟩:=H_ e
           obtain⟨c,h',nx',e1,e2⟩:=e_cp e
           rw[arr1 hxs,arr1 hts]
           exact zJ
         . cases e
       . cases e
     . split at e
       . rename_i x y hxs
         split at e
         . rename_i T T2 hts
           obtain⟨d,rfl⟩:=Option.isSome_iff_exists.1 hn
           obtain⟨a,hx,e⟩:=H_ e
           obtain⟨b,hy,e⟩:=H_ e
           obtain⟨c,h',nx',e1,e2⟩:=e_us e
           rw[arr1 hxs,arr1 hts]
           exact zJ
         . cases e
       . cases e
     . split at e
       . rename_i x hxs
         obtain⟨a,hx,e⟩:=H_ e
         obtain⟨c,hc,e⟩:=Bb_ e
         rw[arr1 hxs] at yl ⊢
         exact yl hn e λhf hr=>y_usd (Q_ hf hx) hc
       . cases e
     . cases e
   . rename_i x hx
     simp only at hx e;subst hx
     exact e_call hX hcl e
   . cases e
 . cases e
end
end Go.CE
namespace Go.CE
open Go.SW
noncomputable section
variable {P:Program} {n:Nat} {N:SW.Rest} {H:Hp} {ty:TypeId} {f:Fe} {h:He} {nx:Nat} {G:Gt} {X:Xt} {R:Type}
def OpA (P:Program) (n:Nat) (N:SW.Rest) (H:Hp) (all:List Oper) (f:Fe) (h:He) (nx:Nat) (o:Oper) (c:CV) (h':He) (nx':Nat):Prop:=
 ∀ {β:Be} {L:Ls} {F:Fr},FR β f F->HR β h nx L->∀ K:Fr->Hp->Ls->Prop,(∀ β' v L',VR β' c v->Post β h nx L β' h' nx' L'->K (putO F o.dst v) H L')->Op1 P n N all o K F H L
def gdE (all:List Oper) (f:Fe) (j:Nat) (want:Bool):Option Bool:=match nth all j with
 |some oj=>match oj.dst with
   |some dj=>match f dj with
     |some (.bool b)=>some (b==want)
     |some (.tup [])=>some false
     |_=>none
   |none=>none
 |none=>none
def dB (n:Nat) (d:Option Tmp):Bool:=match d with
 |some d=>Nat.blt d n
 |none=>true
def opV (P:Program) (G:Gt) (X:Xt) (cl:Cl R) (n:Nat) (all:List Oper) (f:Fe) (h:He) (nx:Nat) (o:Oper) (k:Ke R):Option R:=match o with
 | ⟨d,op,_,_,_,g⟩=>bif okD op d&&dB n d then (match g with
   |none=>opF op P G X cl f h nx k
   |some (j,want)=>match gdE all f j want with
     |some true=>opF op P G X cl f h nx k
     |some false=>k (.tup []) h nx
     |none=>none) else none
theorem Ma_ {β:Be}:VR β (.tup []) undef:=by simp only[VR];exact⟨[],rfl, .nil⟩
theorem Mw_ {all:List Oper} {j:Nat} {want b:Bool} {β:Be} {F:Fr} (hg:gdE all f j want=some b) (hf:FR β f F):(b=true/\yF all F j=some (.bool want))\/(b=false/\(yF all F j=some (.bool (!want))\/yF all F j=some undef)):=by
 unfold gdE at hg
 split at hg
 . rename_i oj hoj
   split at hg
   . rename_i dj hdj
     have hyF:yF all F j=some (F dj):=T1_ hoj hdj
     split at hg
     . rename_i b0 hb0
       have :=hf _ _ hb0
       simp only[VR] at this
       simp only[Option.some.injEq] at hg;subst hg
       rw[hyF,this]
       cases b0<;>cases want<;>simp
     . rename_i hb0
       have :=hf _ _ hb0
       simp only[VR] at this
       obtain⟨vs,e1,e2⟩:=this
       rw[e2.nil_inv] at e1
       simp only[Option.some.injEq] at hg;subst hg
       rw[hyF,e1]
       exact .inr ⟨rfl, .inr Y⟩
     . cases hg
   . cases hg
 . cases hg
theorem U2_ {cl:Cl R} {all:List Oper} {o:Oper} {k:Ke R} {r:R} (hG:GH G H) (hX:XOk P X) (hcl:ClOk P N H cl) (e:opV P G X cl n all f h nx o k=some r):∃ c h' nx',k c h' nx'=some r/\OpA P n N H all f h nx o c h' nx':=by
 obtain⟨d,op,ty,pos,af,g⟩:=o;unfold opV at e;simp only at e
 cases hb:(okD op d&&dB n d) with
 |false=>rw[hb] at e;cases e
 |true=>
   rw[hb] at e
   simp only[Bool.and_eq_true] at hb
   obtain⟨h1,h2⟩:=hb
   simp only[cond_true] at e
   have hd:∀ g,dstB n ⟨d,op,ty,pos,af,g⟩=true:=λg=>by cases d<;>exact h2
   simp only[opF_eq] at e
   split at e
   . obtain⟨c,h',nx',e1,e2⟩:=U0_ (ty:=ty) (pos:=pos) (af:=af) (dst:=d) (n:=n) hG hX hcl e h1
     exact⟨c,h',nx',e1,λ{β L F} hf hr K kk=>e2 (hd none) hf hr all K kk⟩
   . rename_i j want
     split at e
     . rename_i hg
       obtain⟨c,h',nx',e1,e2⟩:=U0_ (ty:=ty) (pos:=pos) (af:=af) (dst:=d) (n:=n) hG hX hcl e h1
       refine⟨c,h',nx',e1,λ{β L F} hf hr K kk=>?_⟩
       rcases Mw_ hg hf with ⟨_,h3⟩|⟨h3,_⟩
       . exact Nc_ h3 Y (e2 (hd none) hf hr all K kk)
       . cases h3
     . rename_i hg
       refine⟨_,_,_,e,λ{β L F} hf hr K kk a w ha hm=>?_⟩
       rcases Mw_ hg hf with ⟨h3,_⟩|⟨_,h3⟩
       . cases h3
       . have hnw:¬(Region.wanted ⟨d,op,ty,pos,af,some (j,want)⟩ (yielded all.toArray a.tmps)=true):=by
           rcases h3 with h3|h3
           . simp[Region.wanted,Be_ ha h3]
           . simp[Region.wanted,Cb_ ha h3]
         rw[if_neg hnw]
         exact⟨_,H,L,ha.putO (hd _) undef,hm,kk β undef L Ma_ (.refl hr)⟩
     . cases e
abbrev Ft:=Tr CV
abbrev Kf (R:Type):=Ft->He->Nat->Option R
def setD (f:Ft) (d:Option Tmp) (c:CV) (k:Ft->Option R):Option R:=match d with
 |some d=>Tr.setK 24 f d c k
 |none=>k f
def SetD (f:Ft) (d:Option Tmp) (c:CV) (f':Ft):Prop:=match d with
 |some d=>f'.get d=some c/\∀ j,j≠d->f'.get j=f.get j
 |none=>f'=f
theorem Jz_ {f:Ft} {d:Option Tmp} {c:CV} {k:Ft->Option R} {r:R} (e:setD f d c k=some r):∃ f',k f'=some r/\SetD f d c f':=by
 cases d with
 |none=>exact⟨f,e,rfl⟩
 |some d=>obtain⟨f',e1,e2,e3⟩:=Tr.setK_ok _ _ _ _ _ _ e;exact⟨f',e1,e2,e3⟩
theorem FR.put {β β':Be} {F:Fr} {d:Option Tmp} {c:CV} {f f':Ft} {v:Value} (hf:FR β f.get F) (hl:β.le β') (hv:VR β' c v) (hs:SetD f d c f'):FR β' f'.get (putO F d v):=by
 cases d with
 |none=>cases hs;exact hf.mono hl
 |some d=>
   intro t ct ht
   by_cases e:t=d
   . subst e;rw[hs.1] at ht;cases ht;simp only[putO,Fp_];exact hv
   . rw[hs.2 t e] at ht;simp only[putO,Iv_ _ _ _ _ e];exact (hf t ct ht).mono hl
def opsE (P:Program) (G:Gt) (X:Xt) (cl:Cl R) (n:Nat) (all:List Oper):List Oper->Ft->He->Nat->Kf R->Option R
 |[],f,h,nx,k=>k f h nx
 |o::r,f,h,nx,k=>opV P G X cl n all f.get h nx o λc h nx=>setD f o.dst c λf=>opsE P G X cl n all r f h nx k
theorem Q3_ {cl:Cl R} {all:List Oper} (hG:GH G H) (hX:XOk P X) (hcl:ClOk P N H cl):∀ {rest:List Oper} {f:Ft} {h:He} {nx:Nat} {k:Kf R} {r:R},opsE P G X cl n all rest f h nx k=some r->∃ f' h' nx',k f' h' nx'=some r /\
   ∀ {β:Be} {L:Ls} {F:Fr},FR β f.get F->HR β h nx L->∀ Q:Qt,(∀ β' F' L',FR β' f'.get F'->Post β h nx L β' h' nx' L'->Q .normal F' H L')->Ow P n N all rest Q F H L
 |[],f,h,nx,k,r,e=>⟨f,h,nx,e,λ{β L F} hf hr Q kk=>A3_ (kk β F L hf (.refl hr))⟩
 |o::rest,f,h,nx,k,r,e=>by
   simp only[opsE] at e
   obtain⟨c,h1,nx1,e1,e2⟩:=U2_ (n:=n) hG hX hcl e
   obtain⟨f1,e3,e4⟩:=Jz_ e1
   obtain⟨f',h',nx',e5,e6⟩:=Q3_ hG hX hcl e3
   refine⟨f',h',nx',e5,λ{β L F} hf hr Q kk=>ow1 (e2 hf hr _ λβ' v L' hv hp=>?_)⟩
   exact e6 (hf.put hp.le hv e4) hp.hr Q λβ'' F'' L'' hf'' hp''=>kk β'' F'' L'' hf'' (hp.trans hp'')
end
end Go.CE
namespace Go.CE
open Go.SW
noncomputable section
variable {P:Program} {n:Nat} {N:SW.Rest} {H:Hp} {ty:TypeId} {f:Fe} {h:He} {nx:Nat} {G:Gt} {R:Type}
def tb (x i:Nat):Bool:=Nat.beq (Nat.land (Nat.shiftRight x i) 1) 1
theorem Rz_ (x i:Nat):tb x i=Nat.testBit x i:=by
 unfold tb Nat.testBit;show Nat.beq ((x >>> i) &&& 1) 1=(1 &&& (x >>> i) != 0);rw[Nat.and_comm];have :1 &&& (x >>> i)=(x >>> i)%2:=by rw[Nat.and_comm,Nat.and_one_is_mod]
 rw[this];have :(x >>> i)%2=0\/(x >>> i)%2=1:=by omega
 rcases this with e|e<;>rw[e]<;>rfl
theorem Oh_ {x y i:Nat}:tb (Nat.lor x y) i=(tb x i||tb y i):=by
 simp only[Rz_];exact Nat.testBit_or x y i
theorem R1_ {i j:Nat}:tb (Nat.pow 2 i) j = decide (i=j):=by rw[Rz_];exact Nat.testBit_two_pow
theorem L9_ {i:Nat}:tb 0 i=false:=by rw[Rz_];exact Nat.zero_testBit i
def subB (x y:Nat):Bool:=Nat.beq (Nat.land x y) x
theorem J0_ {x y:Nat} (e:subB x y=true) {j:Nat} (hj:tb x j=true):tb y j=true:=by
 have h:=Nat.eq_of_beq_eq_true e;rw[Rz_] at hj ⊢;rw[<- h] at hj;have :=Nat.testBit_and x y j;rw[show Nat.land x y=x &&& y from rfl,this] at hj;simp only[Bool.and_eq_true] at hj;exact hj.2
abbrev It:=Tr (Oper×Nat)
abbrev Ds:=Tr (Nat×Nat)
def getB (I:It) (j:Nat):Nat:=match I.get j with
 |some (_,b)=>b
 |none=>0
def edB (I:It):List Edge->Nat->Nat
 |[],s=>s
 |e::r,s=>edB I r (bif Region.binds .any e then Nat.lor s (Nat.lor (Nat.pow 2 e.on) (getB I e.on)) else s)
def Bok (I:It) (o:Oper) (b:Nat):Prop:=(∀ e∈o.after.toList,Region.binds .any e=true->tb b e.on=true)/\∀ j,tb b j=true->∃ e∈o.after.toList,Region.binds .any e=true/\(j=e.on\/∃ o' b',I.get e.on=some (o',b')/\tb b' j=true)
theorem Ub_ {I:It}:∀ (es:List Edge) (s:Nat),(∀ j,tb s j=true->tb (edB I es s) j=true)/\(∀ e∈es,Region.binds .any e=true->tb (edB I es s) e.on=true)/\∀ j,tb (edB I es s) j=true->tb s j=true\/∃ e∈es,Region.binds .any e=true/\(j=e.on\/∃ o' b',I.get e.on=some (o',b')/\tb b' j=true)
 |[],s=>⟨λ_ h=>h,(λe h=>by cases h),λ_ h=> .inl h⟩
 |e::r,s=>by
   obtain⟨a1,a2,a3⟩:=Ub_ (I:=I) r (bif Region.binds .any e then Nat.lor s (Nat.lor (Nat.pow 2 e.on) (getB I e.on)) else s)
   simp only[edB]
   refine⟨λj hj=>a1 j ?_,λe' he hb=>?_,λj hj=>?_⟩
   . cases hb:Region.binds .any e with
     |false=>exact hj
     |true=>simp only[cond_true];rw[Oh_,hj];rfl
   . rcases List.mem_cons.1 he with rfl|he
     . rw[hb] at a1 ⊢;refine a1 _ ?_;simp only[cond_true];rw[Oh_,Oh_,R1_];simp
     . exact a2 _ he hb
   . rcases a3 j hj with h|⟨e',h1,h2⟩
     . cases hb:Region.binds .any e with
       |false=>rw[hb] at h;exact .inl h
       |true=>
         rw[hb] at h
         simp only[cond_true] at h
         rw[Oh_,Oh_,R1_] at h
         simp only[Bool.or_eq_true,decide_eq_true_eq] at h
         rcases h with h|h|h
         . exact .inl h
         . exact .inr ⟨e,List.mem_cons_self,hb, .inl h.symm⟩
         . refine .inr ⟨e,List.mem_cons_self,hb, .inr ?_⟩
           unfold getB at h
           split at h
           . rename_i o b hg;exact⟨o,b,hg,h⟩
           . rw[L9_] at h;cases h
     . exact .inr ⟨e',List.mem_cons_of_mem _ h1,h2⟩
inductive OK where
 |v
 |a
 |w
def okO (P:Program) (o:Op):OK:=match o with
 | .alloc _=> .a
 | .box _ _=> .a
 | .buildSlice _ _ _=> .a
 | .call c=>match c.callee with
   | .builtin b=>match b with
     | .len=> .v
     | .cap=> .v
     | .min=> .v
     | .max=> .v
     | .unsafeSliceData=> .v
     |_=> .w
   |_=> .w
 | .convert _ T _=>match P.underlying T with
   |some (.slice _)=> .w
   |_=> .v
 | .move _=> .v
 | .assign _=> .v
 | .pick _ _ _=> .v
 | .build _ _=> .v
 | .load _ _=> .v
 | .nilCheck _=> .v
 | .binOp _ _ _ _ _=> .v
 | .unOp _ _ _=> .v
 | .makeInterface _ _=> .v
 | .makeFunc _ _ _=> .v
 | .slice _ _ _ _ _=> .v
 | .fieldAddr _ _ _=> .v
 | .field _ _ _=> .v
 | .indexAddr _ _ _=> .v
 | .index _ _ _=> .v
 | .extract _ _=> .v
 |_=> .w
def isW:OK->Bool
 | .w=>true
 |_=>false
def Rc_ (P:Program):List Oper->Nat->It->Ds->List Nat->(It->Ds->List Nat->Nat->Option R)->Option R
 |[],i,I,D,ws,k=>k I D ws i
 |o::r,i,I,D,ws,k=>Tr.setK 24 I i (o,edB I o.after.toList 0) λI'=>match o.dst with
   |none=>Rc_ P r (i+1) I' D (bif isW (okO P o.op) then i::ws else ws) k
   |some d=>match D.get d with
     |some _=>none
     |none=>Tr.setK 24 D d (i,edB I o.after.toList 0) λD=>Rc_ P r (i+1) I' D (bif isW (okO P o.op) then i::ws else ws) k
structure PI (all:List Oper) (I:It) (D:Ds) (i:Nat):Prop where
 a:∀ j o b,I.get j=some (o,b)->j<i/\all[j]? = some o/\Bok I o b
 b:∀ j o,j<i->all[j]? = some o->∃ b,I.get j=some (o,b)
 c:∀ j o d,j<i->all[j]? = some o->o.dst=some d->∃ b,D.get d=some (j,b)/\I.get j=some (o,b)
theorem PI.one {all:List Oper} {I I':It} {D:Ds} {i:Nat} {o:Oper} (hp:PI all I D i) (ho:all[i]? = some o) (h1:I'.get i=some (o,edB I o.after.toList 0)) (h2:∀ j,j≠i->I'.get j=I.get j) :
   (∀ j o b,I'.get j=some (o,b)->j<i+1/\all[j]? = some o/\Bok I' o b)/\(∀ j o,j<i+1->all[j]? = some o->∃ b,I'.get j=some (o,b))/\(∀ j x,I.get j=some x->I'.get j=some x):=by
 have hmono:∀ j x,I.get j=some x->I'.get j=some x:=λj x e=>by
   have :j≠i:=λq=>by subst q;have :=(hp.a _ x.1 x.2 e).1;omega
   rw[h2 j this];exact e
 have hbok:∀ {o b},Bok I o b->Bok I' o b:=λ{o b} hb=>⟨hb.1,λj hj=>by
   obtain⟨e,e1,e2,e3⟩:=hb.2 j hj
   refine⟨e,e1,e2,e3.imp id λ⟨o',b',q1,q2⟩=>⟨o',b',hmono _ _ q1,q2⟩⟩⟩
 refine⟨λj o' b e=>?_,λj o' hj e=>?_,hmono⟩;by_cases q:j=i
 . subst q
   rw[h1] at e;simp only[Option.some.injEq,Prod.mk.injEq] at e;obtain⟨rfl,rfl⟩:=e
   obtain⟨_,a2,a3⟩:=Ub_ (I:=I) o.after.toList 0
   refine⟨by omega,ho,hbok ⟨a2,λj hj=>?_⟩⟩
   rcases a3 j hj with z|z
   . rw[L9_] at z;cases z
   exact z
 rw[h2 j q] at e;obtain⟨a1,a2,a3⟩:=hp.a j o' b e;exact⟨by omega,a2,hbok a3⟩;by_cases q:j=i
 . subst q;rw[ho] at e;cases e;exact⟨_,h1⟩
 obtain⟨b,e1⟩:=hp.b j o' xN e;exact⟨b,hmono _ _ e1⟩
theorem Jo_ {all:List Oper}:∀ {rest:List Oper} {i:Nat} {I:It} {D:Ds} {ws:List Nat} {k:It->Ds->List Nat->Nat->Option R} {r:R},(∀ j,rest[j]? = all[i+j]?)->i+rest.length=all.length->PI all I D i->Rc_ P rest i I D ws k=some r->∃ I' D' ws',k I' D' ws' all.length=some r/\PI all I' D' all.length
 |[],i,I,D,ws,k,r,_,hl,hp,e=>by
   simp only[List.length_nil,Nat.add_zero] at hl;subst hl;exact⟨I,D,ws,e,hp⟩
 |o::rest,i,I,D,ws,k,r,hr,hl,hp,e=>by
   have ho:all[i]? = some o:=by have :=hr 0;simpa using this.symm
   have hr':∀ j,rest[j]? = all[i+1+j]? :=λj=>by have :=hr (j+1);rw[show i+1+j=i+(j+1) by omega];simpa using this
   have hl':i+1+rest.length=all.length:=by simp only[List.length_cons] at hl;omega
   simp only[Rc_] at e
   obtain⟨I',e1,h1,h2⟩:=Tr.setK_ok _ _ _ _ _ _ e
   obtain⟨a1,a2,a3⟩:=hp.one ho h1 h2
   split at e1
   . rename_i hd
     refine Jo_ hr' hl' ⟨a1,a2,λj o' d hj ho' hd'=>?_⟩ e1
     by_cases q:j=i
     . subst q;rw[ho] at ho';cases ho';rw[hd] at hd';cases hd'
     . obtain⟨b,b1,b2⟩:=hp.c j o' d xN ho' hd';exact⟨b,b1,a3 _ _ b2⟩
   . rename_i d hd
     split at e1
     . cases e1
     . rename_i hD
       obtain⟨D',e2,h3,h4⟩:=Tr.setK_ok _ _ _ _ _ _ e1
       refine Jo_ hr' hl' ⟨a1,a2,λj o' d' hj ho' hd'=>?_⟩ e2
       by_cases q:j=i
       . subst q;rw[ho] at ho';cases ho';rw[hd] at hd';cases hd';exact⟨_,h3,h1⟩
       . obtain⟨b,b1,b2⟩:=hp.c j o' d' xN ho' hd'
         have :d'≠d:=λz=>by subst z;rw[hD] at b1;cases b1
         exact⟨b,by rw[h4 _ this];exact b1,a3 _ _ b2⟩
def bitsE:Nat->Nat->List Nat->List Nat
 |0,_,acc=>acc
 |fu+1,x,acc=>bif Nat.beq x 0 then acc else bitsE fu (Nat.sub x (Nat.pow 2 (Nat.log2 x))) (Nat.log2 x::acc)
def planE (I:It) (m:Nat):List Nat->Nat->List Nat->List Nat
 |[],todo,acc=>bitsE m todo acc
 |w::ws,todo,acc=>planE I m ws (Nat.land todo (getB I w)) (w::bitsE m (Nat.sub todo (Nat.lor (Nat.land todo (getB I w)) (Nat.pow 2 w))) acc)
end
end Go.CE
namespace Go.CE
open Go.SW
noncomputable section
variable {P:Program} {n:Nat} {N:SW.Rest} {H:Hp} {ty:TypeId} {f:Fe} {h:He} {nx:Nat} {G:Gt} {R:Type}
def Dl_ (f:Fe) (x:Operand) (k:CV->Option R):Option R:=match ef f x with
 |some a=>k a
 |none=>none
theorem Am_ {x:Operand} {k:CV->Option R} {r:R} (e:Dl_ f x k=some r):∃ a,ef f x=some a/\k a=some r:=H_ e
def opQ (P:Program) (G:Gt) (f:Fe) (h:He) (o:Op):Option CV:=match o with
 | .move x=>ef f x
 | .assign x=>ef f x
 | .pick c x y=>match ef f c with
   |some (.bool b)=>ef f (bif b then x else y)
   |_=>none
 | .build T ps=>match efps f ps.toList with
   |some qs=>J6_ P T qs
   |none=>none
 | .load T x=>Dl_ f x λa=>ldE P G h T a
 | .nilCheck x=>Dl_ f x λa=>nilE a
 | .binOp op T x y _=>Dl_ f x λa=>Dl_ f y λb=>binE P op T x y a b
 | .unOp op _ x=>Dl_ f x λa=>unE op a
 | .convert T T' x=>Dl_ f x λa=>cvaE P h T T' a
 | .makeInterface T x=>Dl_ f x λa=>ifE P T a
 | .makeFunc fn ps qs=>match fn with
   | .func g=>match efs f ps.toList with
     |some a=>match efs f qs.toList with
       |some b=>some (.fn g a b)
       |none=>none
     |none=>none
   |_=>none
 | .slice T x lo hi mx=>Dl_ f x λa=>match onE f lo with
   |some l=>match onE f hi with
     |some u=>match onE f mx with
       |some m=>slE P T a l u m
       |none=>none
     |none=>none
   |none=>none
 | .fieldAddr T x i=>Dl_ f x λa=>faE P T i a
 | .field T x i=>Dl_ f x λa=>Kf_ P T i a
 | .indexAddr T x y=>Dl_ f x λa=>Dl_ f y λb=>iaE P T a b
 | .index T x y=>Dl_ f x λa=>Dl_ f y λb=>ixE P T a b
 | .extract x i=>Dl_ f x λa=>exE a i
 | .call c=>match c.callee with
   | .builtin b=>match b with
     | .len=>match c.args.toList with
       |[x]=>match c.argTypes.toList with
         |[T]=>Dl_ f x λa=>lenE P T a
         |_=>none
       |_=>none
     | .cap=>match c.args.toList with
       |[x]=>match c.argTypes.toList with
         |[T]=>Dl_ f x λa=>capE P T a
         |_=>none
       |_=>none
     | .min=>match efs f c.args.toList with
       |some cs=>mmE .min cs
       |none=>none
     | .max=>match efs f c.args.toList with
       |some cs=>mmE .max cs
       |none=>none
     | .unsafeSliceData=>match c.args.toList with
       |[x]=>Dl_ f x λa=>usdE a
       |_=>none
     |_=>none
   |_=>none
 |_=>none
theorem U1_ {op:Op} {c:CV} (hG:GH G H) (e:opQ P G f h op=some c) {β:Be} {L:Ls} {F:Fr} (hf:FR β f F) (hr:HR β h nx L):Yl P N F H L β op ty c:=by
 unfold opQ at e
 split at e
 exact y_mv (Q_ hf e);exact y_as (Q_ hf e)
 . split at e
   . rename_i b hb
     exact Nv_ (Q_ hf hb) (Q_ hf e)
   . cases e
 . rename_i T ps
   split at e
   . rename_i qs hq
     have :=J2_ (P:=P) (N:=N) (H:=H) (L:=L) (ty:=ty) hf hq e
     exact yS
   . cases e
 obtain⟨a,hx,e⟩:=Am_ e;exact y_ld hG hr (Q_ hf hx) e;obtain⟨a,hx,e⟩:=Am_ e;exact T4_ (Q_ hf hx) e;obtain⟨a,hx,e⟩:=Am_ e;obtain⟨b,hy,e⟩:=Am_ e;exact P8_ (Q_ hf hx) (Q_ hf hy) e;obtain⟨a,hx,e⟩:=Am_ e;exact Ux_ (Q_ hf hx) e
 . obtain⟨a,hx,hc⟩:=Am_ e
   unfold cvaE at hc
   split at hc
   exact yB
   . split at hc
     exact yC
     exact y_up hr (Q_ hf hx) hc
 obtain⟨a,hx,e⟩:=Am_ e;exact y_if (Q_ hf hx) e
 . rename_i fn ps qs
   split at e
   . rename_i g
     split at e
     . rename_i a ha
       split at e
       . rename_i b hb
         simp only[Option.some.injEq] at e;subst e
         exact zQ
       . cases e
     . cases e
   . cases e
 . obtain⟨a,hx,e⟩:=Am_ e
   split at e
   . rename_i l hl
     split at e
     . rename_i u hu
       split at e
       . rename_i m hm
         exact y_sl hf (Q_ hf hx) hl hu hm e
       . cases e
     . cases e
   . cases e
 obtain⟨a,hx,e⟩:=Am_ e;exact y_fa (Q_ hf hx) e;obtain⟨a,hx,e⟩:=Am_ e;exact R9_ (Q_ hf hx) e;obtain⟨a,hx,e⟩:=Am_ e;obtain⟨b,hy,e⟩:=Am_ e;exact y_ia (Q_ hf hx) (Q_ hf hy) e;obtain⟨a,hx,e⟩:=Am_ e;obtain⟨b,hy,e⟩:=Am_ e;exact y_ix (Q_ hf hx) (Q_ hf hy) e;obtain⟨a,hx,e⟩:=Am_ e;exact y_ex (Q_ hf hx) e
 . rename_i c0
   obtain⟨callee,xs,ats⟩:=c0
   split at e
   . rename_i b hb
     simp only at hb e;subst hb
     split at e
     . split at e
       . rename_i x hxs
         split at e
         . rename_i T hts
           obtain⟨a,hx,e⟩:=Am_ e
           rw[arr1 hxs,arr1 hts]
           exact T3_ (Q_ hf hx) e
         . cases e
       . cases e
     . split at e
       . rename_i x hxs
         split at e
         . rename_i T hts
           obtain⟨a,hx,e⟩:=Am_ e
           rw[arr1 hxs,arr1 hts]
           exact y_cap (Q_ hf hx) e
         . cases e
       . cases e
     . split at e
       exact yD
       . cases e
     . split at e
       exact yD
       . cases e
     . split at e
       . rename_i x hxs
         obtain⟨a,hx,e⟩:=Am_ e
         rw[arr1 hxs]
         exact y_usd (Q_ hf hx) e
       . cases e
     . cases e
   . cases e
 . cases e
def Qf_ (o:Op):Bool:=match o with
 | .load _ _=>true
 | .convert _ _ _=>true
 |_=>false
theorem Ta_ {op:Op} (h':He) (e:Qf_ op=false):opQ P G f h op=opQ P G f h' op:=by
 cases op<;>first|rfl|cases e
def OpQ (P:Program) (n:Nat) (N:SW.Rest) (H:Hp) (all:List Oper) (f:Fe) (h:He) (o:Oper) (c:CV):Prop:=
 ∀ {β:Be} {L:Ls} {F:Fr} {nx:Nat},FR β f F->HR β h nx L->∀ K:Fr->Hp->Ls->Prop,(∀ v,VR β c v->K (putO F o.dst v) H L)->Op1 P n N all o K F H L
def opQV (P:Program) (G:Gt) (n:Nat) (all:List Oper) (f:Fe) (h:He) (o:Oper):Option CV:=match o.dst with
 | some d=>bif Nat.blt d n then (match o.guard with
   |none=>opQ P G f h o.op
   |some (j,want)=>match gdE all f j want with
     |some true=>opQ P G f h o.op
     |some false=>some (.tup [])
     |none=>none) else none
 |none=>none
theorem Q2_ {all:List Oper} {o:Oper} (h':He) (e:Qf_ o.op=false):opQV P G n all f h o=opQV P G n all f h' o:=by
 unfold opQV;simp only[Ta_ (P:=P) (G:=G) (f:=f) (h:=h) h' e]
theorem Hp_ {all:List Oper} {o:Oper} {c:CV} (hG:GH G H) (e:opQV P G n all f h o=some c):OpQ P n N H all f h o c:=by
 obtain⟨d,op,ty,pos,af,g⟩:=o;intro β L F nx hf hr K kk;unfold opQV at e;simp only at e
 split at e
 . rename_i d0
   cases hb:Nat.blt d0 n with
   |false=>rw[hb] at e;cases e
   |true=>
     rw[hb] at e
     simp only[cond_true] at e
     split at e
     . obtain⟨v,h1,h2⟩:=U1_ (N:=N) (ty:=ty) hG e hf hr
       exact E9_ hb h2 (kk v h1)
     . rename_i j want
       cases hg:gdE all f j want with
       |none=>rw[hg] at e;cases e
       |some b=>
         rw[hg] at e
         rcases Mw_ hg hf with ⟨rfl,h3⟩|⟨rfl,h3⟩
         . obtain⟨v,h1,h2⟩:=U1_ (N:=N) (ty:=ty) hG e hf hr
           exact Nc_ h3 Y (E9_ hb h2 (kk v h1))
         . simp only[Option.some.injEq] at e;subst e
           intro a w ha hm
           have hnw:¬(Region.wanted ⟨some d0,op,ty,pos,af,some (j,want)⟩ (yielded all.toArray a.tmps)=true):=by
             rcases h3 with h3|h3
             . simp[Region.wanted,Be_ ha h3]
             . simp[Region.wanted,Cb_ ha h3]
           rw[if_neg hnw]
           exact⟨_,H,L,ha.put (by simpa using hb) undef,hm,kk undef Ma_⟩
 . cases e
def opA (P:Program) (f:Fe) (j:Nat) (o:Op):Option (CV×HB):=match o with
 | .alloc T=>match H5_ P T with
   |some cs=>match mkB P T cs with
     |some hb=>some (.ptr j 0,hb)
     |none=>none
   |none=>none
 | .box T x=>match ef f x with
   |some a=>match G1_ a with
     |some cs=>match mkB P T cs with
       |some hb=>some (.ptr j 0,hb)
       |none=>none
     |none=>none
   |none=>none
 | .buildSlice T len ps=>match P.underlying T with
   |some (.slice e)=>match szE P e with
     |some m=>match H5_ P e with
       |some _=>match efps f ps.toList with
         |some qs=>match ordE m 0 qs with
           | some cs=>bif Nat.beq qs.length len&&Nat.ble (len*m) 16777216 then (match mkB P e cs with
             |some hb=>some (.sl j 0 len len,hb)
             |none=>none) else none
           |none=>none
         |none=>none
       |none=>none
     |none=>none
   |_=>none
 |_=>none
def AOk (P:Program) (n:Nat) (N:SW.Rest) (H:Hp) (all:List Oper) (f:Fe) (j:Nat) (o:Oper) (c:CV) (hb:HB):Prop:=
 ∀ {β:Be} {L:Ls} {F:Fr},FR β f F->β j=none->∀ K:Fr->Hp->Ls->Prop,(∀ q x v,VR (bset β j q) c v->BR (bset β j q) j hb x->K (putO F o.dst v) H (lupd L j x))->Op1 P n N all o K F H L
def opAV (P:Program) (n:Nat) (all:List Oper) (f:Fe) (j:Nat) (o:Oper):Option (CV×HB):=match o.dst with
 | some d=>bif Nat.blt d n then (match o.guard with
   |none=>opA P f j o.op
   |some (i,want)=>match gdE all f i want with
     |some true=>opA P f j o.op
     |some false=>some (.tup [], .dead)
     |none=>none) else none
 |none=>none
theorem Q1_ {all:List Oper} {d0:Tmp} {op:Op} {pos:String} {af:Array Edge} {j:Nat} {c:CV} {hb:HB} (hd:Nat.blt d0 n=true) (e:opA P f j op=some (c,hb)):AOk P n N H all f j ⟨some d0,op,ty,pos,af,none⟩ c hb:=by
 intro β L F hf hj K kk;have hle:∀ q,β.le (bset β j q):=λq=>B0_ hj;unfold opA at e
 split at e
 . split at e
   . rename_i cs hz
     split at e
     . rename_i hb0 hB
       simp only[Option.some.injEq,Prod.mk.injEq] at e;obtain⟨rfl,rfl⟩:=e
       obtain⟨zv,z1,z2⟩:=Cc_ (β:=β) hz
       refine Ec_ (cs:=zv.cells.toList) j hd (λw=>⟨zv,z1 w,by simp⟩) λb=>?_
       exact kk ⟨b,0,zv.cells.toList.length⟩ _ _ wP (Ks_ hB (z2.mono (hle _)) J_)
     . cases e
   . cases e
 . rename_i T x
   split at e
   . rename_i a hx
     split at e
     . rename_i cs hc
       split at e
       . rename_i hb0 hB
         simp only[Option.some.injEq,Prod.mk.injEq] at e;obtain⟨rfl,rfl⟩:=e
         have hv:=C5_ hc (Q_ hf hx)
         intro ac w ha hm
         rw[if_pos xR]
         unfold Oper.wp
         have :(execOp ac.eval ⟨some d0, .box T x,ty,pos,af,none⟩).run P w = .ok (.value (.pointer (some ⟨w.heap.size,0,none⟩))) {w with heap:=w.heap.push (bx T (ev F x).cells.toList)}:=by
           rw[ha.eval]
           simp[execOp,Instr.box,newVar,newRow,bx]
         rw[this]
         exact⟨_,H,_,ha.put xU _,hm.push j _,kk ⟨w.heap.size,0,(ev F x).cells.toList.length⟩ _ _ wP (Ks_ hB (hv.mono (hle _)) J_)⟩
       . cases e
     . cases e
   . cases e
 . rename_i T len ps
   split at e
   . rename_i e0 hT
     split at e
     . rename_i m hm
       split at e
       . rename_i zs hz
         split at e
         . rename_i qs hq
           split at e
           . rename_i cs hc
             cases hb0:(Nat.beq qs.length len&&Nat.ble (len*m) 16777216) with
             |false=>rw[hb0] at e;cases e
             |true=>
               rw[hb0] at e
               simp only[Bool.and_eq_true] at hb0
               simp only[cond_true] at e
               split at e
               . rename_i hb1 hB
                 simp only[Option.some.injEq,Prod.mk.injEq] at e;obtain⟨rfl,rfl⟩:=e
                 have hp:=I6_ hf hq
                 obtain⟨a1,a2,a3⟩:=Lx_ hc hp
                 obtain⟨zv,z1,_⟩:=Cc_ (β:=β) hz
                 have :=Er_ (P:=P) (n:=n) (N:=N) (ty:=ty) (F:=F) (H:=H) (L:=L) (K:=K) (pos:=pos) (af:=af) (ops:=all) (ps:=ps.toList) j hd hT (A0_ hm) ⟨zv,z1⟩ Y a1 (by rw[a3];exact Nat.eq_of_beq_eq_true hb0.1) Y (Nat.le_of_ble_eq_true hb0.2) λb=>kk ⟨b,0,_⟩ _ _ wP (Ks_ hB (a2.mono (hle _)) J_)
                 exact yS
               . cases e
           . cases e
         . cases e
       . cases e
     . cases e
   . cases e
 . cases e
theorem opA_ok {all:List Oper} {o:Oper} {j:Nat} {c:CV} {hb:HB} (e:opAV P n all f j o=some (c,hb)):AOk P n N H all f j o c hb:=by
 obtain⟨d,op,ty,pos,af,g⟩:=o;intro β L F hf hj K kk;unfold opAV at e;simp only at e
 split at e
 . rename_i d0
   cases hd:Nat.blt d0 n with
   |false=>rw[hd] at e;cases e
   |true=>
     rw[hd] at e
     simp only[cond_true] at e
     split at e
     . exact Q1_ hd e hf hj K kk
     . rename_i i want
       cases hg:gdE all f i want with
       |none=>rw[hg] at e;cases e
       |some b=>
         rw[hg] at e
         rcases Mw_ hg hf with ⟨rfl,h3⟩|⟨rfl,h3⟩
         . exact Nc_ h3 Y (Q1_ hd e hf hj K kk)
         . simp only[Option.some.injEq,Prod.mk.injEq] at e;obtain⟨rfl,rfl⟩:=e
           intro a w ha hm
           have hnw:¬(Region.wanted ⟨some d0,op,ty,pos,af,some (i,want)⟩ (yielded all.toArray a.tmps)=true):=by
             rcases h3 with h3|h3
             . simp[Region.wanted,Be_ ha h3]
             . simp[Region.wanted,Cb_ ha h3]
           rw[if_neg hnw]
           exact⟨_,H,lupd L j none,ha.put xU undef,hm.clear j,kk ⟨0,0,0⟩ none undef Ma_ Y⟩
 . cases e
end
end Go.CE
namespace Go.CE
open Go.SW
noncomputable section
variable {P:Program} {n:Nat} {N:SW.Rest} {H:Hp} {f:Fe} {h h0:He} {nx n0 base:Nat} {G:Gt} {X:Xt} {R:Type} {all:List Oper} {I:It} {D:Ds} {f0:Ft}
mutual
def cvB:CV->CV->Bool
 | .int k z, .int k' z'=>decide (k=k') && decide (z=z')
 | .bool b, .bool b'=>b==b'
 | .str n x, .str m y=>Nat.beq n m&&Nat.beq x y
 | .agg a, .agg b=>cvsB a b
 | .tup a, .tup b=>cvsB a b
 | .ptr i o, .ptr j p=>Nat.beq i j&&Nat.beq o p
 | .gp i o, .gp j p=>Nat.beq i j&&Nat.beq o p
 | .nilp, .nilp=>true
 | .sl i o l c, .sl j p m d=>Nat.beq i j&&(Nat.beq o p&&(Nat.beq l m&&Nat.beq c d))
 | .slu i o l c, .slu j p m d=>Nat.beq i j&&(Nat.beq o p&&(Nat.beq l m&&Nat.beq c d))
 | .nils, .nils=>true
 | .fn f a b, .fn g c d=>Nat.beq f g&&(cvsB a c&&cvsB b d)
 | .nilf, .nilf=>true
 | .mp i, .mp j=>Nat.beq i j
 | .nilm, .nilm=>true
 | .nili, .nili=>true
 |_,_=>false
def cvsB:List CV->List CV->Bool
 |[],[]=>true
 |a::r,b::s=>cvB a b&&cvsB r s
 |_,_=>false
end
mutual
theorem J8_:∀ {a b:CV},cvB a b=true->a=b
 | .int k z,b,e=>by cases b<;>simp only[cvB,Bool.and_eq_true,decide_eq_true_eq,reduceCtorEq] at e;rw[e.1,e.2]
 | .bool x,b,e=>by cases b<;>simp only[cvB,reduceCtorEq,beq_iff_eq] at e;rw[e]
 | .str n x,b,e=>by
   exact zC
 | .agg a,b,e=>by cases b<;>simp only[cvB,reduceCtorEq] at e;rw[E3_ e]
 | .tup a,b,e=>by cases b<;>simp only[cvB,reduceCtorEq] at e;rw[E3_ e]
 | .ptr i o,b,e=>by
   exact zC
 | .gp i o,b,e=>by
   exact zC
 | .nilp,b,e=>by cases b<;>simp only[cvB,reduceCtorEq] at e;rfl
 | .sl i o l c,b,e=>by
   exact zB
 | .slu i o l c,b,e=>by
   exact zB
 | .nils,b,e=>by cases b<;>simp only[cvB,reduceCtorEq] at e;rfl
 | .fn f x y,b,e=>by
   cases b<;>simp only[cvB,Bool.and_eq_true,reduceCtorEq] at e
   rw[Nat.eq_of_beq_eq_true e.1,E3_ e.2.1,E3_ e.2.2]
 | .nilf,b,e=>by cases b<;>simp only[cvB,reduceCtorEq] at e;rfl
 | .mp i,b,e=>by cases b<;>simp only[cvB,reduceCtorEq] at e;rw[Nat.eq_of_beq_eq_true e]
 | .nilm,b,e=>by cases b<;>simp only[cvB,reduceCtorEq] at e;rfl
 | .ifc _ _,b,e=>by cases b<;>simp only[cvB,reduceCtorEq] at e
 | .nili,b,e=>by cases b<;>simp only[cvB,reduceCtorEq] at e;rfl
theorem E3_:∀ {a b:List CV},cvsB a b=true->a=b
 |[],b,e=>by cases b<;>simp only[cvsB,reduceCtorEq] at e;rfl
 |x::r,b,e=>by
   cases b with
   |nil=>simp only[cvsB,reduceCtorEq] at e
   |cons y s=>simp only[cvsB,Bool.and_eq_true] at e;rw[J8_ e.1,E3_ e.2]
end
def chkV (P:Program) (G:Gt) (n:Nat) (all:List Oper) (f:Fe) (o:Oper) (b:Nat) (h0:He):List (Nat×He)->Option CV
 |[]=>opQV P G n all f h0 o
 |(w,h)::r=>match opQV P G n all f h o with
   | some c=>bif tb b w then some c else (match chkV P G n all f o b h0 r with
     |some d=>bif cvB c d then some c else none
     |none=>none)
   |none=>none
def valV (P:Program) (G:Gt) (n:Nat) (all:List Oper) (f:Fe) (o:Oper) (b:Nat) (h0:He) (vs:List (Nat×He)):Option CV:=bif Qf_ o.op then chkV P G n all f o b h0 vs else opQV P G n all f h0 o
def mskE (D:Ds) (i b:Nat) (f:Ft):Fe:=λt=>match D.get t with
 |none=>f.get t
 |some (j,bj)=>bif Nat.beq j i||(tb b j||tb bj i) then f.get t else none
def segE (P:Program) (G:Gt) (X:Xt) (cl:Cl R) (n base:Nat) (all:List Oper) (I:It) (D:Ds) (h0:He):List Nat->Ft->He->Nat->List (Nat×He)->Nat->Kf R->Option R
 |[],f,h,nx,_,pb,k=>bif subB (Nat.sub (Nat.pow 2 all.length) 1) pb then k f h nx else none
 |i::r,f,h,nx,vs,pb,k=>match I.get i with
   | some (o,b)=>bif tb pb i then none else bif subB b pb then (match okO P o.op with
     | .v=>match valV P G n all (mskE D i b f) o b h0 vs with
       |some c=>setD f o.dst c λf=>segE P G X cl n base all I D h0 r f h nx vs (Nat.lor pb (Nat.pow 2 i)) k
       |none=>none
     | .a=>match opAV P n all (mskE D i b f) (base+i) o with
       |some (c,hb)=>Tr.setK 40 h (base+i) hb λh=>setD f o.dst c λf=>segE P G X cl n base all I D h0 r f h nx vs (Nat.lor pb (Nat.pow 2 i)) k
       |none=>none
     | .w=>bif subB pb b then opV P G X cl n all (mskE D i b f) h nx o λc h nx=>setD f o.dst c λf=>segE P G X cl n base all I D h0 r f h nx ((i,h)::vs) (Nat.lor pb (Nat.pow 2 i)) k else none) else none
   |none=>none
structure Rec where
 i:Nat
 o:Oper
 b:Nat
 c:CV
 h:He
 nx:Nat
 hb:HB
def hcur (h0:He):List Rec->He
 |[]=>h0
 |q::_=>q.h
def ncur (n0:Nat):List Rec->Nat
 |[]=>n0
 |q::_=>q.nx
def vOf (P:Program):List Rec->List (Nat×He)
 |[]=>[]
 |q::r=>match okO P q.o.op with
   | .w=>(q.i,q.h)::vOf P r
   |_=>vOf P r
def G0_ (P:Program) (n:Nat) (N:SW.Rest) (H:Hp) (all:List Oper) (h0:He) (fe:Fe) (o:Oper) (b:Nat) (c:CV):List Rec->Prop
 |[]=>OpQ P n N H all fe h0 o c
 |q::r=>match okO P q.o.op with
   | .w=>OpQ P n N H all fe q.h o c/\(tb b q.i=true\/G0_ P n N H all h0 fe o b c r)
   |_=>G0_ P n N H all h0 fe o b c r
theorem I2_ {o:Oper} {b:Nat} (hG:GH G H):∀ {pre:List Rec} {c:CV},chkV P G n all f o b h0 (vOf P pre)=some c->G0_ P n N H all h0 f o b c pre
 |[],c,e=>Hp_ hG e
 |q::r,c,e=>by
   unfold vOf at e
   unfold G0_
   split at e
   . rename_i ho
     simp only[chkV] at e
     split at e
     . rename_i c0 hc
       cases hb:tb b q.i with
       |true=>
         rw[hb] at e;simp only[cond_true,Option.some.injEq] at e;subst e
         exact⟨Hp_ hG hc, .inl Y⟩
       |false=>
         rw[hb] at e;simp only[cond_false] at e
         split at e
         . rename_i d hd
           cases hcd:cvB c0 d with
           |false=>rw[hcd] at e;cases e
           |true=>
             rw[hcd] at e;simp only[cond_true,Option.some.injEq] at e;subst e
             have :=J8_ hcd;subst this
             exact⟨Hp_ hG hc, .inr (I2_ hG hd)⟩
         . cases e
     . cases e
   . rename_i ho
     cases hk:okO P q.o.op with
     |w=>exact absurd hk ho
     |v=>exact I2_ hG e
     |a=>exact I2_ hG e
theorem Jw_ {o:Oper} {b:Nat} (hG:GH G H) {c:CV} (hl:Qf_ o.op=false) (e:opQV P G n all f h0 o=some c):∀ {pre:List Rec},G0_ P n N H all h0 f o b c pre
 |[]=>Hp_ hG e
 |q::r=>by
   unfold G0_
   cases hk:okO P q.o.op with
   |w=>exact⟨Hp_ hG ((Q2_ (h:=q.h) h0 hl).trans e), .inr (Jw_ hG hl e)⟩
   |v=>exact Jw_ hG hl e
   |a=>exact Jw_ hG hl e
theorem valV_ok {o:Oper} {b:Nat} (hG:GH G H) {pre:List Rec} {c:CV} (e:valV P G n all f o b h0 (vOf P pre)=some c):G0_ P n N H all h0 f o b c pre:=by
 unfold valV at e
 cases hl:Qf_ o.op with
 |true=>rw[hl] at e;exact I2_ hG e
 |false=>rw[hl] at e;exact Jw_ hG hl e
def Fok (all:List Oper) (I:It) (f0:Ft) (pre:List Rec) (i b:Nat) (fe:Fe):Prop:=
 ∀ t c,fe t=some c->(∃ q∈pre,q.o.dst=some t/\q.c=c/\tb b q.i=true)\/(f0.get t=some c/\∀ j o bj,I.get j=some (o,bj)->o.dst=some t->j=i\/tb bj i=true)
def Kind (P:Program) (n:Nat) (N:SW.Rest) (H:Hp) (all:List Oper) (base n0:Nat) (h0:He) (pre:List Rec) (x:Rec) (fe:Fe):Prop:=match okO P x.o.op with
 | .v=>x.h=hcur h0 pre/\x.nx=ncur n0 pre/\G0_ P n N H all h0 fe x.o x.b x.c pre
 | .a=>x.nx=ncur n0 pre/\AOk P n N H all fe (base+x.i) x.o x.c x.hb/\x.h.get (base+x.i)=some x.hb/\∀ j,j≠base+x.i->x.h.get j=(hcur h0 pre).get j
 | .w=>(∀ q∈pre,tb x.b q.i=true)/\OpA P n N H all fe (hcur h0 pre) (ncur n0 pre) x.o x.c x.h x.nx
structure Loc (P:Program) (n:Nat) (N:SW.Rest) (H:Hp) (all:List Oper) (I:It) (f0:Ft) (base n0:Nat) (h0:He) (pre:List Rec) (x:Rec):Prop where
 g:I.get x.i=some (x.o,x.b)
 u:∀ q∈pre,q.i≠x.i
 s:∀ j,tb x.b j=true->∃ q∈pre,q.i=j
 k:∃ fe,Fok all I f0 pre x.i x.b fe/\Kind P n N H all base n0 h0 pre x fe
def Good (P:Program) (n:Nat) (N:SW.Rest) (H:Hp) (all:List Oper) (I:It) (f0:Ft) (base n0:Nat) (h0:He):List Rec->Prop
 |[]=>True
 |x::pre=>Good P n N H all I f0 base n0 h0 pre/\Loc P n N H all I f0 base n0 h0 pre x
theorem Fw_ {full:List Rec} (hg:Good P n N H all I f0 base n0 h0 full) {x:Rec} (hx:x∈full):∃ pre,(x::pre) <:+ full/\Loc P n N H all I f0 base n0 h0 pre x:=by
 induction full with
 |nil=>cases hx
 |cons y r ih=>
   rcases List.mem_cons.1 hx with rfl|hx
   . exact⟨r,List.suffix_refl _,hg.2⟩
   . obtain⟨pre,h1,h2⟩:=ih hg.1 hx
     exact⟨pre,h1.trans (List.suffix_cons _ _),h2⟩
theorem Jc_ {full:List Rec} (hg:Good P n N H all I f0 base n0 h0 full) {x:Rec} {pre:List Rec} (hx:(x::pre) <:+ full):Loc P n N H all I f0 base n0 h0 pre x:=by
 obtain⟨s,rfl⟩:=hx
 induction s with
 |nil=>exact hg.2
 |cons y s ih=>exact ih hg.1
theorem Cx_ {full:List Rec} (hg:Good P n N H all I f0 base n0 h0 full) {x y:Rec} (hx:x∈full) (hy:y∈full) (e:x.i=y.i):x=y:=by
 induction full with
 |nil=>cases hx
 |cons z r ih=>
   rcases List.mem_cons.1 hx with h1|h1<;>rcases List.mem_cons.1 hy with h2|h2
   . rw[h1,h2]
   . subst h1;exact absurd e.symm (hg.2.u y h2)
   . subst h2;exact absurd e (hg.2.u x h1)
   . exact ih hg.1 h1 h2
structure SR (P:Program) (f0:Ft) (pre:List Rec) (f:Ft) (vs:List (Nat×He)) (pb:Nat):Prop where
 f:∀ t c,f.get t=some c->(∃ q∈pre,q.o.dst=some t/\q.c=c)\/(f0.get t=some c/\∀ q∈pre,q.o.dst≠some t)
 vs:vs=vOf P pre
 pb:∀ j,tb pb j=true↔∃ q∈pre,q.i=j
theorem SR.put {pre:List Rec} {f f':Ft} {vs vs':List (Nat×He)} {pb:Nat} (hs:SR P f0 pre f vs pb) {x:Rec} (h1:SetD f x.o.dst x.c f') (h2:vs'=vOf P (x::pre)):SR P f0 (x::pre) f' vs' (Nat.lor pb (Nat.pow 2 x.i)):=by
 refine⟨λt c e=>?_,h2,λj=>?_⟩
 . cases hd:x.o.dst with
   |none=>
     rw[hd] at h1;simp only[SetD] at h1;subst h1
     rcases hs.f t c e with ⟨q,q1,q2⟩|⟨q1,q2⟩
     . exact .inl ⟨q,List.mem_cons_of_mem _ q1,q2⟩
     . exact .inr ⟨q1,λq hq=>by rcases List.mem_cons.1 hq with rfl|hq;(rw[hd];simp);exact q2 q hq⟩
   |some d=>
     rw[hd] at h1;simp only[SetD] at h1
     by_cases q:t=d
     . subst q;rw[h1.1] at e;cases e;exact .inl ⟨x,List.mem_cons_self,hd,rfl⟩
     . rw[h1.2 t q] at e
       rcases hs.f t c e with ⟨q,q1,q2⟩|⟨q1,q2⟩
       . exact .inl ⟨q,List.mem_cons_of_mem _ q1,q2⟩
       . exact .inr ⟨q1,λy hy=>by rcases List.mem_cons.1 hy with rfl|hy;(rw[hd];simp;exact λz=>q z.symm);exact q2 y hy⟩
 rw[Oh_,R1_];simp only[Bool.or_eq_true,decide_eq_true_eq,List.mem_cons];constructor;rintro (z|z);obtain⟨q,q1,q2⟩:=(hs.pb j).1 z;exact⟨q, .inr q1,q2⟩;exact⟨x, .inl Y,z⟩;rintro⟨q,rfl|q1,q2⟩;exact .inr q2;exact .inl ((hs.pb j).2 ⟨q,q1,q2⟩)
theorem msk_ok (hp:PI all I D all.length) {pre:List Rec} (hg:Good P n N H all I f0 base n0 h0 pre) {ft:Ft} {vs:List (Nat×He)} {pb i b:Nat} (hs:SR P f0 pre ft vs pb) (hb:subB b pb=true) (hi:tb pb i=false):Fok all I f0 pre i b (mskE D i b ft):=by
 have hu:∀ q∈pre,I.get q.i=some (q.o,q.b):=λq hq=>(Fw_ hg hq).elim λ_ z=>z.2.g;have hD:∀ j o bj t,I.get j=some (o,bj)->o.dst=some t->D.get t=some (j,bj):=λj o bj t e hd=>by
   obtain⟨a1,a2,_⟩:=hp.a j o bj e
   obtain⟨b',b1,b2⟩:=hp.c j o t a1 a2 hd
   rw[e] at b2;simp only[Option.some.injEq,Prod.mk.injEq] at b2;rw[b2.2];exact b1
 intro t c e;unfold mskE at e
 split at e
 . rename_i hDn
   rcases hs.f t c e with ⟨q,q1,q2,_⟩|⟨q1,q2⟩
   . rw[hD _ _ _ _ (hu q q1) q2] at hDn;cases hDn
   exact .inr ⟨q1,λj o bj hj hd=>by rw[hD _ _ _ _ hj hd] at hDn;cases hDn⟩
 . rename_i j bj hDj
   cases hc:(Nat.beq j i||(tb b j||tb bj i)) with
   |false=>rw[hc] at e;cases e
   |true=>
     rw[hc] at e
     simp only[cond_true] at e
     simp only[Bool.or_eq_true] at hc
     rcases hs.f t c e with ⟨q,q1,q2,q3⟩|⟨q1,q2⟩
     . have :=hD _ _ _ _ (hu q q1) q2
       rw[hDj] at this;simp only[Option.some.injEq,Prod.mk.injEq] at this
       obtain⟨z1,z2⟩:=this
       have hne:tb pb j=true:=(hs.pb j).2 ⟨q,q1,z1.symm⟩
       rcases hc with hc|hc|hc
       . rw[Nat.eq_of_beq_eq_true hc] at hne;rw[hne] at hi;cases hi
       . exact .inl ⟨q,q1,q2,q3,z1 ▸ hc⟩
       . obtain⟨pre',p1,p2⟩:=Fw_ hg q1
         obtain⟨y,y1,y2⟩:=p2.s i (z2 ▸ hc)
         have :tb pb i=true:=(hs.pb i).2 ⟨y,p1.subset (List.mem_cons_of_mem _ y1),y2⟩
         rw[this] at hi;cases hi
     . refine .inr ⟨q1,λj' o' bj' hj' hd'=>?_⟩
       have :=hD _ _ _ _ hj' hd'
       rw[hDj] at this;simp only[Option.some.injEq,Prod.mk.injEq] at this
       obtain⟨rfl,rfl⟩:=this
       rcases hc with hc|hc|hc
       . exact .inl (Nat.eq_of_beq_eq_true hc)
       . obtain⟨y,y1,y2⟩:=(hs.pb j).1 (J0_ hb hc)
         exact absurd ((by
           have :=hu y y1
           rw[y2,hj'] at this;simp only[Option.some.injEq,Prod.mk.injEq] at this
           rw[<- this.1];exact hd'):y.o.dst=some t) (q2 y y1)
       . exact .inr hc
theorem vOf_v {x:Rec} {pre:List Rec} (e:okO P x.o.op ≠ .w):vOf P (x::pre)=vOf P pre:=by
 conv=>lhs;unfold vOf
 split
 . rename_i h;exact absurd h e
 rfl
theorem vOf_w {x:Rec} {pre:List Rec} (e:okO P x.o.op = .w):vOf P (x::pre)=(x.i,x.h)::vOf P pre:=by
 conv=>lhs;unfold vOf
 rw[e]
theorem Nq_ {cl:Cl R} (hG:GH G H) (hX:XOk P X) (hcl:ClOk P N H cl) (hp:PI all I D all.length):∀ {pl:List Nat} {pre:List Rec} {ft:Ft} {vs:List (Nat×He)} {pb:Nat} {k:Kf R} {r:R},
   Good P n N H all I f0 base n0 h0 pre->SR P f0 pre ft vs pb->segE P G X cl n base all I D h0 pl ft (hcur h0 pre) (ncur n0 pre) vs pb k=some r ->
   ∃ full f' vs' pb',k f' (hcur h0 full) (ncur n0 full)=some r/\Good P n N H all I f0 base n0 h0 full/\SR P f0 full f' vs' pb'/\∀ j,j<all.length->∃ q∈full,q.i=j
 |[],pre,ft,vs,pb,k,r,hg,hs,e=>by
   simp only[segE] at e
   cases hb:subB (Nat.sub (Nat.pow 2 all.length) 1) pb with
   |false=>rw[hb] at e;cases e
   |true=>
     rw[hb] at e
     refine⟨pre,ft,vs,pb,e,hg,hs,λj hj=>(hs.pb j).1 (J0_ hb ?_)⟩
     rw[Rz_]
     have :=Nat.testBit_two_pow_sub_one all.length j
     rw[show Nat.sub (Nat.pow 2 all.length) 1=2 ^ all.length-1 from rfl,this]
     simpa using hj
 |i::rest,pre,ft,vs,pb,k,r,hg,hs,e=>by
   simp only[segE] at e
   split at e
   . rename_i o b hI
     cases h1:tb pb i with
     |true=>rw[h1] at e;cases e
     |false=>
       rw[h1] at e
       simp only[cond_false] at e
       cases h2:subB b pb with
       |false=>rw[h2] at e;cases e
       |true=>
         rw[h2] at e
         simp only[cond_true] at e
         have hfe:=msk_ok hp hg hs h2 h1
         have hun:∀ q∈pre,q.i≠i:=λq hq z=>by
           have :=(hs.pb i).2 ⟨q,hq,z⟩;rw[h1] at this;cases this
         have hsu:∀ j,tb b j=true->∃ q∈pre,q.i=j:=λj hj=>(hs.pb j).1 (J0_ h2 hj)
         split at e
         . rename_i hk
           split at e
           . rename_i c hc
             obtain⟨f1,e1,e2⟩:=Jz_ e
             rw[hs.vs] at hc
             have hv:=valV_ok (N:=N) hG hc
             refine Nq_ (pre:=⟨i,o,b,c,hcur h0 pre,ncur n0 pre, .dead⟩::pre) hG hX hcl hp ⟨hg,⟨hI,hun,hsu,_,hfe,?_⟩⟩ (hs.put (x:=⟨i,o,b,c,hcur h0 pre,ncur n0 pre, .dead⟩) e2 wU) e1
             unfold Kind;simp only[hk];exact⟨trivial,trivial,hv⟩
           . cases e
         . rename_i hk
           split at e
           . rename_i c hb hc
             obtain⟨h',e1,e2,e3⟩:=Tr.setK_ok _ _ _ _ _ _ e
             obtain⟨f1,e4,e5⟩:=Jz_ e1
             have ha:AOk P n N H all (mskE D i b ft) (base+i) o c hb:=opA_ok hc
             refine Nq_ (pre:=⟨i,o,b,c,h',ncur n0 pre,hb⟩::pre) hG hX hcl hp ⟨hg,⟨hI,hun,hsu,_,hfe,?_⟩⟩ (hs.put (x:=⟨i,o,b,c,h',ncur n0 pre,hb⟩) e5 wU) e4
             unfold Kind;simp only[hk];exact⟨trivial,ha,e2,e3⟩
           . cases e
         . rename_i hk
           cases h3:subB pb b with
           |false=>rw[h3] at e;cases e
           |true=>
             rw[h3] at e
             simp only[cond_true] at e
             obtain⟨c,h',nx',e1,e2⟩:=U2_ (n:=n) hG hX hcl e
             obtain⟨f1,e4,e5⟩:=Jz_ e1
             refine Nq_ (pre:=⟨i,o,b,c,h',nx', .dead⟩::pre) hG hX hcl hp ⟨hg,⟨hI,hun,hsu,_,hfe,?_⟩⟩ (hs.put (x:=⟨i,o,b,c,h',nx', .dead⟩) e5 (by rw[vOf_w hk,hs.vs])) e4
             unfold Kind;simp only[hk];exact⟨λq hq=>J0_ h3 ((hs.pb _).2 ⟨q,hq,rfl⟩),e2⟩
   . cases e
end
end Go.CE
namespace Go.CE
open Go.SW
noncomputable section
variable {P:Program} {n:Nat} {N:SW.Rest} {H:Hp} {f:Fe} {h h0:He} {nx n0 base:Nat} {G:Gt} {X:Xt} {R:Type} {all:List Oper} {I:It} {D:Ds} {f0:Ft}
structure MI (P:Program) (all:List Oper) (I:It) (f0:Ft) (base n0:Nat) (h0:He) (full:List Rec) (β0:Be) (L0:Ls) (listed:Array Bool) (β:Be) (L:Ls) (F:Fr) (vp:List Rec):Prop where
 sz:listed.size=all.length
 cl:∀ i o b,I.get i=some (o,b)->listed.getD i false=true->∀ j,tb b j=true->listed.getD j false=true
 vs:vp <:+ full
 vh:∀ q r,vp=q::r->okO P q.o.op = .w
 vl:∀ q∈vp,listed.getD q.i false=true
 vn:∀ q∈full,okO P q.o.op = .w->listed.getD q.i false=true->q∈vp
 hr:HR β (hcur h0 vp) (ncur n0 vp) L
 nb:base+all.length<=ncur n0 vp
 ex:∀ q∈full,q∉vp->okO P q.o.op = .a->(hcur h0 vp).get (base+q.i)=none/\(listed.getD q.i false=true->BR β (base+q.i) q.hb (L (base+q.i)))/\(listed.getD q.i false=false->β (base+q.i)=none/\L (base+q.i)=none)
 fr:∀ t c,f0.get t=some c->(∀ q∈full,listed.getD q.i false=true->q.o.dst≠some t)->VR β c (F t)
 fd:∀ q∈full,listed.getD q.i false=true->∀ t,q.o.dst=some t->VR β q.c (F t)
 le:β0.le β
 ou:∀ i,i<base->h0.get i=none->L i=L0 i/\β i=β0 i/\(hcur h0 vp).get i=none
theorem Tu_ {α:Type} {x:α} {a b full:List α} (h1:a <:+ full) (h2:(x::b) <:+ full) (hx:x∉a):a <:+ b:=by
 rcases List.suffix_or_suffix_of_suffix h1 h2 with h|h
 . rcases List.suffix_cons_iff.1 h with h|h
   subst h;exact absurd List.mem_cons_self hx
   exact h
 exact absurd (h.subset List.mem_cons_self) hx
theorem HR.see {β:Be} {L:Ls} {h':He} {j:Nat} {hb:HB} (hr:HR β h nx L) (hj:j<nx) (h1:h'.get j=some hb) (h2:∀ i,i≠j->h'.get i=h.get i) (hB:BR β j hb (L j)):HR β h' nx L:=by
 refine⟨λi b e=>?_,λi b e=>?_,hr.fr⟩;by_cases q:i=j
 . subst q;rw[h1] at e;cases e;exact hB
 rw[h2 i q] at e;exact hr.br i b e;by_cases q:i=j;subst q;exact hj;rw[h2 i q] at e;exact hr.lt i b e
theorem HR.hid {β:Be} {L:Ls} {j:Nat} {q:Pl} {x:Option (Nat×Obj)} (hr:HR β h nx L) (hj:j<nx) (h0:h.get j=none) (hb:β j=none):HR (bset β j q) h nx (lupd L j x):=by
 refine⟨λi b e=>?_,hr.lt,λi hi=>?_⟩;have :i≠j:=λz=>by subst z;rw[h0] at e;cases e
 rw[E_ _ _ _ _ this];exact (hr.br i b e).mono (B0_ hb);have :i≠j:=by omega
 rw[E_ _ _ _ _ this];refine⟨?_,(hr.fr i hi).2⟩;unfold bset;rw[if_neg this];exact (hr.fr i hi).1
theorem hr_up (hp:PI all I D all.length) {full:List Rec} (hg:Good P n N H all I f0 base n0 h0 full) {β:Be} {L:Ls} {vp:List Rec} (hr:HR β (hcur h0 vp) (ncur n0 vp) L) (hn:base+all.length<=ncur n0 vp)
   :∀ (mid:List Rec),(mid++vp) <:+ full->(∀ q∈mid,q∉vp/\okO P q.o.op ≠ .w/\(okO P q.o.op = .a->BR β (base+q.i) q.hb (L (base+q.i)))) ->
   HR β (hcur h0 (mid++vp)) (ncur n0 (mid++vp)) L/\ncur n0 (mid++vp)=ncur n0 vp/\∀ j,(∀ q∈mid,okO P q.o.op = .a->base+q.i≠j)->(hcur h0 (mid++vp)).get j=(hcur h0 vp).get j
 |[],_,_=>⟨hr,rfl,λ_ _=>rfl⟩
 |x::mid,hs,hm=>by
   have hs':(mid++vp) <:+ full:=(List.suffix_cons _ _).trans hs
   obtain⟨a1,a2,a3⟩:=hr_up hp hg hr hn mid hs' λq hq=>hm q (List.mem_cons_of_mem _ hq)
   obtain⟨_,m2,m3⟩:=hm x List.mem_cons_self
   have hloc:=Jc_ hg (show (x::(mid++vp)) <:+ full from hs)
   obtain⟨fe,_,hk⟩:=hloc.k
   unfold Kind at hk
   cases hok:okO P x.o.op with
   |w=>exact absurd hok m2
   |v=>
     rw[hok] at hk
     obtain⟨k1,k2,_⟩:=hk
     simp only[List.cons_append,hcur,ncur]
     rw[k1,k2]
     exact⟨a1,a2,λj hj=>a3 j λq hq=>hj q (List.mem_cons_of_mem _ hq)⟩
   |a=>
     rw[hok] at hk
     obtain⟨k1,k2,k3,k4⟩:=hk
     have hlt:=(hp.a _ _ _ hloc.g).1
     simp only[List.cons_append,hcur,ncur]
     rw[k1]
     refine⟨a1.see (by rw[a2];omega) k3 k4 (m3 hok),a2,λj hj=>?_⟩
     rw[k4 j λz=>hj x List.mem_cons_self hok z.symm]
     exact a3 j λq hq=>hj q (List.mem_cons_of_mem _ hq)
theorem Nt_ {fe:Fe} {o:Oper} {b:Nat} {c:CV} {vp:List Rec} (hh:∀ q r,vp=q::r->okO P q.o.op = .w):∀ (mid:List Rec),(∀ q∈mid,okO P q.o.op = .w->tb b q.i=false)->G0_ P n N H all h0 fe o b c (mid++vp)->OpQ P n N H all fe (hcur h0 vp) o c
 |[],_,h=>by
   cases vp with
   |nil=>exact h
   |cons q r=>simp only[List.nil_append] at h;unfold G0_ at h;rw[hh q r rfl] at h;exact h.1
 |x::mid,hm,h=>by
   simp only[List.cons_append] at h
   unfold G0_ at h
   cases hok:okO P x.o.op with
   |w=>
     rw[hok] at h
     rcases h.2 with z|z
     . rw[hm x List.mem_cons_self hok] at z;cases z
     . exact Nt_ hh mid (λq hq=>hm q (List.mem_cons_of_mem _ hq)) z
   |v=>rw[hok] at h;exact Nt_ hh mid (λq hq=>hm q (List.mem_cons_of_mem _ hq)) h
   |a=>rw[hok] at h;exact Nt_ hh mid (λq hq=>hm q (List.mem_cons_of_mem _ hq)) h
theorem lset {listed:Array Bool} {i j:Nat} (hi:i<listed.size):(listed.setIfInBounds i true).getD j false=(decide (j=i)||listed.getD j false):=by
 simp only[Array.getD_eq_getD_getElem?,Array.getElem?_setIfInBounds];by_cases e:i=j;subst e;simp[hi];simp[e,Ne.symm e]
theorem Qi_ {full:List Rec} (hg:Good P n N H all I f0 base n0 h0 full) {vp:List Rec} {mid:List Rec} (hs:(mid++vp) <:+ full):∀ q∈mid,∀ y∈vp,y.i≠q.i:=by
 induction mid with
 |nil=>intro q hq;cases hq
 |cons x mid ih=>
   intro q hq y hy
   rcases List.mem_cons.1 hq with hq|hq
   . subst hq;exact (Jc_ hg (show (q::(mid++vp)) <:+ full from hs)).u y (List.mem_append_right _ hy)
   . exact ih ((List.suffix_cons _ _).trans hs) q hq y hy
theorem frames (hp:PI all I D all.length) {full:List Rec} (hg:Good P n N H all I f0 base n0 h0 full) {β0:Be} {L0:Ls} {listed:Array Bool} {β β':Be} {L:Ls} {F:Fr} {vp:List Rec} (hm:MI P all I f0 base n0 h0 full β0 L0 listed β L F vp) {x:Rec} (hx:x∈full) (hxl:listed.getD x.i false=false) (hl:β.le β') {v:Value} (hv:VR β' x.c v) :
   (∀ t c,f0.get t=some c->(∀ q∈full,(listed.setIfInBounds x.i true).getD q.i false=true->q.o.dst≠some t)->VR β' c (putO F x.o.dst v t))/\∀ q∈full,(listed.setIfInBounds x.i true).getD q.i false=true->∀ t,q.o.dst=some t->VR β' q.c (putO F x.o.dst v t):=by
 have hI:∀ q∈full,I.get q.i=some (q.o,q.b):=λq hq=>(Fw_ hg hq).elim λ_ z=>z.2.g;have hlt:x.i<listed.size:=by rw[hm.sz];exact (hp.a _ _ _ (hI x hx)).1
 have hput:∀ t,x.o.dst≠some t->putO F x.o.dst v t=F t:=λt ht=>by
   cases hd:x.o.dst with
   |none=>rfl
   |some d=>simp only[putO];exact Iv_ _ _ _ _ λz=>ht (by rw[hd,z])
 refine⟨λt c e ha=>?_,λq hq hql t ht=>?_⟩;have h1:x.o.dst≠some t:=ha x hx (by rw[lset hlt];simp);rw[hput t h1];exact (hm.fr t c e λq hq hql=>ha q hq (by rw[lset hlt,hql];simp)).mono hl;by_cases e:q.i=x.i;have :=Cx_ hg hq hx e;subst this;rw[ht];simp only[putO,Fp_];exact hv;rw[lset hlt] at hql;simp only[e,decide_false,Bool.false_or] at hql;have :x.o.dst≠some t:=λz=>by
   obtain⟨_,a2,_⟩:=hp.a _ _ _ (hI q hq)
   obtain⟨_,b2,_⟩:=hp.a _ _ _ (hI x hx)
   obtain⟨_,c1,_⟩:=hp.c _ _ t (hp.a _ _ _ (hI q hq)).1 a2 ht
   obtain⟨_,d1,_⟩:=hp.c _ _ t (hp.a _ _ _ (hI x hx)).1 b2 z
   rw[c1] at d1;simp only[Option.some.injEq,Prod.mk.injEq] at d1
   exact e d1.1
 rw[hput t this];exact (hm.fd q hq hql t ht).mono hl
theorem mi_step (hp:PI all I D all.length) {full:List Rec} (hg:Good P n N H all I f0 base n0 h0 full) {β0:Be} {L0:Ls} {listed:Array Bool} {β:Be} {L:Ls} {F:Fr} {vp:List Rec} (hm:MI P all I f0 base n0 h0 full β0 L0 listed β L F vp) {x:Rec} (hx:x∈full) (hxl:listed.getD x.i false=false) (hxb:∀ j,tb x.b j=true->listed.getD j false=true) :
   Op1 P n N all x.o (λF' H' L'=>H'=H/\∃ β' vp',MI P all I f0 base n0 h0 full β0 L0 (listed.setIfInBounds x.i true) β' L' F' vp') F H L:=by
 have hI:∀ q∈full,I.get q.i=some (q.o,q.b):=λq hq=>(Fw_ hg hq).elim λ_ z=>z.2.g;have hxm:x.i<all.length:=(hp.a _ _ _ (hI x hx)).1;have hlt:x.i<listed.size:=by rw[hm.sz];exact hxm
 obtain⟨pre,hs,hloc⟩:=Fw_ hg hx;have hxv:x∉vp:=λz=>by rw[hm.vl x z] at hxl;cases hxl
 have hvp:vp <:+ pre:=Tu_ hm.vs hs hxv;have hpre:pre <:+ full:=(List.suffix_cons _ _).trans hs;have hmo:∀ j,listed.getD j false=true->(listed.setIfInBounds x.i true).getD j false=true:=λj e=>by rw[lset hlt,e];simp
 have hsz:(listed.setIfInBounds x.i true).size=all.length:=by rw[Array.size_setIfInBounds];exact hm.sz
 have hcl:∀ i o b,I.get i=some (o,b)->(listed.setIfInBounds x.i true).getD i false=true->∀ j,tb b j=true->(listed.setIfInBounds x.i true).getD j false=true:=λi o b e h1 j hj=>by
   by_cases q:i=x.i
   . subst q
     rw[hI x hx] at e;simp only[Option.some.injEq,Prod.mk.injEq] at e
     exact hmo _ (hxb j (e.2 ▸ hj))
   . rw[lset hlt] at h1;simp only[q,decide_false,Bool.false_or] at h1
     exact hmo _ (hm.cl i o b e h1 j hj)
 obtain⟨fe,hfo,hk⟩:=hloc.k;have hfr:FR β fe F:=λt c e=>by
   rcases hfo t c e with ⟨q,q1,q2,q3,q4⟩|⟨q1,q2⟩
   . rw[<- q3];exact hm.fd q (hpre.subset q1) (hxb _ q4) t q2
   . refine hm.fr t c q1 λq hq hql hd=>?_
     rcases q2 _ _ _ (hI q hq) hd with z|z
     . rw[z,hxl] at hql;cases hql
     . have :=hm.cl _ _ _ (hI q hq) hql _ z
       rw[this] at hxl;cases hxl
 unfold Kind at hk
 cases hok:okO P x.o.op with
 |v=>
   rw[hok] at hk
   obtain⟨_,_,hv⟩:=hk
   obtain⟨mid,hmid⟩:=hvp
   rw[<- hmid] at hv
   have hq:OpQ P n N H all fe (hcur h0 vp) x.o x.c:=Nt_ hm.vh mid (λq hq hw=>by
     cases hb:tb x.b q.i with
     |false=>rfl
     |true=>
       have hqf:q∈full:=hpre.subset (hmid ▸ List.mem_append_left _ hq)
       have :=hm.vn q hqf hw (hxb _ hb)
       exact absurd Y (Qi_ hg (by rw[hmid];exact hpre) q hq q this)) hv
   refine hq hfr hm.hr _ λv hv=>⟨rfl,β,vp,?_⟩
   obtain⟨g1,g2⟩:=frames hp hg hm hx hxl (.refl β) hv
   refine⟨hsz,hcl,hm.vs,hm.vh,λq hq=>hmo _ (hm.vl q hq),λq hq hw hql=>?_,hm.hr,hm.nb,λq hq hqv ha=>?_,g1,g2,hm.le,hm.ou⟩
   . rw[lset hlt] at hql
     by_cases e:q.i=x.i
     . exact zO
     . exact xA
   . obtain⟨a1,a2,a3⟩:=hm.ex q hq hqv ha
     have e:q.i≠x.i:=λe=>by have :=Cx_ hg hq hx e;subst this;rw[hok] at ha;cases ha
     rw[lset hlt];simp only[e,decide_false,Bool.false_or]
     exact⟨a1,a2,a3⟩
 |a=>
   rw[hok] at hk
   obtain⟨_,hA,_,_⟩:=hk
   obtain⟨a1,_,a3⟩:=hm.ex x hx hxv hok
   obtain⟨b1,b2⟩:=a3 hxl
   refine hA hfr b1 _ λq y v hv hB=>⟨rfl,bset β (base+x.i) q,vp,?_⟩
   obtain⟨g1,g2⟩:=frames hp hg hm hx hxl (B0_ b1) hv
   have hnb:=hm.nb
   refine⟨hsz,hcl,hm.vs,hm.vh,λq hq=>hmo _ (hm.vl q hq),λq hq hw hql=>?_,hm.hr.hid xN a1 b1,hm.nb,λy hy hyv ha=>?_,g1,g2,hm.le.trans (B0_ b1),λi hi e=>?_⟩
   . rw[lset hlt] at hql
     by_cases e:q.i=x.i
     . exact zO
     . exact xA
   . obtain⟨c1,c2,c3⟩:=hm.ex y hy hyv ha
     rw[lset hlt]
     by_cases e:y.i=x.i
     . have :=Cx_ hg hy hx e
       subst this
       refine⟨c1,λ_=>by rw[F_];exact hB,λz=>?_⟩
       simp at z
     . simp only[e,decide_false,Bool.false_or]
       have e':base+y.i≠base+x.i:=by omega
       rw[E_ _ _ _ _ e']
       refine⟨c1,λz=>(c2 z).mono (B0_ b1),λz=>⟨?_,(c3 z).2⟩⟩
       unfold bset;rw[if_neg e'];exact (c3 z).1
   . have e':i≠base+x.i:=by omega
     obtain⟨c1,c2,c3⟩:=hm.ou i hi e
     rw[E_ _ _ _ _ e']
     refine⟨c1,?_,c3⟩
     unfold bset;rw[if_neg e'];exact c2
 |w=>
   rw[hok] at hk
   obtain⟨hlate,hW⟩:=hk
   have hpl:∀ q∈pre,listed.getD q.i false=true:=λq hq=>hxb _ (hlate q hq)
   obtain⟨mid,hmid⟩:=hvp
   have hmf:(mid++vp) <:+ full:=by rw[hmid];exact hpre
   have hmn:=Qi_ hg hmf
   obtain⟨u1,u2,u3⟩:=hr_up hp hg hm.hr hm.nb mid hmf λq hq=>by
     have hqf:q∈full:=hmf.subset (List.mem_append_left _ hq)
     have hqv:q∉vp:=λz=>hmn q hq q z Y
     have hql:=hpl q (hmid ▸ List.mem_append_left _ hq)
     exact⟨hqv,λhw=>hqv (hm.vn q hqf hw hql),λha=>(hm.ex q hqf hqv ha).2.1 hql⟩
   rw[hmid] at u1 u2 u3
   have hnb:=hm.nb
   refine hW hfr u1 _ λβ' v L' hv hpo=>⟨rfl,β',x::pre,?_⟩
   obtain⟨g1,g2⟩:=frames hp hg hm hx hxl hpo.le hv
   refine⟨hsz,hcl,hs,λq r e=>?_,λq hq=>?_,λq hq hw hql=>?_,hpo.hr,?_,λq hq hqv ha=>?_,g1,g2,hm.le.trans hpo.le,λi hi e=>?_⟩
   . cases e;exact hok
   . rcases List.mem_cons.1 hq with rfl|hq
     . rw[lset hlt];simp
     . exact hmo _ (hpl q hq)
   . rw[lset hlt] at hql
     by_cases e:q.i=x.i
     . have :=Cx_ hg hq hx e;subst this;exact List.mem_cons_self
     . simp only[e,decide_false,Bool.false_or] at hql
       exact List.mem_cons_of_mem _ (hmid ▸ List.mem_append_right _ (hm.vn q hq hw hql))
   . have :=hpo.nle;show base+all.length<=x.nx;omega
   . have hqx:q.i≠x.i:=λe=>hqv (by have :=Cx_ hg hq hx e;subst this;exact List.mem_cons_self)
     have hqp:q∉pre:=λz=>hqv (List.mem_cons_of_mem _ z)
     have hqvp:q∉vp:=λz=>hqp (hmid ▸ List.mem_append_right _ z)
     obtain⟨c1,c2,c3⟩:=hm.ex q hq hqvp ha
     have hqm:q.i<all.length:=(hp.a _ _ _ (hI q hq)).1
     have hget:(hcur h0 pre).get (base+q.i)=none:=by
       rw[u3 _ λy hy _ e=>?_]
       . exact c1
       . have hyf:y∈full:=hmf.subset (List.mem_append_left _ hy)
         have :=Cx_ hg hyf hq xN
         subst this
         exact hqp (hmid ▸ List.mem_append_left _ hy)
     obtain⟨d1,d2,d3⟩:=hpo.fr (base+q.i) xN hget
     rw[lset hlt];simp only[hqx,decide_false,Bool.false_or]
     rw[d1,d2]
     exact⟨d3,λz=>(c2 z).mono hpo.le,c3⟩
   . obtain⟨c1,c2,c3⟩:=hm.ou i hi e
     have hget:(hcur h0 pre).get i=none:=by
       rw[u3 _ λy hy _ e=>by omega];exact c3
     obtain⟨d1,d2,d3⟩:=hpo.fr i xN hget
     exact⟨d1.trans c1,d2.trans c2,d3⟩
end
end Go.CE
namespace Go.CE
open Go.SW
noncomputable section
variable {P:Program} {n:Nat} {N:SW.Rest} {H:Hp} {f:Fe} {h h0:He} {nx n0 base:Nat} {G:Gt} {X:Xt} {R:Type} {all:List Oper} {I:It} {D:Ds} {f0:Ft}
def left (m:Nat) (listed:Array Bool):Nat:=((List.range m).filter λj=>!listed.getD j false).length
theorem Sz_ {m i:Nat} {listed:Array Bool} (hi:i<m) (hs:listed.size=m) (hl:listed.getD i false=false):left m (listed.setIfInBounds i true)+1 = left m listed:=by
 have key:∀ (l:List Nat),l.Nodup->i∈l->(l.filter λj=>!(listed.setIfInBounds i true).getD j false).length+1=(l.filter λj=>!listed.getD j false).length:=by
   intro l hn hil
   induction l with
   |nil=>cases hil
   |cons a l ih=>
     rw[List.nodup_cons] at hn
     simp only[List.filter_cons,lset (show i<listed.size by omega)]
     by_cases e:a=i
     . subst e
       simp only[decide_true,Bool.true_or,Bool.not_true,Bool.false_eq_true,if_false,hl,Bool.not_false,if_true,List.length_cons]
       congr 1
       have :∀ j∈l,(!((decide (j=a))||listed.getD j false))=(!listed.getD j false):=λj hj=>by
         have :j≠a:=λz=>hn.1 (z ▸ hj)
         simp[this]
       rw[List.filter_congr this]
     . have hil':i∈l:=by rcases List.mem_cons.1 hil with z|z;exact absurd z.symm e;exact z
       have :=ih hn.2 hil'
       simp only[lset (show i<listed.size by omega)] at this
       simp only[e,decide_false,Bool.false_or]
       cases listed.getD a false
       . simp only[Bool.not_false,if_true,List.length_cons];omega
       . exact xF
 exact key _ List.nodup_range (List.mem_range.2 hi)
theorem Sn_ (hp:PI all I D all.length) {full:List Rec} (hg:Good P n N H all I f0 base n0 h0 full) (hfu:∀ j,j<all.length->∃ q∈full,q.i=j) {β0:Be} {L0:Ls} {ft:Ft} {vs:List (Nat×He)} {pb:Nat} (hsr:SR P f0 full ft vs pb) {Q:Qt}
   (fin:∀ β F L,β0.le β->HR β (hcur h0 full) (ncur n0 full) L->FR β ft.get F->base<=ncur n0 full->(∀ i,i<base->h0.get i=none->L i=L0 i/\β i=β0 i/\(hcur h0 full).get i=none)->Q .normal F H L) :
   ∀ (fuel:Nat) (listed:Array Bool) (β:Be) (L:Ls) (F:Fr) (vp:List Rec),left all.length listed<=fuel->MI P all I f0 base n0 h0 full β0 L0 listed β L F vp->∀ a w,At n a F->Mem N H L w->wpAny P .any all.toArray (lift n N Q) fuel listed a w:=by
 have hI:∀ q∈full,I.get q.i=some (q.o,q.b):=λq hq=>(Fw_ hg hq).elim λ_ z=>z.2.g;have hend:∀ (listed:Array Bool) (β:Be) (L:Ls) (F:Fr) (vp:List Rec),MI P all I f0 base n0 h0 full β0 L0 listed β L F vp->(∀ q∈full,listed.getD q.i false=true)->Q .normal F H L:=by
   intro listed β L F vp hm hl
   obtain⟨mid,hmid⟩:=hm.vs
   have hmf:(mid++vp) <:+ full:=by rw[hmid];exact List.suffix_refl _
   have hmn:=Qi_ hg hmf
   obtain⟨u1,u2,u3⟩:=hr_up hp hg hm.hr hm.nb mid hmf λq hq=>by
     have hqf:q∈full:=hmf.subset (List.mem_append_left _ hq)
     have hqv:q∉vp:=λz=>hmn q hq q z Y
     exact⟨hqv,λhw=>hqv (hm.vn q hqf hw (hl q hqf)),λha=>(hm.ex q hqf hqv ha).2.1 (hl q hqf)⟩
   rw[hmid] at u1 u2 u3
   have hnb:=hm.nb
   refine fin β F L hm.le u1 (λt c e=>?_) xN λi hi e=>?_
   . rcases hsr.f t c e with ⟨q,q1,q2,q3⟩|⟨q1,q2⟩
     . rw[<- q3];exact hm.fd q q1 (hl q q1) t q2
     . exact hm.fr t c q1 λq hq _=>q2 q hq
   . obtain⟨c1,c2,c3⟩:=hm.ou i hi e
     exact⟨c1,c2,by rw[u3 _ λy hy _ e=>by omega];exact c3⟩
 have hready:∀ (listed:Array Bool) (β:Be) (L:Ls) (F:Fr) (vp:List Rec),MI P all I f0 base n0 h0 full β0 L0 listed β L F vp->Region.ready .any all.toArray listed=[]->∀ q∈full,listed.getD q.i false=true:=by
   intro listed β L F vp hm hr
   have key:∀ (l:List Rec),l <:+ full->∀ q∈l,listed.getD q.i false=true:=by
     intro l
     induction l with
     |nil=>intro _ q hq;cases hq
     |cons x pre ih=>
       intro hs q hq
       have ihp:=ih ((List.suffix_cons _ _).trans hs)
       rcases List.mem_cons.1 hq with rfl|hq
       . cases hxl:listed.getD q.i false with
         |true=>rfl
         |false=>
           exfalso
           have hloc:=Jc_ hg hs
           obtain⟨a1,a2,a3⟩:=hp.a _ _ _ hloc.g
           have :q.i∈Region.ready .any all.toArray listed:=by
             rw[mem_ready]
             refine⟨?_,q.o,by simpa using a2,λe he hb=>?_⟩
             . have hsz:=hm.sz
               rw[Array.getD_eq_getD_getElem?,Array.getElem?_eq_getElem xN] at hxl ⊢
               exact hxl
             . obtain⟨y,y1,y2⟩:=hloc.s _ (a3.1 e (by simpa using he) hb)
               rw[<- y2];exact ihp y y1
           rw[hr] at this;cases this
       . exact ihp q hq
   exact key full (List.suffix_refl _)
 intro fuel
 induction fuel with
 |zero=>
   intro listed β L F vp hf hm a w ha hw
   have hall:∀ j,j<all.length->listed.getD j false=true:=λj hj=>by
     cases e:listed.getD j false with
     |true=>rfl
     |false=>
       have :left all.length listed=0:=Nat.le_zero.1 hf
       have :=List.length_eq_zero_iff.1 this
       have hmem:j∈(List.range all.length).filter λj=>!listed.getD j false:=List.mem_filter.2 ⟨List.mem_range.2 hj,by rw[e];rfl⟩
       rw[this] at hmem;cases hmem
   have hr:Region.ready .any all.toArray listed=[]:=by
     apply List.eq_nil_iff_forall_not_mem.2
     intro j hj
     obtain⟨h1,o,ho,_⟩:=mem_ready.1 hj
     have hj':j<all.length:=by
       have :=(Array.getElem?_eq_some_iff.1 ho).1
       exact xF
     have h2:=hall j hj'
     have hsz:=hm.sz
     rw[Array.getD_eq_getD_getElem?,Array.getElem?_eq_getElem xN] at h1 h2
     simp only[Option.getD_some] at h1 h2
     rw[h1] at h2;cases h2
   exact⟨hr,F,H,L,ha,hw,hend _ _ _ _ _ hm (hready _ _ _ _ _ hm hr)⟩
 |succ fuel ih=>
   intro listed β L F vp hf hm a w ha hw
   refine⟨λhr=>⟨F,H,L,ha,hw,hend _ _ _ _ _ hm (hready _ _ _ _ _ hm hr)⟩,λi hi=>?_⟩
   obtain⟨h1,o,ho,hall⟩:=mem_ready.1 hi
   have ho':all[i]? = some o:=by simpa using ho
   have hil:i<all.length:=(List.getElem?_eq_some_iff.1 ho').1
   obtain⟨x,hx,hxi⟩:=hfu i hil
   subst hxi
   have hsz:=hm.sz
   have hxl:listed.getD x.i false=false:=by
     rw[Array.getD_eq_getD_getElem?,Array.getElem?_eq_getElem xN] at h1 ⊢
     exact h1
   obtain⟨a1,a2,a3⟩:=hp.a _ _ _ (hI x hx)
   have hxo:x.o=o:=by rw[ho'] at a2;cases a2;rfl
   have hxb:∀ j,tb x.b j=true->listed.getD j false=true:=λj hj=>by
     obtain⟨e,e1,e2,e3⟩:=a3.2 j hj
     have hel:=hall e (by rw[<- hxo];simpa using e1) e2
     rcases e3 with rfl|⟨o',b',g1,g2⟩
     . exact hel
     . exact hm.cl _ _ _ g1 hel _ g2
   have hst:=mi_step hp hg hm hx hxl hxb a w ha hw
   have hle:left all.length (listed.setIfInBounds x.i true)<=fuel:=by
     have :=Sz_ hil hm.sz hxl;omega
   unfold wpOp
   rw[ho]
   simp only
   rw[hxo] at hst
   split
   . rename_i hwt
     rw[if_pos hwt] at hst
     left
     refine Eu_ (λa' w' ⟨F',H',L',x1,x2,x3,β',vp',x4⟩=>?_) (λ_ _ _ z=>z.elim) hst
     subst x3
     exact ih _ β' L' F' vp' hle x4 a' w' x1 x2
   . rename_i hwt
     rw[if_neg hwt] at hst
     obtain⟨F',H',L',x1,x2,x3,β',vp',x4⟩:=hst
     subst x3
     exact ih _ β' L' F' vp' hle x4 _ w x1 x2
def Sl_ (P:Program) (G:Gt) (X:Xt) (cl:Cl R) (n:Nat) (all:List Oper) (f:Ft) (h:He) (nx:Nat) (k:Kf R):Option R:=
 Rc_ P all 0 .e .e [] λI D ws m=>segE P G X cl n nx all I D h (planE I m ws (Nat.sub (Nat.pow 2 m) 1) []) f h (nx+m) [] 0 k
theorem HR.up {β:Be} {L:Ls} {m:Nat} (hr:HR β h nx L) (hl:nx<=m):HR β h m L:=⟨hr.br,λi b e=>Nat.lt_of_lt_of_le (hr.lt i b e) hl,λi hi=>hr.fr i (Nat.le_trans hl hi)⟩
theorem Sm_ {cl:Cl R} {k:Kf R} {r:R} {id:Nat} (hmx:P.follows .mixedOrders=true) (hG:GH G H) (hX:XOk P X) (hcl:ClOk P N H cl) (e:Sl_ P G X cl n all f0 h nx k=some r):∃ f' h' nx',k f' h' nx'=some r /\
   ∀ {β:Be} {L:Ls} {F:Fr},FR β f0.get F->HR β h nx L->∀ Q:Qt,(∀ β' F' L',FR β' f'.get F'->Post β h nx L β' h' nx' L'->Q .normal F' H L')->Cw P n N (.region id all.toArray true) Q F H L:=by
 unfold Sl_ at e;obtain⟨I,D,ws,e1,hp⟩:=Jo_ (all:=all) (rest:=all) (i:=0) (λj=>by rw[Nat.zero_add]) (by rw[Nat.zero_add]) ⟨λj o b z=>by simp[Tr.get] at z,λj o z=>by omega,λj o d z=>by omega⟩ e;obtain⟨full,f',vs',pb',e2,hg,hs,hfu⟩:=Nq_ (n:=n) (N:=N) (H:=H) (h0:=h) (n0:=nx+all.length) (base:=nx) (f0:=f0) (pre:=[]) hG hX hcl hp Z ⟨λt c z=> .inr ⟨z,λq hq=>by cases hq⟩,rfl,λj=>⟨λz=>(by rw[L9_] at z;cases z),λ⟨q,hq,_⟩=>by cases hq⟩⟩ e1
 refine⟨f',_,_,e2,λ{β L F} hf hr Q kk a w ha hw=>wp_region_any hmx ?_⟩;have hz:∀ i:Nat,(Array.replicate all.toArray.size false).getD i false=false:=λi=>by
   rw[Array.getD_eq_getD_getElem?]
   by_cases hi:i<all.toArray.size
   . rw[Array.getElem?_eq_getElem wO];simp
   . rw[Array.getElem?_eq_none wO];rfl
 refine Sn_ (β0:=β) (L0:=L) hp hg hfu hs (λβ' F' L' b1 b2 b3 b4 b5=>kk β' F' L' b3 ⟨b1,b4,b2,b5⟩) _ _ β L F [] ?_ ?_ _ _ ha (hw.drew _);unfold left;refine Nat.le_trans (List.length_filter_le _ _) xP
 . refine⟨by simp,λi o b _ z=>wM,List.nil_suffix,λq r z=>(by cases z),λq z=>(by cases z),λq _ _ z=>wM,hr.up (Nat.le_add_right _ _),Nat.le_refl _,λq hq _ _=>⟨?_,λz=>wM,λ_=>hr.fr _ (Nat.le_add_right _ _)⟩,λt c e _=>hf t c e,λq _ z=>wM, .refl _,λi _ z=>⟨rfl,rfl,z⟩⟩
   show h.get (nx+q.i)=none
   cases e:h.get (nx+q.i) with
   |none=>rfl
   |some hb=>have :=hr.lt _ _ e;omega
end
end Go.CE
namespace Go.CE
open Go.SW
noncomputable section
variable {P:Program} {n:Nat} {N:SW.Rest} {H:Hp} {f:Fe} {h h0:He} {nx:Nat} {G:Gt} {X:Xt} {R:Type} {β:Be} {L:Ls} {F:Fr}
def inE {R:Type}:List CV->Nat->Ft->(Ft->Option R)->Option R
 |[],_,f,k=>k f
 |c::r,i,f,k=>Tr.setK 24 f i c λf=>inE r (i+1) f k
theorem Uj_:∀ {cs:List CV} {i:Nat} {f:Ft} {k:Ft->Option R} {r:R},inE cs i f k=some r->∃ f',k f'=some r/\∀ t c,f'.get t=some c->(i<=t/\cs[t-i]? = some c)\/f.get t=some c
 |[],i,f,k,r,e=>⟨f,e,λt c h=> .inr h⟩
 |c::cs,i,f,k,r,e=>by
   simp only[inE] at e
   obtain⟨f1,e1,e2,e3⟩:=Tr.setK_ok _ _ _ _ _ _ e
   obtain⟨f',e4,e5⟩:=Uj_ e1
   refine⟨f',e4,λt x hx=>?_⟩
   rcases e5 t x hx with ⟨h1,h2⟩|h1
   . refine .inl ⟨by omega,?_⟩
     rw[show t-i=(t-(i+1))+1 by omega];simpa using h2
   . by_cases q:t=i
     . subst q;rw[e2] at h1;cases h1;exact .inl ⟨Nat.le_refl _,by simp⟩
     . rw[e3 t q] at h1;exact .inr h1
theorem init_fr {cs:List CV} {vs:List Value} {f':Ft} (hv:VRs β cs vs) (h:∀ t c,f'.get t=some c->(0<=t/\cs[t-0]? = some c)\/(Tr.e:Ft).get t=some c):FR β f'.get (Gf_ vs.toArray):=λt c e=>by
 rcases h t c e with ⟨_,h1⟩|h1
 . obtain⟨v,h2,h3⟩:=hv.get h1
   simp only[Nat.sub_zero] at h2
   simp only[Gf_,List.getD_eq_getElem?_getD,h2]
   exact h3
 . simp[Tr.get] at h1
def rvE (P:Program) (G:Gt) (f:Ft) (h:He) (r:ResultVar):Option CV:=match r with
 | .tmp t=>f.get t
 | .cell a T=>match f.get a with
   |some (.ptr i o)=>ldE P G h T (.ptr i o)
   |_=>none
def rvsE (P:Program) (G:Gt) (f:Ft) (h:He):List ResultVar->Option (List CV)
 |[]=>some []
 |r::l=>match rvE P G f h r with
   |some c=>match rvsE P G f h l with
     |some cs=>some (c::cs)
     |none=>none
   |none=>none
def resE (cs:List CV):CV:=match cs with
 |[c]=>c
 |cs=> .tup cs
theorem rvE_ok {f:Ft} {r:ResultVar} {c:CV} (hG:GH G H) (hf:FR β f.get F) (hr:HR β h nx L) (e:rvE P G f h r=some c):∃ v,VR β c v/\RV P N F H L r v:=by
 unfold rvE at e
 split at e
 exact⟨_,hf _ _ e,rv_t Y⟩
 . rename_i a T
   split at e
   . rename_i i o ha
     have hp:=hf _ _ ha
     obtain⟨v,h1,h2⟩:=y_ld (N:=N) (ty:=0) (x:= .tmp a) hG hr hp e
     refine⟨v,h1,λw tmps ht hm=>?_⟩
     simp only[VR] at hp;obtain⟨q,_,hp⟩:=hp
     have h3:=h2 none "" #[] none w hm
     simp only[execOp,ev,Instr.loadAt,hp,rvS,ht] at h3 ⊢
     simp[Instr.sureAddr,asAddr] at h3 ⊢
     generalize (loadVar T {block:=q.b,off:=q.s+o}).run P w=res at *
     cases res with
     |ok x w'=>simpa using h3
     |halt x w'=>simp at h3
   . cases e
theorem Rq_ {f:Ft} (hG:GH G H) (hf:FR β f.get F) (hr:HR β h nx L):∀ {rs:List ResultVar} {cs:List CV},rvsE P G f h rs=some cs->∃ vs,VRs β cs vs/\∀ (w:World) (tmps:Array Value),(∀ t,tmps.getD t undef=F t)->Mem N H L w->(rs.mapM (rvS tmps)).run P w = .ok vs w
 |[],cs,e=>by simp only[rvsE,Option.some.injEq] at e;subst e;exact⟨[], .nil,λw tmps _ _=>by simp⟩
 |r::rs,cs,e=>by
   simp only[rvsE] at e
   split at e
   . rename_i c hc
     split at e
     . rename_i cs' hcs
       simp only[Option.some.injEq] at e;subst e
       obtain⟨v,h1,h2⟩:=rvE_ok (N:=N) hG hf hr hc
       obtain⟨vs,h3,h4⟩:=Rq_ hG hf hr hcs
       exact⟨v::vs, .cons h1 h3,λw tmps ht hm=>by simp[List.mapM_cons,h2 w tmps ht hm,h4 w tmps ht hm]⟩
     . cases e
   . cases e
theorem resE_ok {fn:Func} {f:Ft} {cs:List CV} (hG:GH G H) (hf:FR β f.get F) (hr:HR β h nx L) (e:rvsE P G f h fn.results.toList=some cs):∃ v,VR β (resE cs) v/\Res P N fn F H L v:=by
 obtain⟨vs,h1,h2⟩:=Rq_ (N:=N) hG hf hr e;have hm:∀ (w:World) (tmps:Array Value),(∀ t,tmps.getD t undef=F t)->Mem N H L w->(fn.results.mapM (rvS tmps)).run P w = .ok vs.toArray w:=λw tmps ht hw=>by
   have :=h2 w tmps ht hw
   rw[Array.mapM_eq_mapM_toList]
   simp[this]
 have hl:=h1.length
 match cs,vs,h1,hl with
 |[c],[v],h1,_=>
   obtain⟨_,_,e1,h3,_⟩:=h1.cons_inv
   cases e1
   exact⟨v,h3,λw tmps ht hw=>by simp[B3_,hm w tmps ht hw]⟩
 |[],[],_,_=>exact⟨.tuple #[],by simp only[resE,VR];exact⟨[],rfl, .nil⟩,λw tmps ht hw=>by simp[B3_,hm w tmps ht hw]⟩
 |c::d::cs,v::u::vs,h1,_=>
   refine⟨.tuple (v::u::vs).toArray,by simp only[resE,VR];exact⟨_,rfl,h1⟩,λw tmps ht hw=>?_⟩
   simp[B3_,hm w tmps ht hw]
end
end Go.CE
namespace Go.CE
open Go.SW
noncomputable section
variable {P:Program} {n:Nat} {N:SW.Rest} {H:Hp} {h:He} {nx:Nat} {G:Gt} {X:Xt} {R:Type} {β:Be} {L:Ls} {F:Fr}
inductive CK where
 |yes
 |rep
 |pure (φ:List CV->Option CV)
 |snap (φ:List CV->He->Nat->Option (CV×He×Nat))
abbrev Ct:=List (FuncId×CK)
def ckE:Ct->FuncId->Option CK
 |[],_=>none
 |(a,k)::r,g=>bif Nat.beq a g then some k else ckE r g
def repN (n x:Nat):Nat->Nat
 |0=>0
 |c+1=>x+repN n x c*256 ^ n
theorem Rj_ {n x:Nat} (hx:x<256 ^ n):∀ c,dec (n*c) (repN n x c)=Lib.repeatL (dec n x) c/\repN n x c<256 ^ (n*c)
 |0=>⟨rfl,by simp[repN]⟩
 |c+1=>by
   obtain⟨h1,h2⟩:=Rj_ hx c
   simp only[repN,Lib.repeatL]
   rw[<- h1,E4_ _ _ _ _ hx,Nat.mul_succ,Nat.add_comm (n*c) n]
   refine⟨rfl,?_⟩
   have e:256 ^ (n+n*c)=256 ^ (n*c)*256 ^ n:=by rw[Nat.pow_add,Nat.mul_comm]
   have :(repN n x c+1)*256 ^ n<=256 ^ (n*c)*256 ^ n:=Nat.mul_le_mul_right _ h2
   exact yM
theorem K3_ (n:Nat):∀ c,repN n 0 c=0
 |0=>rfl
 |c+1=>by simp[repN,K3_ n c]
def ctE (k:CK) (args:List CV) (h:He) (nx:Nat) (kk:Ke R):Option R:=match k with
 | .yes=>match args with
   |[]=>kk (.bool true) h nx
   |_=>none
 | .rep=>match args with
   |[.str n x, .int .i64 (.ofNat c)]=>bif Nat.ble (n*c) 140737488355328&&Nat.ble c 9223372036854775807 then kk (.str (n*c) (bif Nat.beq x 0 then 0 else repN n x c)) h nx else none
   |_=>none
 | .pure φ=>match φ args with
   |some c=>kk c h nx
   |none=>none
 | .snap φ=>match φ args h nx with
   |some r=>kk r.1 r.2.1 r.2.2
   |none=>none
def CSp (P:Program) (G:Gt) (g:FuncId):CK->Prop
 | .yes=>Ac_ P g/\∀ H,GH G H->∀ N L w,Mem N H L w->Calls P g #[] w λen w'=>en = .returned (.bool true)/\Mem N H L w'
 | .rep=>Ac_ P g/\∀ (s:Bs) (c:Nat) N H L w,s.length*c<=140737488355328->c<=9223372036854775807->Mem N H L w->Calls P g #[SW.str s, .int .i64 (c:Int)] w λen w'=>en = .returned (SW.str (Lib.repeatL s c))/\Mem N H L w'
 | .pure φ=>Ac_ P g/\∀ args c,φ args=some c->∀ H,GH G H->∀ β N L vs w,VRs β args vs->Mem N H L w->Calls P g vs.toArray w λen w'=>∃ v,en = .returned v/\VR β c v/\Mem N H L w'
 | .snap φ=>Ac_ P g/\∀ args h nx c h' nx',φ args h nx=some (c,h',nx')->∀ N H,GH G H->Cs P N H g args h nx c h' nx'
def COk (P:Program) (G:Gt) (C:Ct):Prop:=∀ g k,ckE C g=some k->CSp P G g k
theorem ctE_ok {k:CK} {args:List CV} {kk:Ke R} {r:R} {g:FuncId} (hG:GH G H) (hC:CSp P G g k) (e:ctE k args h nx kk=some r):∃ c h' nx',kk c h' nx'=some r/\Cs P N H g args h nx c h' nx':=by
 unfold ctE at e
 split at e
 . split at e
   refine⟨_,h,nx,e,hC.1,λβ L vs w hr hv hm R' kk=>?_⟩
   rw[hv.nil_inv]
   exact (hC.2 H hG N L w hm).mono λen w' ⟨h1,h2⟩=>h1 ▸ kk β _ L w' wG (.refl hr) h2
   . cases e
 . split at e
   . rename_i n x c
     cases hb:(Nat.ble (n*c) 140737488355328&&Nat.ble c 9223372036854775807) with
     |false=>rw[hb] at e;cases e
     |true=>
       rw[hb] at e
       simp only[Bool.and_eq_true] at hb
       simp only[cond_true] at e
       refine⟨_,h,nx,e,hC.1,λβ L vs w hr hv hm R' kk=>?_⟩
       obtain⟨v,us,rfl,h1,h2⟩:=hv.cons_inv
       obtain⟨v',us',rfl,h3,h4⟩:=h2.cons_inv
       rw[h4.nil_inv]
       simp only[VR] at h1 h3
       obtain⟨hx,rfl⟩:=h1
       subst h3
       have hl:(dec n x).length=n:=D_ n x
       refine (hC.2 (dec n x) c N H L w (by rw[hl];exact Nat.le_of_ble_eq_true hb.1) (Nat.le_of_ble_eq_true hb.2) hm).mono λen w' ⟨h1,h2⟩=>h1 ▸ kk β _ L w' ?_ (.refl hr) h2
       obtain⟨r1,r2⟩:=Rj_ hx c
       have :(bif Nat.beq x 0 then 0 else repN n x c)=repN n x c:=by
         cases hz:Nat.beq x 0 with
         |false=>rfl
         |true=>rw[Nat.eq_of_beq_eq_true hz];exact (K3_ n c).symm
       rw[this]
       simp only[VR]
       exact⟨r2,by rw[r1]⟩
   . cases e
 . split at e
   . rename_i c hc
     refine⟨_,h,nx,e,hC.1,λβ L vs w hr hv hm R' kk=>?_⟩
     exact (hC.2 _ _ hc H hG β N L vs w hv hm).mono λen w' ⟨v,h1,h2,h3⟩=>h1 ▸ kk β v L w' h2 (.refl hr) h3
   . cases e
 . split at e
   . rename_i c hc
     exact⟨_,_,_,e,hC.2 _ _ _ _ _ _ hc N H hG⟩
   . cases e
abbrev Kx (R:Type):=Exit->Ft->He->Nat->Option R
def retX:Exit->Bool
 | .normal=>true
 | .ret=>true
 |_=>false
def H6_ (P:Program) (G:Gt) (C:Ct) (ev_:Code->Nat->Ft->He->Nat->Kx R->Option R):Cl R:=λg args h nx k=>match ckE C g with
 |some ck=>ctE ck args h nx k
 |none=>match P.funcs[g]? with
 |some fn=>match fn.body with
   |some c=>bif Nat.ble args.length fn.ntmps then inE args 0 .e λf=>ev_ c fn.ntmps f h nx λe f h nx=>
       bif retX e then (match rvsE P G f h fn.results.toList with
         |some cs=>k (resE cs) h nx
         |none=>none) else none
     else none
   |none=>none
 |none=>none
def evC (P:Program) (G:Gt) (X:Xt) (C:Ct):Nat->Code->Nat->Ft->He->Nat->Kx R->Option R
 |0,_,_,_,_,_,_=>none
 |fu+1,c,n,f,h,nx,k=>match c with
   | .skip=>k .normal f h nx
   | .label _=>k .normal f h nx
   | .seq a b=>evC P G X C fu a n f h nx λe f h nx=>match e with
     | .normal=>evC P G X C fu b n f h nx k
     |e=>k e f h nx
   | .cond x a b=>match ef f.get x with
     |some (.bool t)=>match t with
       |true=>evC P G X C fu a n f h nx k
       |false=>evC P G X C fu b n f h nx k
     |_=>none
   | .block id b=>evC P G X C fu b n f h nx λe f h nx=>match e with
     | .exit i=>bif Nat.beq i id then k .normal f h nx else k (.exit i) f h nx
     |e=>k e f h nx
   | .loop b=>evC P G X C fu b n f h nx λe f h nx=>match e with
     | .normal=>evC P G X C fu (.loop b) n f h nx k
     |e=>k e f h nx
   | .scope b=>evC P G X C fu b n f h nx λe f h nx=>match e with
     | .goto _=>none
     |e=>k e f h nx
   | .exit i=>k (.exit i) f h nx
   | .ret=>k .ret f h nx
   | .region _ ops draw=>match draw with
     |false=>opsE P G X (H6_ P G C (evC P G X C fu)) n ops.toList ops.toList f h nx λf h nx=>k .normal f h nx
     |true=>Sl_ P G X (H6_ P G C (evC P G X C fu)) n ops.toList f h nx λf h nx=>k .normal f h nx
   |_=>none
def Cx (P:Program) (n:Nat) (N:SW.Rest) (m:Nat) (c:Code) (Q:Qt) (F:Fr) (H:Hp) (L:Ls):Prop:=match c with
 | .loop b=>∀ a w,At n a F->Mem N H L w->Code.rounds P b (lift n N Q) m a w
 |c=>Cw P n N c Q F H L
theorem Cx.cw {m:Nat} {c:Code} {Q:Qt} (h:Cx P n N m c Q F H L):Cw P n N c Q F H L:=by
 cases c with
 |loop b=>exact λa w ha hm=>wp_loop_rounds m (h a w ha hm)
 |_=>exact h
def EvOk (P:Program) (N:SW.Rest) (H:Hp) (R:Type) (ev_:Code->Nat->Ft->He->Nat->Kx R->Option R):Prop:=
 ∀ c n f h nx k r,ev_ c n f h nx k=some r->∃ e f' h' nx' m,k e f' h' nx'=some r/\∀ {β:Be} {L:Ls} {F:Fr},FR β f.get F->HR β h nx L->∀ Q:Qt,(∀ β' F' L',FR β' f'.get F'->Post β h nx L β' h' nx' L'->Q e F' H L')->Cx P n N m c Q F H L
def CbO (P:Program):Prop:=∀ g fn,P.funcs[g]? = some fn->fn.body.isNone=false->Ac_ P g
theorem I0_ {C:Ct} {ev_:Code->Nat->Ft->He->Nat->Kx R->Option R} (hG:GH G H) (hC:COk P G C) (hcb:CbO P) (hev:EvOk P N H R ev_):ClOk P N H (H6_ P G C ev_):=by
 intro g args h nx k r e;unfold H6_ at e
 split at e
 . rename_i ck hck
   exact ctE_ok hG (hC _ _ hck) e
 split at e
 . rename_i fn hfn
   split at e
   . rename_i c hc
     cases hb:Nat.ble args.length fn.ntmps with
     |false=>rw[hb] at e;cases e
     |true=>
       rw[hb] at e
       simp only[cond_true] at e
       obtain⟨f,e1,e2⟩:=Uj_ e
       obtain⟨ex,f',h',nx',m,e3,e4⟩:=hev _ _ _ _ _ _ _ e1
       cases hx:retX ex with
       |false=>rw[hx] at e3;cases e3
       |true=>
         rw[hx] at e3
         simp only[cond_true] at e3
         split at e3
         . rename_i cs hcs
           refine⟨_,h',nx',e3,hcb g fn hfn (by rw[hc];rfl),λβ L vs w hr hv hm R' kk=>?_⟩
           have hs:vs.toArray.size<=fn.ntmps:=by
             have :=Nat.le_of_ble_eq_true hb
             have :=hv.length
             simp;omega
           refine Dm_ (H0:=H) (R:=λv H' L'=>H'=H/\∃ β',VR β' (resE cs) v/\Post β h nx L β' h' nx' L') hfn hc hs ?_ hm λv H' L' w' hR hl hm'=>?_
           . refine (e4 (init_fr hv e2) hr _ λβ' F' L' hf' hp=>?_).cw
             obtain⟨v,h1,h2⟩:=resE_ok (N:=N) (F:=F') (L:=L') hG hf' hp.hr hcs
             cases ex with
             |normal=>exact fnK_n h2 (.refl H) ⟨rfl,β',h1,hp⟩
             |ret=>exact Pp_ h2 (.refl H) ⟨rfl,β',h1,hp⟩
             |_=>cases hx
           . obtain⟨rfl,β',h1,h2⟩:=hR
             exact kk β' v L' w' h1 h2 hm'
         . cases e3
   . cases e
 . cases e
theorem Pf_ {C:Ct} (hmx:P.follows .mixedOrders=true) (hC:COk P G C) (hcb:CbO P) (hG:GH G H) (hX:XOk P X):∀ fu,EvOk P N H R (evC P G X C fu)
 |0=>λc n f h nx k r e=>by simp only[evC] at e;cases e
 |fu+1=>λc n f h nx k r e=>by
   have ih:=Pf_ hmx hC hcb hG hX fu
   have hcl:=I0_ (N:=N) hG hC hcb ih
   cases c with
   |skip=>simp only[evC] at e;exact⟨_,f,h,nx,0,e,λ{β L F} hf hr Q kk=>G4_ (kk β F L hf (.refl hr))⟩
   |label l=>simp only[evC] at e;exact⟨_,f,h,nx,0,e,λ{β L F} hf hr Q kk=>Mn_ (kk β F L hf (.refl hr))⟩
   |ret=>simp only[evC] at e;exact⟨_,f,h,nx,0,e,λ{β L F} hf hr Q kk=>Ih_ (kk β F L hf (.refl hr))⟩
   |seq a b=>
     simp only[evC] at e
     obtain⟨e1,f1,h1,nx1,m1,z1,z2⟩:=ih _ _ _ _ _ _ _ e
     cases e1 with
     |normal=>
       simp only at z1
       obtain⟨e2,f2,h2,nx2,m2,y1,y2⟩:=ih _ _ _ _ _ _ _ z1
       refine⟨e2,f2,h2,nx2,0,y1,λ{β L F} hf hr Q kk=>At_ (z2 hf hr (seqK P n N b Q) λβ' F' L' hf' hp=>?_).cw⟩
       exact (y2 hf' hp.hr Q λβ'' F'' L'' hf'' hp'=>kk β'' F'' L'' hf'' (hp.trans hp')).cw
     |_=>exact⟨_,f1,h1,nx1,0,z1,λ{β L F} hf hr Q kk=>At_ (z2 hf hr (seqK P n N b Q) λβ' F' L' hf' hp=>by unfold seqK;exact kk β' F' L' hf' hp).cw⟩
   |cond x a b=>
     simp only[evC] at e
     split at e
     . rename_i t ht
       have hev:∀ {β:Be} {F:Fr},FR β f.get F->ev F x = .bool t:=λhf=>by have :=Q_ hf ht;simpa only[VR] using this
       cases t with
       |true=>
         obtain⟨e1,f1,h1,nx1,m1,z1,z2⟩:=ih _ _ _ _ _ _ _ e
         exact⟨e1,f1,h1,nx1,0,z1,λ{β L F} hf hr Q kk=>J9_ (hev hf) Y (z2 hf hr Q kk).cw⟩
       |false=>
         obtain⟨e1,f1,h1,nx1,m1,z1,z2⟩:=ih _ _ _ _ _ _ _ e
         exact⟨e1,f1,h1,nx1,0,z1,λ{β L F} hf hr Q kk=>G3_ (hev hf) Y (z2 hf hr Q kk).cw⟩
     . cases e
   |block id b=>
     simp only[evC] at e
     obtain⟨e1,f1,h1,nx1,m1,z1,z2⟩:=ih _ _ _ _ _ _ _ e
     have hex:(∃ i,e1=Exit.exit i)\/∀ i,e1≠Exit.exit i:=by cases e1<;>first|exact .inl ⟨_,rfl⟩|exact .inr λi h=>by cases h
     rcases hex with ⟨i,rfl⟩|hne
     . simp only at z1
       cases hb:Nat.beq i id with
       |true=>
         rw[hb] at z1
         have :=Nat.eq_of_beq_eq_true hb;subst this
         exact⟨_,f1,h1,nx1,0,z1,λ{β L F} hf hr Q kk=>Ct_ (z2 hf hr (blkK _ Q) λβ' F' L' hf' hp=>by unfold blkK;simpa using kk β' F' L' hf' hp).cw⟩
       |false=>
         rw[hb] at z1
         have :i≠id:=Nat.ne_of_beq_eq_false hb
         exact⟨_,f1,h1,nx1,0,z1,λ{β L F} hf hr Q kk=>Ct_ (z2 hf hr (blkK id Q) λβ' F' L' hf' hp=>by unfold blkK;simpa [this] using kk β' F' L' hf' hp).cw⟩
     . cases e1<;>first
         |exact absurd Y (hne _)
         |exact⟨_,f1,h1,nx1,0,z1,λ{β L F} hf hr Q kk=>Ct_ (z2 hf hr (blkK id Q) λβ' F' L' hf' hp=>by unfold blkK;simpa using kk β' F' L' hf' hp).cw⟩
   |loop b=>
     simp only[evC] at e
     obtain⟨e1,f1,h1,nx1,m1,z1,z2⟩:=ih _ _ _ _ _ _ _ e
     cases e1 with
     |normal=>
       simp only at z1
       obtain⟨e2,f2,h2,nx2,m2,y1,y2⟩:=ih _ _ _ _ _ _ _ z1
       refine⟨e2,f2,h2,nx2,m2+1,y1,λ{β L F} hf hr Q kk a w ha hm=>?_⟩
       rw[rounds_succ]
       refine wp_mono ((z2 hf hr (λex F' H' L'=>ex = .normal/\H'=H/\∃ β',FR β' f1.get F'/\Post β h nx L β' h1 nx1 L') λβ' F' L' hf' hp=>⟨rfl,rfl,β',hf',hp⟩).cw a w ha hm) λex a' w' hq=>?_
       obtain⟨F',H',L',ha',hm',rfl,rfl,β',hf',hp⟩:=hq
       exact y2 hf' hp.hr Q (λβ'' F'' L'' hf'' hp'=>kk β'' F'' L'' hf'' (hp.trans hp')) a' w' ha' hm'
     |_=>
       refine⟨_,f1,h1,nx1,1,z1,λ{β L F} hf hr Q kk a w ha hm=>?_⟩
       rw[rounds_succ]
       refine wp_mono ((z2 hf hr (λex F' H' L'=>ex ≠ .normal/\Q ex F' H' L') λβ' F' L' hf' hp=>⟨by simp,kk β' F' L' hf' hp⟩).cw a w ha hm) λex a' w' hq=>?_
       obtain⟨F',H',L',ha',hm',hne,hq⟩:=hq
       cases ex with
       |normal=>exact absurd Y hne
       |_=>exact⟨F',H',L',ha',hm',hq⟩
   |scope b=>
     simp only[evC] at e
     obtain⟨e1,f1,h1,nx1,m1,z1,z2⟩:=ih _ _ _ _ _ _ _ e
     cases e1 with
     |goto l=>simp only at z1;cases z1
     |_=>exact⟨_,f1,h1,nx1,0,z1,λ{β L F} hf hr Q kk=>Mo_ (z2 hf hr (scK Q) λβ' F' L' hf' hp=>by unfold scK;exact kk β' F' L' hf' hp).cw⟩
   |region id ops draw=>
     simp only[evC] at e
     have ho:ops.toList.toArray=ops:=by simp
     cases draw with
     |false=>
       obtain⟨f',h',nx',e1,e2⟩:=Q3_ (n:=n) hG hX hcl e
       refine⟨_,f',h',nx',0,e1,λ{β L F} hf hr Q kk=>?_⟩
       have :=P_ (id:=id) (e2 hf hr Q λβ' F' L' hf' hp=>kk β' F' L' hf' hp)
       rw[ho] at this;exact this
     |true=>
       obtain⟨f',h',nx',e1,e2⟩:=Sm_ (n:=n) (id:=id) hmx hG hX hcl e
       refine⟨_,f',h',nx',0,e1,λ{β L F} hf hr Q kk=>?_⟩
       have :=e2 hf hr Q λβ' F' L' hf' hp=>kk β' F' L' hf' hp
       rw[ho] at this;exact this
   |_=>first
     |(simp only[evC] at e;cases e;done)
     |(simp only[evC] at e;exact⟨_,f,h,nx,0,e,λ{β L F} hf hr Q kk=>I4_ (kk β F L hf (.refl hr))⟩)
def runE (P:Program) (G:Gt) (X:Xt) (C:Ct) (fu:Nat) (g:FuncId):Option Bool:=H6_ P G C (evC P G X C fu) g [] .e 0 λc _ _=>match c with
 | .bool b=>some b
 |_=>none
theorem L1_ {C:Ct} {fu:Nat} {g:FuncId} {b:Bool} (hmx:P.follows .mixedOrders=true) (hC:COk P G C) (hcb:CbO P) (hX:XOk P X) (e:runE P G X C fu g=some b) :
   Ac_ P g/\∀ H,GH G H->∀ N L w,Mem N H L w->Calls P g #[] w λen w'=>en = .returned (.bool b)/\Mem N H L w':=by
 have hc:Ac_ P g:=by
   unfold runE H6_ at e
   split at e
   . rename_i ck hck
     have :=hC _ _ hck
     cases ck<;>exact this.1
   split at e
   . rename_i fn hfn
     split at e
     . rename_i c hc
       exact hcb g fn hfn (by rw[hc];rfl)
     . cases e
   . cases e
 refine⟨hc,λH hG N L w hm=>?_⟩;obtain⟨c,h',nx',e1,e2⟩:=I0_ (N:=N.plus L) hG hC hcb (Pf_ hmx hC hcb hG hX fu) _ _ _ _ _ _ e;have hv:∀ {β:Be} {v:Value},VR β c v->v = .bool b:=λ{β v} hv=>by
   split at e1
   . simp only[Option.some.injEq] at e1;subst e1;simpa only[VR] using hv
   . cases e1
 exact e2.2 (λ_=>none) l0 [] w ⟨λi hb e=>by simp[Tr.get] at e,λi hb e=>by simp[Tr.get] at e,λ_ _=>⟨rfl,rfl⟩⟩ .nil hm.aside _ λβ' v L' w' h1 _ h3=>⟨by rw[hv h1],hm.back h3⟩
end
end Go.CE
namespace Go.CE
open Go.SW
variable {P:Program} {H:Hp} {G:Gt}
def GC (H:Hp) (g:Nat) (cs:List CV):Prop:=∃ vs T fr,H g=some (.cells vs T fr)/\∀ β,VRs β cs vs.toList
theorem GC.mono {H':Hp} {g:Nat} {cs:List CV} (h:GC H g cs) (hl:HLe H H'):GC H' g cs:=by
 obtain⟨vs,T,fr,e,h1⟩:=h;exact⟨vs,T,fr,hl _ _ e,h1⟩
theorem gh_nil:GH [] H:=⟨λg cs e=>by cases e⟩
theorem Ll_ {g:Nat} {cs:List CV} (h:GC H g cs) (k:GH G H):GH ((g,cs)::G) H:=⟨λg' cs' e=>by
 simp only[gbE] at e
 cases hb:Nat.beq g g' with
 |true=>rw[hb] at e;simp only[cond_true,Option.some.injEq] at e;subst e;rw[<- Nat.eq_of_beq_eq_true hb];exact h
 |false=>rw[hb] at e;exact k.h _ _ e⟩
theorem R5_ {β:Be} {k:IntKind}:∀ (zs:List Int),VRs β (zs.map (CV.int k)) (zs.map (Value.int k))
 |[]=> .nil
 |z::r=> .cons wG (R5_ r)
theorem Uf_ {g:Nat} {k:IntKind} {zs:List Int} (h:∃ T fr,H g=some (.cells (zs.map (Value.int k)).toArray T fr)):GC H g (zs.map (CV.int k)):=by
 obtain⟨T,fr,e⟩:=h;exact⟨_,T,fr,e,λβ=>R5_ zs⟩
def cS (s:Bs):CV:= .str s.length (enc s)
theorem R6_ {β:Be}:∀ (zs:List Bs),VRs β (zs.map cS) (zs.map SW.str)
 |[]=> .nil
 |z::r=> .cons (by simp only[cS,VR];exact⟨Mp_ z,by rw[I5_]⟩) (R6_ r)
theorem gc_str {g:Nat} {zs:List Bs} (h:∃ T fr,H g=some (.cells (zs.map SW.str).toArray T fr)):GC H g (zs.map cS):=by
 obtain⟨T,fr,e⟩:=h;exact⟨_,T,fr,e,λβ=>R6_ zs⟩
theorem xok_nil:XOk P []:=λg k e=>by cases e
theorem Gx_ {g:FuncId} {k:XK} {X:Xt} (h:XSp P g k) (r:XOk P X):XOk P ((g,k)::X):=λg' k' e=>by
 simp only[xkE] at e
 cases hb:Nat.beq g g' with
 |true=>rw[hb] at e;simp only[cond_true,Option.some.injEq] at e;subst e;rw[<- Nat.eq_of_beq_eq_true hb];exact h
 |false=>rw[hb] at e;exact r _ _ e
section
variable {f:FuncId} {fn:Func} (hf:P.funcs[f]? = some fn) (hname:(fn.name == "runtime.NumGoroutine")=false) (hb:fn.body.isNone=true) (hn:Extern.findNext fn=none)
include hf hname hb hn
theorem x_noesc (he:Extern.find fn=some Extern.AbiNoEscape.same):XSp P f .noesc:=M9_ hf hname hb hn he
theorem x_count (he:Extern.find fn=some Extern.BytealgCount.count):XSp P f .count:=λs c w=>by
 rw[run_callFunc_extern hf hname hb hn he]
 have :=Lib.run_countString (P:=P) ⟨s.toArray⟩ c w
 unfold SW.str
 rw[this];rfl
theorem x_ixb (he:Extern.find fn=some Extern.BytealgIndexByte.indexByte):XSp P f .ixb:=λs c w=>by
 rw[run_callFunc_extern hf hname hb hn he]
 have :=Lib.run_indexByteString (P:=P) ⟨s.toArray⟩ c w
 unfold SW.str
 rw[this];rfl
omit hf hname hb hn in
theorem Ii_:∀ (n t:Nat) (acc:Array Value),(∀ v∈acc.toList,v.oneCell'=true)->∀ v∈(Extern.BytealgMakeNoZero.digits n t acc).toList,v.oneCell'=true
 |0,t,acc,h=>by unfold Extern.BytealgMakeNoZero.digits;exact h
 |n+1,t,acc,h=>by
   unfold Extern.BytealgMakeNoZero.digits
   refine Ii_ n _ _ λv hv=>?_
   simp only[Array.toList_push,List.mem_append,List.mem_singleton] at hv
   rcases hv with hv|rfl
   . exact h v hv
   . rfl
theorem x_mknz {ps:Array TypeId} {t e:TypeId} (ht:P.underlying t=some (.slice e)) (he:Extern.find fn=some (Extern.BytealgMakeNoZero.makeNoZero ps #[t])):XSp P f (.mknz e):=λn w hn'=>by
 obtain⟨m1,m2,qq,hq,hdef⟩:∃ m1 m2 qq,Question.forced qq=false/\Extern.BytealgMakeNoZero.makeNoZero ps #[t] #[.int .i64 n] =
     (do
       let .slice elem <- underlying t|stuck m1
       if (n:Int)<0||(n:Int)>2 ^ 48 then runtimePanic (.error m2)
       let cap <- choose (.appendCap (n:Int).toNat 0 elem)
       askRoom cap
       let bytes <- choose qq
       let a <- newRow elem (Extern.BytealgMakeNoZero.digits cap bytes #[])
       pure (.slice (some a) (n:Int).toNat cap)):=⟨_,_,_,rfl,rfl⟩
 refine⟨(Extern.BytealgMakeNoZero.digits (grownCap w n 0 e) (qq.cut (w.tape (w.drawn+1) qq)) #[]).toList,?_,Ii_ _ _ _ (λv hv=>by cases hv),?_⟩
 . rw[Array.length_toList,Lib.size_digits]
   simpa using grownCap_ge w n 0 e
 . rw[run_callFunc_extern hf hname hb hn he,hdef]
   have h1:¬(n:Int)<0:=by omega
   have h2:¬(281474976710656:Int)<(n:Int):=by omega
   simp[run_underlying ht,h1,h2,hq,show Question.forced (.appendCap n 0 e)=false from rfl,newRow,Lib.size_digits,grownCap,Result.andThen,bx]
   rfl
end
theorem cok_nil:COk P G []:=λg k e=>by cases e
theorem G_ {g:FuncId} {k:CK} {C:Ct} (h:CSp P G g k) (r:COk P G C):COk P G ((g,k)::C):=λg' k' e=>by
 simp only[ckE] at e
 cases hb:Nat.beq g g' with
 |true=>rw[hb] at e;simp only[cond_true,Option.some.injEq] at e;subst e;rw[<- Nat.eq_of_beq_eq_true hb];exact h
 |false=>rw[hb] at e;exact r _ _ e
def cbB (P:Program):Bool:=P.funcs.toList.all λfn=>fn.body.isNone||!(fn.name == "runtime.NumGoroutine")
theorem cb_ok (h:cbB P=true):CbO P:=λg fn hf hb=>by
 have hm:fn∈P.funcs.toList:=Array.mem_toList_iff.2 (Array.mem_of_getElem? hf)
 have :=List.all_eq_true.1 h fn hm
 rw[hb] at this
 simp only[Bool.false_or,Bool.not_eq_true'] at this
 exact Cf_ hf this hb
theorem fn_run {Gb':Gb} {X:Xt} {C:Ct} {fu:Nat} {g:FuncId} (hg:∀ H,Gb'.p H->GH G H) (h:CSp P G g .yes):SW.Fn P Gb' g [] (.bool true):=
 ⟨h.1,rfl,λN H L w vs hp hs hm=>by
   cases hs.inv_nil
   exact (h.2 H (hg H hp) N L w hm).mono λe w' ⟨h1,h2⟩=>⟨_,H,h1,Sim.bool, .refl H,h2⟩⟩
end Go.CE
namespace Go.CE
open Go.SW
noncomputable section
variable {R:Type}
def opW (d:Option Tmp) (op:Op) (g:Option (Nat×Bool)) (P:Program) (G:Gt) (X:Xt) (cl:Cl R) (n:Nat) (all:List Oper) (f:Fe) (h:He) (nx:Nat) (k:Ke R):Option R:=
 Bool.rec (motive:=λ_=>Option R) none (Option.rec (motive:=λ_=>Option R) (opF op P G X cl f h nx k) (λg=>match gdE all f g.1 g.2 with
   |some true=>opF op P G X cl f h nx k
   |some false=>k (.tup []) h nx
   |none=>none) g) (okD op d&&dB n d)
theorem opW_eq {P:Program} {G:Gt} {X:Xt} {cl:Cl R} {n:Nat} {all:List Oper} {f:Fe} {h:He} {nx:Nat} {o:Oper} {k:Ke R}:opW o.dst o.op o.guard P G X cl n all f h nx k=opV P G X cl n all f h nx o k:=by
 obtain⟨d,op,ty,pos,af,g⟩:=o;unfold opW opV;simp only
 cases (okD op d&&dB n d) with
 |false=>rfl
 |true=>cases g<;>rfl
def setF (d:Option Tmp) (f:Ft) (c:CV) (k:Ft->Option R):Option R:=Option.rec (motive:=λ_=>Option R) (k f) (λd=>sS 24 d f c k) d
def opC (o:Oper) (ih:Program->Gt->Xt->Cl R->Nat->List Oper->Ft->He->Nat->Kf R->Option R) (P:Program) (G:Gt) (X:Xt) (cl:Cl R) (n:Nat) (all:List Oper) (f:Ft) (h:He) (nx:Nat) (k:Kf R):Option R:=
 Oper.rec (motive:=λ_=>Option R) (λd op _ _ _ g=>opW d op g P G X cl n all f.get h nx λc h nx=>setF d f c λf=>ih P G X cl n all f h nx k) o
def opsF (l:List Oper):Program->Gt->Xt->Cl R->Nat->List Oper->Ft->He->Nat->Kf R->Option R:=
 List.rec (motive:=λ_=>Program->Gt->Xt->Cl R->Nat->List Oper->Ft->He->Nat->Kf R->Option R) (λ_ _ _ _ _ _ f h nx k=>k f h nx) (λo _ ih=>opC o ih) l
theorem Q4_ {P:Program} {G:Gt} {X:Xt} {cl:Cl R} {n:Nat} {all:List Oper}:∀ {l:List Oper} {f:Ft} {h:He} {nx:Nat} {k:Kf R},opsF l P G X cl n all f h nx k=opsE P G X cl n all l f h nx k
 |[],f,h,nx,k=>rfl
 |o::r,f,h,nx,k=>by
   have ih:=λf h nx=>Q4_ (P:=P) (G:=G) (X:=X) (cl:=cl) (n:=n) (all:=all) (l:=r) (f:=f) (h:=h) (nx:=nx) (k:=k)
   show opC o (opsF r) P G X cl n all f h nx k=_
   unfold opC opsE
   rw[<- opW_eq]
   obtain⟨d,op,ty,pos,af,g⟩:=o
   simp only[ih]
   cases d<;>rfl
abbrev Rc (R:Type):=Code->Nat->Ft->He->Nat->Kx R->Option R
def kN (k:Kx R) (f:Ft) (h:He) (nx:Nat):Option R:=k .normal f h nx
def thn (e:Exit):(Ft->He->Nat->Option R)->Kx R->Ft->He->Nat->Option R:=match e with
 | .normal=>λa _=>a
 | .exit i=>λ_ k=>k (.exit i)
 | .goto i=>λ_ k=>k (.goto i)
 | .ret=>λ_ k=>k .ret
 | .panic c=>λ_ k=>k (.panic c)
 | .outgrown=>λ_ k=>k .outgrown
def blk (e:Exit):Nat->Kx R->Ft->He->Nat->Option R:=match e with
 | .normal=>λ_ k=>k .normal
 | .exit i=>λid k f h nx=>bif Nat.beq i id then k .normal f h nx else k (.exit i) f h nx
 | .goto i=>λ_ k=>k (.goto i)
 | .ret=>λ_ k=>k .ret
 | .panic c=>λ_ k=>k (.panic c)
 | .outgrown=>λ_ k=>k .outgrown
def scp (e:Exit):Kx R->Ft->He->Nat->Option R:=match e with
 | .normal=>λk=>k .normal
 | .exit i=>λk=>k (.exit i)
 | .goto _=>λ_ _ _ _=>none
 | .ret=>λk=>k .ret
 | .panic c=>λk=>k (.panic c)
 | .outgrown=>λk=>k .outgrown
def cSkip (P:Program) (G:Gt) (X:Xt) (C:Ct) (rc:Rc R) (n:Nat) (f:Ft) (h:He) (nx:Nat) (k:Kx R):Option R:=k .normal f h nx
def cExit (i:Nat) (P:Program) (G:Gt) (X:Xt) (C:Ct) (rc:Rc R) (n:Nat) (f:Ft) (h:He) (nx:Nat) (k:Kx R):Option R:=k (.exit i) f h nx
def cRet (P:Program) (G:Gt) (X:Xt) (C:Ct) (rc:Rc R) (n:Nat) (f:Ft) (h:He) (nx:Nat) (k:Kx R):Option R:=k .ret f h nx
def cNo (P:Program) (G:Gt) (X:Xt) (C:Ct) (rc:Rc R) (n:Nat) (f:Ft) (h:He) (nx:Nat) (k:Kx R):Option R:=none
def cSeq (a b:Code) (P:Program) (G:Gt) (X:Xt) (C:Ct) (rc:Rc R) (n:Nat) (f:Ft) (h:He) (nx:Nat) (k:Kx R):Option R:=rc a n f h nx λe f h nx=>thn e (λf h nx=>rc b n f h nx k) k f h nx
def cCond (x:Operand) (a b:Code) (P:Program) (G:Gt) (X:Xt) (C:Ct) (rc:Rc R) (n:Nat) (f:Ft) (h:He) (nx:Nat) (k:Kx R):Option R:=match ef f.get x with
 |some (.bool t)=>rc (Bool.rec (motive:=λ_=>Code) b a t) n f h nx k
 |_=>none
def T8_ (id:Nat) (b:Code) (P:Program) (G:Gt) (X:Xt) (C:Ct) (rc:Rc R) (n:Nat) (f:Ft) (h:He) (nx:Nat) (k:Kx R):Option R:=rc b n f h nx λe=>blk e id k
def cLoop (b:Code) (P:Program) (G:Gt) (X:Xt) (C:Ct) (rc:Rc R) (n:Nat) (f:Ft) (h:He) (nx:Nat) (k:Kx R):Option R:=rc b n f h nx λe f h nx=>thn e (λf h nx=>rc (.loop b) n f h nx k) k f h nx
def T9_ (b:Code) (P:Program) (G:Gt) (X:Xt) (C:Ct) (rc:Rc R) (n:Nat) (f:Ft) (h:He) (nx:Nat) (k:Kx R):Option R:=rc b n f h nx λe=>scp e k
def cReg (l:List Oper) (P:Program) (G:Gt) (X:Xt) (C:Ct) (rc:Rc R) (n:Nat) (f:Ft) (h:He) (nx:Nat) (k:Kx R):Option R:=opsF l P G X (H6_ P G C rc) n l f h nx (kN k)
def cDrw (l:List Oper) (P:Program) (G:Gt) (X:Xt) (C:Ct) (rc:Rc R) (n:Nat) (f:Ft) (h:He) (nx:Nat) (k:Kx R):Option R:=Sl_ P G X (H6_ P G C rc) n l f h nx (kN k)
def cD (c:Code):Program->Gt->Xt->Ct->Rc R->Nat->Ft->He->Nat->Kx R->Option R:=match c with
 | .skip=>cSkip
 | .label _=>cSkip
 | .seq a b=>cSeq a b
 | .cond x a b=>cCond x a b
 | .block id b=>T8_ id b
 | .loop b=>cLoop b
 | .scope b=>T9_ b
 | .exit i=>cExit i
 | .ret=>cRet
 | .region _ ops draw=>Bool.rec (motive:=λ_=>Program->Gt->Xt->Ct->Rc R->Nat->Ft->He->Nat->Kx R->Option R) (cReg ops.toList) (cDrw ops.toList) draw
 |_=>cNo
def evF (P:Program) (G:Gt) (X:Xt) (C:Ct) (fu:Nat):Rc R:=Nat.rec (motive:=λ_=>Rc R) (λ_ _ _ _ _ _=>none) (λ_ ih c=>cD c P G X C ih) fu
theorem Pg_ {P:Program} {G:Gt} {X:Xt} {C:Ct}:∀ (fu:Nat),(evF P G X C fu:Rc R)=evC P G X C fu
 |0=>by funext c n f h nx k;simp only[evC];rfl
 |fu+1=>by
   have ih:(evF P G X C fu:Rc R)=evC P G X C fu:=Pg_ fu
   funext c n f h nx k
   show cD c P G X C (evF P G X C fu) n f h nx k=_
   rw[ih]
   cases c with
   |seq a b=>simp only[evC,cD,cSeq];congr 1;funext e f h nx;cases e<;>rfl
   |cond x a b=>
     simp only[evC,cD,cCond]
     cases ef f.get x with
     |none=>rfl
     |some c=>
       cases c with
       |bool t=>cases t<;>rfl
       |_=>rfl
   |block id b=>simp only[evC,cD,T8_];congr 1;funext e f h nx;cases e<;>rfl
   |loop b=>simp only[evC,cD,cLoop];congr 1;funext e f h nx;cases e<;>rfl
   |scope b=>simp only[evC,cD,T9_];congr 1;funext e f h nx;cases e<;>rfl
   |region id ops draw=>
     cases draw with
     |false=>simp only[evC,cD,cReg];exact Q4_
     |true=>simp only[evC,cD,cDrw];rfl
   |_=>simp only[evC];rfl
def runF (P:Program) (G:Gt) (X:Xt) (C:Ct) (fu:Nat) (g:FuncId):Option Bool:=H6_ P G C (evF P G X C fu) g [] .e 0 λc _ _=>match c with
 | .bool b=>some b
 |_=>none
theorem V_ {P:Program} {G:Gt} {X:Xt} {C:Ct} {fu:Nat} {g:FuncId} (hmx:P.follows .mixedOrders=true) (hC:COk P G C) (hcb:CbO P) (hX:XOk P X) (e:runF P G X C fu g=some true):CSp P G g .yes:=by
 refine L1_ (X:=X) (C:=C) (fu:=fu) hmx hC hcb hX ?_;unfold runF at e;rw[Pg_] at e;exact e
end
end Go.CE
namespace Go.CE
open Go.SW
noncomputable section
variable {P:Program} {H:Hp} {h:He} {nx:Nat} {G:Gt} {X:Xt} {C:Ct}
def msB:List (CV×CV×Nat)->List (CV×CV×Nat)->Bool
 |[],[]=>true
 |a::r,b::s=>cvB a.1 b.1&&(cvB a.2.1 b.2.1&&(Nat.beq a.2.2 b.2.2&&msB r s))
 |_,_=>false
theorem Uz_:∀ {a b:List (CV×CV×Nat)},msB a b=true->a=b
 |[],b,e=>by cases b<;>simp only[msB,reduceCtorEq] at e;rfl
 |x::r,b,e=>by
   cases b with
   |nil=>simp only[msB,reduceCtorEq] at e
   |cons y s=>
     simp only[msB,Bool.and_eq_true] at e
     obtain⟨x1,x2,x3⟩:=x;obtain⟨y1,y2,y3⟩:=y
     simp only at e
     rw[J8_ e.1,J8_ e.2.1,Nat.eq_of_beq_eq_true e.2.2.1,Uz_ e.2.2.2]
def hbB:HB->HB->Bool
 | .cells T cs g, .cells T' cs' g'=>Nat.beq T T'&&(cvsB cs cs'&&(g==g'))
 | .bys T n x g, .bys T' n' x' g'=>Nat.beq T T'&&(Nat.beq n n'&&(Nat.beq x x'&&(g==g')))
 | .rob T n x, .rob T' n' x'=>Nat.beq T T'&&(Nat.beq n n'&&Nat.beq x x')
 | .itr n x p, .itr n' x' p'=>Nat.beq n n'&&(Nat.beq x x'&&Nat.beq p p')
 | .mp es k, .mp es' k'=>msB es es'&&Nat.beq k k'
 | .dead, .dead=>true
 |_,_=>false
theorem hbB_ok {a b:HB} (e:hbB a b=true):a=b:=by
 cases a<;>cases b<;>simp only[hbB,Bool.and_eq_true,beq_iff_eq,reduceCtorEq] at e<;>first
   |rfl
   |(rw[Nat.eq_of_beq_eq_true e.1,E3_ e.2.1,e.2.2])
   |(rw[Nat.eq_of_beq_eq_true e.1,Nat.eq_of_beq_eq_true e.2.1,Nat.eq_of_beq_eq_true e.2.2.1,e.2.2.2])
   |(rw[Nat.eq_of_beq_eq_true e.1,Nat.eq_of_beq_eq_true e.2.1,Nat.eq_of_beq_eq_true e.2.2])
   |(rw[Uz_ e.1,Nat.eq_of_beq_eq_true e.2])
def hasB (x:Option HB) (b:HB):Bool:=match x with
 |some a=>hbB a b
 |none=>false
theorem Ps_ {x:Option HB} {b:HB} (e:hasB x b=true):x=some b:=by
 cases x with
 |none=>cases e
 |some a=>rw[hbB_ok e]
abbrev Bl:=List (Nat×HB)
def setA {R:Type}:Bl->He->(He->Option R)->Option R
 |[],h,k=>k h
 |b::r,h,k=>Tr.setK 24 h b.1 b.2 λh=>setA r h k
def ov:Bl->Nat->Option HB->Option HB
 |[],_,x=>x
 |b::r,i,x=>ov r i (if i=b.1 then some b.2 else x)
theorem Jx_ {R:Type}:∀ {l:Bl} {h:He} {k:He->Option R} {r:R},setA l h k=some r->∃ h',k h'=some r/\∀ i,h'.get i=ov l i (h.get i)
 |[],h,k,r,e=>⟨h,e,λ_=>rfl⟩
 |b::l,h,k,r,e=>by
   simp only[setA] at e
   obtain⟨h1,e1,e2,e3⟩:=Tr.setK_ok _ _ _ _ _ _ e
   obtain⟨h',e4,e5⟩:=Jx_ e1
   refine⟨h',e4,λi=>?_⟩
   rw[e5,ov]
   by_cases q:i=b.1
   . rw[if_pos q,q,e2]
   . rw[if_neg q,e3 i q]
theorem Ee_:∀ {l:Bl} {i:Nat} {x:Option HB},(∀ b∈l,i≠b.1)->ov l i x=x
 |[],_,_,_=>rfl
 |b::l,i,x,h=>by rw[ov,if_neg (h b xP),Ee_ λc hc=>h c (by simp[hc])]
theorem Ly_:∀ {l:Bl} {i:Nat},(∃ b∈l,i=b.1)->∃ y,∀ x,ov l i x=some y
 |[],_,⟨b,hb,_⟩=>by cases hb
 |b::l,i,h=>by
   by_cases q:∃ c∈l,i=c.1
   . obtain⟨y,hy⟩:=Ly_ q;exact⟨y,λx=>by rw[ov,hy]⟩
   . obtain⟨c,hc,e⟩:=h
     rcases List.mem_cons.1 hc with rfl|hc
     . exact⟨c.2,λx=>by rw[ov,if_pos e,Ee_ λd hd k=>q ⟨d,hd,k⟩]⟩
     . exact absurd ⟨c,hc,e⟩ q
def allB (h:He):Bl->Bool
 |[]=>true
 |b::r=>hasB (h.get b.1) b.2&&allB h r
theorem Lb_ {h:He}:∀ {l:Bl},allB h l=true->∀ b∈l,h.get b.1=some b.2
 |[],_,b,hb=>by cases hb
 |c::r,e,b,hb=>by
   simp only[allB,Bool.and_eq_true] at e
   rcases List.mem_cons.1 hb with rfl|hb
   . exact Ps_ e.1
   . exact Lb_ e.2 b hb
def L3_ (h t:He):Bl->Bool
 |[]=>true
 | b::r=>(match t.get b.1 with
   |some y=>hasB (h.get b.1) y
   |none=>false)&&L3_ h t r
theorem Jv_ {h t:He}:∀ {l:Bl},L3_ h t l=true->∀ b∈l,∃ y,t.get b.1=some y/\h.get b.1=some y
 |[],_,b,hb=>by cases hb
 |c::r,e,b,hb=>by
   simp only[L3_,Bool.and_eq_true] at e
   rcases List.mem_cons.1 hb with rfl|hb
   . obtain⟨e1,_⟩:=e
     split at e1
     . rename_i y hy;exact⟨y,hy,Ps_ e1⟩
     . cases e1
   . exact Jv_ e.2 b hb
structure Sn where
 args:List CV
 nx:Nat
 I:Bl
 c:CV
 nx':Nat
 U:Bl
def runS (P:Program) (G:Gt) (X:Xt) (C:Ct) (fu:Nat) (g:FuncId) (S:Sn):Option Unit:=
 setA S.I .e λh=>H6_ P G C (evF P G X C fu) g S.args h S.nx λc h' nx'=>
   bif cvB c S.c&&Nat.beq nx' S.nx' then setA S.U h λt=>bif L3_ h' t S.I&&L3_ h' t S.U then some () else none else none
def snF (l:List Sn):List CV->He->Nat->Option (CV×He×Nat):=match l with
 |[]=>λ_ _ _=>none
 |S::r=>λargs h nx=>bif Nat.beq nx S.nx&&(cvsB args S.args&&allB h S.I) then setA S.U h λh=>some (S.c,h,S.nx') else snF r args h nx
theorem Rm_ {fu:Nat} {g:FuncId} {S:Sn} (hmx:P.follows .mixedOrders=true) (hC:COk P G C) (hcb:CbO P) (hX:XOk P X) (e:runS P G X C fu g S=some ()) {h0:He} (hi:allB h0 S.I=true) {t0:He} (ht:∀ i,t0.get i=ov S.U i (h0.get i)) {N:SW.Rest} (hG:GH G H):Cs P N H g S.args h0 S.nx S.c t0 S.nx':=by
 unfold runS at e;obtain⟨h,e1,g1⟩:=Jx_ e;rw[Pg_] at e1;obtain⟨c,h',nx',e2,hcs⟩:=I0_ (N:=N) (H:=H) hG hC hcb (Pf_ hmx hC hcb hG hX fu) _ _ _ _ _ _ e1
 cases q:(cvB c S.c&&Nat.beq nx' S.nx') with
 |false=>rw[q] at e2;cases e2
 |true=>
   rw[q] at e2;simp only[cond_true] at e2
   simp only[Bool.and_eq_true] at q
   have q1:=J8_ q.1;have q2:=Nat.eq_of_beq_eq_true q.2
   subst q1;subst q2
   obtain⟨t,e3,g2⟩:=Jx_ e2
   cases q3:(L3_ h' t S.I&&L3_ h' t S.U) with
   |false=>rw[q3] at e3;cases e3
   |true=>
     simp only[Bool.and_eq_true] at q3
     have s1:=Jv_ q3.1;have s2:=Jv_ q3.2
     have hI:=Lb_ hi
     have he:(Tr.e:He).get = λ_=>none:=by funext i;rfl
     have hle:∀ i y,h.get i=some y->h0.get i=some y:=λi y hy=>by
       by_cases k:∃ b∈S.I,i=b.1
       . obtain⟨b,hb,rfl⟩:=k
         obtain⟨z,hz⟩:=Ly_ ⟨b,hb,rfl⟩
         have :∀ (l:Bl),(∀ b∈l,h0.get b.1=some b.2)->∀ (x:Option HB) (j:Nat),x=none\/x=h0.get j->ov l j x=none\/ov l j x=h0.get j:=λl=>by
           induction l with
           |nil=>intro _ x j hx;exact hx
           |cons b r ih=>
             intro hl x j hx
             rw[ov]
             refine ih (λc hc=>hl c (by simp[hc])) _ j ?_
             by_cases q:j=b.1
             . rw[if_pos q,q,hl b xP];exact .inr Y
             . rw[if_neg q];exact hx
         rcases this S.I hI none b.1 (.inl rfl) with w|w
         . rw[hz] at w;cases w
         . rw[<- w,<- hy,g1,he]
       . rw[g1,Ee_ (λb hb k'=>k ⟨b,hb,k'⟩),he] at hy;cases hy
     refine⟨hcs.1,λβ L vs w hr hv hm R' kk=>?_⟩
     refine hcs.2 β L vs w ⟨λi y hy=>hr.br i y (hle i y hy),λi y hy=>hr.lt i y (hle i y hy),hr.fr⟩ hv hm R' λβ' v L' w' hv' hp hm'=>?_
     refine kk β' v L' w' hv' ⟨hp.le,hp.nle,⟨λi y hy=>?_,λi y hy=>?_,hp.hr.fr⟩,λi hn h0n=>?_⟩ hm'
     all_goals try rw[ht] at hy
     . by_cases k:∃ b∈S.U,i=b.1
       . obtain⟨z,hz⟩:=Ly_ k
         obtain⟨b,hb,rfl⟩:=k
         obtain⟨y',t1,t2⟩:=s2 b hb
         rw[g2,hz] at t1
         rw[hz] at hy
         cases hy.symm.trans t1
         exact hp.hr.br _ _ t2
       . rw[Ee_ (λb hb k'=>k ⟨b,hb,k'⟩)] at hy
         by_cases k2:∃ b∈S.I,i=b.1
         . obtain⟨b,hb,rfl⟩:=k2
           obtain⟨y',t1,t2⟩:=s1 b hb
           rw[g2,Ee_ (λb' hb' k'=>k ⟨b',hb',k'⟩)] at t1
           have :=hle _ _ t1
           rw[hy] at this;cases this
           exact hp.hr.br _ _ t2
         . have hn:h.get i=none:=by rw[g1,Ee_ (λb hb k'=>k2 ⟨b,hb,k'⟩),he]
           obtain⟨f1,f2,f3⟩:=hp.fr i (hr.lt _ _ hy) hn
           rw[f1];exact (hr.br _ _ hy).mono hp.le
     . by_cases k:∃ b∈S.U,i=b.1
       . obtain⟨b,hb,rfl⟩:=k
         obtain⟨y',t1,t2⟩:=s2 b hb
         exact hp.hr.lt _ _ t2
       . rw[Ee_ (λb hb k'=>k ⟨b,hb,k'⟩)] at hy
         exact Nat.lt_of_lt_of_le (hr.lt _ _ hy) hp.nle
     . have hn':h.get i=none:=by
         cases w:h.get i with
         |none=>rfl
         |some y=>rw[hle i y w] at h0n;cases h0n
       obtain⟨f1,f2,f3⟩:=hp.fr i hn hn'
       refine⟨f1,f2,?_⟩
       rw[ht,Ee_,h0n]
       intro b hb k
       subst k
       obtain⟨y',t1,t2⟩:=s2 b hb
       rw[f3] at t2;cases t2
theorem Rt_ {g:FuncId} (hcl:Ac_ P g):∀ {l:List Sn},(∀ S∈l,∀ (h0:He),allB h0 S.I=true->∀ t0:He,(∀ i,t0.get i=ov S.U i (h0.get i))->∀ N H,GH G H->Cs P N H g S.args h0 S.nx S.c t0 S.nx')->CSp P G g (.snap (snF l))
 |[],_=>⟨hcl,λargs h nx c h' nx' e=>by simp only[snF,reduceCtorEq] at e⟩
 | S::r,hs=>⟨hcl,λargs h nx c h' nx' e=>by
     simp only[snF] at e
     cases q:(Nat.beq nx S.nx&&(cvsB args S.args&&allB h S.I)) with
     |true=>
       rw[q] at e;simp only[cond_true] at e
       simp only[Bool.and_eq_true] at q
       obtain⟨q1,q2,q3⟩:=q
       have q1:=Nat.eq_of_beq_eq_true q1;have q2:=E3_ q2
       subst q1;subst q2
       obtain⟨t,e1,e2⟩:=Jx_ e
       simp only[Option.some.injEq,Prod.mk.injEq] at e1
       obtain⟨rfl,rfl,rfl⟩:=e1
       exact λN H hG=>hs S xP h q3 _ e2 N H hG
     |false=>
       rw[q] at e;simp only[cond_false] at e
       exact (Rt_ hcl λT hT=>hs T (by simp[hT])).2 args h nx c h' nx' e⟩
end
end Go.CE
namespace Go.CE
open Go.SW
variable {P:Program} {H:Hp} {G:Gt}
def rv:Nat->Nat->Nat
 |0,_=>0
 |k+1,n=>Nat.mod (Nat.div n (Nat.pow 256 k)) 256+256*rv k n
theorem Mq_:∀ k n,enc (numB k n)=rv k n
 |0,_=>rfl
 |k+1,n=>by
   simp only[numB,enc,rv,Mq_ k n]
   rw[show (UInt8.ofNat (n/256 ^ k)).toNat=n/256 ^ k%256 from by simp]
   rfl
def nK (b:Int):Nat:=match b with
 | .ofNat b=>bif Nat.ble b 8 then b else 8
 | .negSucc _=>0
theorem nK_eq (b:Int):nK b=numK b:=by
 unfold nK numK
 cases b with
 |ofNat b=>
   simp only
   cases h:Nat.ble b 8 with
   |true=>have :=Nat.le_of_ble_eq_true h;simp only[cond_true,Int.ofNat_eq_natCast];omega
   |false=>
     have :¬b<=8:=λq=>by rw[Nat.ble_eq_true_of_le q] at h;cases h
     simp only[cond_false,Int.ofNat_eq_natCast];omega
 |negSucc b=>simp only;omega
def numS:List CV->Option CV
 |[.agg [.str l x, .int .i64 e], .int .u64 (.ofNat n), .int .i64 (.ofNat b)]=>
   bif Nat.ble l 4611686018427387904&&(Nat.ble n 18446744073709551615&&Nat.ble b 9223372036854775807) then some (.agg [.str (l+nK (.ofNat b)) (Nat.add x (Nat.mul (rv (nK (.ofNat b)) n) (Nat.pow 256 l))), .int .i64 e]) else none
 |_=>none
theorem S6_ {g:FuncId} (hc:Ac_ P g) (h:∀ (H:Hp) (o:Out) (n:Int),0<=n/\n<=18446744073709551615->∀ (bytes:Int),-9223372036854775808<=bytes/\bytes<=9223372036854775807->o.s.length<=4611686018427387904->Pr P g #[.agg (Out.cells o).toArray, .int .u64 n, .int .i64 bytes] H (.agg (Out.cells (C0_ o n bytes)).toArray)):CSp P G g (.pure numS):=by
 refine⟨hc,λargs c e H hG β N L vs w hv hm=>?_⟩;unfold numS at e
 split at e
 . rename_i l x e0 n b
   cases hb:(Nat.ble l 4611686018427387904&&(Nat.ble n 18446744073709551615&&Nat.ble b 9223372036854775807)) with
   |false=>rw[hb] at e;cases e
   |true=>
     rw[hb] at e
     simp only[Bool.and_eq_true] at hb
     simp only[cond_true,Option.some.injEq] at e;subst e
     obtain⟨v1,us,rfl,h1,h2⟩:=hv.cons_inv
     obtain⟨v2,us,rfl,h3,h4⟩:=h2.cons_inv
     obtain⟨v3,us,rfl,h5,h6⟩:=h4.cons_inv
     rw[h6.nil_inv]
     simp only[VR] at h1 h3 h5
     obtain⟨ws,rfl,h1⟩:=h1
     obtain⟨u1,us,rfl,g1,g2⟩:=VRs.cons_inv h1
     obtain⟨u2,us,rfl,g3,g4⟩:=g2.cons_inv
     rw[g4.nil_inv]
     simp only[VR] at g1 g3
     obtain⟨hx,rfl⟩:=g1
     subst g3;subst h3;subst h5
     have hl:(dec l x).length=l:=D_ l x
     have :=h H ⟨dec l x,e0⟩ (Int.ofNat n) ⟨Int.natCast_nonneg _,by have :=Nat.le_of_ble_eq_true hb.2.1;simp only[Int.ofNat_eq_natCast];omega⟩ (Int.ofNat b) ⟨by simp only[Int.ofNat_eq_natCast];omega,by have :=Nat.le_of_ble_eq_true hb.2.2;simp only[Int.ofNat_eq_natCast];omega⟩ (by show (dec l x).length<=_;rw[hl];exact Nat.le_of_ble_eq_true hb.1) N L w hm
     refine this.mono λen w' ⟨h1,h2⟩=>⟨_,h1,?_,h2⟩
     simp only[C0_,Out.cells,VR]
     refine⟨_,rfl,?_⟩
     have hk:rv (nK (.ofNat b)) n=enc (numB (numK (.ofNat b)) n):=by rw[nK_eq,Mq_]
     have hk2:(numB (numK (.ofNat b)) n).length=numK (.ofNat b):=Gr_ _ _
     have hlt:=Mp_ (numB (numK (.ofNat b)) n)
     rw[hk2] at hlt
     refine VRs.cons ?_ (VRs.cons wG .nil)
     simp only[VR]
     rw[hk,nK_eq]
     refine⟨?_,?_⟩
     . show x+enc (numB (numK (Int.ofNat b)) n)*256 ^ l<_
       have e:256 ^ (l+numK (Int.ofNat b))=256 ^ numK (Int.ofNat b)*256 ^ l:=by rw[Nat.pow_add,Nat.mul_comm]
       have :(enc (numB (numK (Int.ofNat b)) n)+1)*256 ^ l<=256 ^ numK (Int.ofNat b)*256 ^ l:=Nat.mul_le_mul_right _ hlt
       exact yM
     . show _=SW.str (dec (l+numK (Int.ofNat b)) (x+enc (numB (numK (Int.ofNat b)) n)*256 ^ l))
       rw[<- E4_ l _ x _ hx]
       have e:=I5_ (numB (numK (Int.ofNat b)) n)
       rw[hk2] at e
       rw[e];rfl
 . cases e
def crcT':Nat:=9937593612760466100516450665319420528403982636753068485404800763335476026940182181175496972418787619281442302519629725716261212251300561153615832085954560
def tabN (i:Nat):Nat:=Nat.mod (Nat.div crcT' (Nat.pow 2 (Nat.mul 32 i))) 4294967296
theorem tabN_eq:∀ i,i<16->laidT.getD i 0=Int.ofNat (tabN i):=by decide +kernel
theorem Rx_ (i:Nat):tabN i<4294967296:=Nat.mod_lt _ xQ
def crcN (r:Nat):Nat:=Nat.xor (Nat.div r 16) (tabN (Nat.mod r 16))
theorem K8_ {a b:Nat} (ha:a<4294967296) (hb:b<4294967296):R8_ (Int.ofNat a) (Int.ofNat b)=Int.ofNat (Nat.xor a b):=by
 have hx:Nat.xor a b<4294967296:=Nat.xor_lt_two_pow (n:=32) ha hb;have e:(BitVec.ofInt (IntKind.bits .u32) (Int.ofNat a) ^^^ BitVec.ofInt (IntKind.bits .u32) (Int.ofNat b)).toNat=Nat.xor a b:=by
   rw[BitVec.toNat_xor,J7_,J7_]
   show (a%4294967296) ^^^ (b%4294967296)=_
   rw[Nat.mod_eq_of_lt ha,Nat.mod_eq_of_lt hb];rfl
 unfold R8_;rw[e];clear e;generalize Nat.xor a b=z at *;exact yW
theorem Or_ {a:Nat} (ha:a<4294967296):(Os_ (Int.ofNat a) 15).toNat=a%16:=by
 have e:(BitVec.ofInt (IntKind.bits .u32) (Int.ofNat a) &&& BitVec.ofInt (IntKind.bits .u32) 15).toNat=a%16:=by
   rw[BitVec.toNat_and,J7_,show (15:Int)=Int.ofNat 15 from rfl,J7_]
   show (a%4294967296) &&& (15%4294967296)=_
   rw[Nat.mod_eq_of_lt ha]
   exact Nat.and_two_pow_sub_one_eq_mod a 4
 unfold Os_;rw[e];exact yW
theorem Mm_ {a:Nat} (ha:a<4294967296):SW.crc1 (Int.ofNat a)=Int.ofNat (crcN a):=by
 unfold SW.crc1 crcN;rw[Or_ ha,tabN_eq _ (Nat.mod_lt _ xQ)];have e:Int.fdiv (Int.ofNat a) (2 ^ (min (4:Int).toNat (IntKind.bits .u32)))=Int.ofNat (a/16):=by
   show Int.fdiv (Int.ofNat a) 16=_
   rw[Int.fdiv_eq_ediv_of_nonneg _ xQ]
   rfl
 rw[e,K8_ xN (Rx_ _)];rfl
theorem crcN_lt {a:Nat} (ha:a<4294967296):crcN a<4294967296:=Nat.xor_lt_two_pow (n:=32) (show a/16<2 ^ 32 by omega) (Rx_ _)
def crcS:List CV->Option CV
 |[.int .u32 (.ofNat r), .int .u8 (.ofNat b)]=>bif Nat.blt r 4294967296&&Nat.blt b 256 then some (.int .u32 (.ofNat (crcN (crcN (Nat.xor r b))))) else none
 |_=>none
theorem H3_ {β:Be} {k:IntKind}:∀ {zs:List Int} {vs:List Value},VRs β (zs.map (CV.int k)) vs->vs=zs.map (Value.int k)
 |[],_,h=>h.nil_inv
 |z::r,_,h=>by
   obtain⟨v,us,rfl,h1,h2⟩:=VRs.cons_inv h
   simp only[VR] at h1
   subst h1
   rw[H3_ h2];rfl
theorem gh_tab {t:Nat} {zs:List Int} (h:GH G H) (e:gbE G t=some (zs.map (CV.int .u32))):GTab H t zs:=by
 obtain⟨vs,T,fr,h1,h2⟩:=h.h _ _ e;refine⟨T,fr,?_⟩;rw[<- H3_ (h2 λ_=>none)];simpa using h1
theorem Sg_ {g:FuncId} {t:Nat} (hg:gbE G t=some (laidT.map (CV.int .u32))) (hc:Ac_ P g) (h:∀ (H:Hp),GTab H t laidT->∀ (r:Int),0<=r/\r<=4294967295->∀ (b:Int),0<=b/\b<=255->Pr P g #[.int .u32 r, .int .u8 b] H (.int .u32 (I3_ r b))):CSp P G g (.pure crcS):=by
 refine⟨hc,λargs c e H hG β N L vs w hv hm=>?_⟩;unfold crcS at e
 split at e
 . rename_i r b
   cases hb:(Nat.blt r 4294967296&&Nat.blt b 256) with
   |false=>rw[hb] at e;cases e
   |true=>
     rw[hb] at e
     simp only[Bool.and_eq_true] at hb
     have hr:=Nat.le_of_ble_eq_true hb.1;have hb:=Nat.le_of_ble_eq_true hb.2
     simp only[cond_true,Option.some.injEq] at e;subst e
     obtain⟨v1,us,rfl,h1,h2⟩:=hv.cons_inv
     obtain⟨v2,us,rfl,h3,h4⟩:=h2.cons_inv
     rw[h4.nil_inv]
     simp only[VR] at h1 h3
     subst h1;subst h3
     refine (h H (gh_tab hG hg) (Int.ofNat r) ⟨Int.natCast_nonneg _,by simp only[Int.ofNat_eq_natCast];omega⟩ (Int.ofNat b) ⟨Int.natCast_nonneg _,by simp only[Int.ofNat_eq_natCast];omega⟩ N L w hm).mono λen w' ⟨h1,h2⟩=>⟨_,h1,?_,h2⟩
     simp only[VR]
     unfold I3_
     have hx:Nat.xor r b<4294967296:=Nat.xor_lt_two_pow (n:=32) xN xN
     rw[K8_ xN xN]
     simp only[Se_]
     rw[Mm_ hx,Mm_ (crcN_lt hx)]
 . cases e
end Go.CE
