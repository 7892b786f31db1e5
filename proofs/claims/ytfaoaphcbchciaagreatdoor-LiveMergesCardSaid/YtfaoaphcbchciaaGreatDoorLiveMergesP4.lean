/-
  A part of the proof of LiveMerges: Closed runs, regions that draw: one order, and what it shows of each operation whichever the order. Over any
-/
import Derived.Test.YtfaoaphcbchciaaGreatDoorLiveMergesP3
import Derived.LoopN
import Derived.Lib.Repeat
import Derived.Test.YtfaoaphcbchciaaGreatDoorLiveMergesP2
import Derived.Lib.MakeNoZero
set_option linter.unusedVariables false
set_option linter.unusedSimpArgs false
set_option maxRecDepth 100000
set_option maxHeartbeats 4000000
namespace Go.CE
open Go.SW
noncomputable section
variable {P:Program} {n:Nat} {N:SW.Rest} {H:Hp} {f:Fe} {h h0:He} {nx n0 base:Nat} {G:Gt} {X:Xt} {R:Type} {all:List Oper} {I:It} {D:Ds} {f0:Ft}
mutual
def cvB:CV->CV->Bool
 | .int k z, .int k' z'=>decide (k=k') && decide (z=z')
 | .bool b, .bool b'=>b==b'
 | .str n x, .str m y=>Nat.beq n m&&Nat.beq x y
 | .agg a, .agg b=>cvsB a b
 | .tup a, .tup b=>cvsB a b
 | .ptr i o, .ptr j p=>Nat.beq i j&&Nat.beq o p
 | .gp i o, .gp j p=>Nat.beq i j&&Nat.beq o p
 | .nilp, .nilp=>true
 | .sl i o l c, .sl j p m d=>Nat.beq i j&&(Nat.beq o p&&(Nat.beq l m&&Nat.beq c d))
 | .slu i o l c, .slu j p m d=>Nat.beq i j&&(Nat.beq o p&&(Nat.beq l m&&Nat.beq c d))
 | .nils, .nils=>true
 | .fn f a b, .fn g c d=>Nat.beq f g&&(cvsB a c&&cvsB b d)
 | .nilf, .nilf=>true
 | .mp i, .mp j=>Nat.beq i j
 | .nilm, .nilm=>true
 | .nili, .nili=>true
 |_,_=>false
def cvsB:List CV->List CV->Bool
 |[],[]=>true
 |a::r,b::s=>cvB a b&&cvsB r s
 |_,_=>false
end
mutual
theorem F6_:∀ {a b:CV},cvB a b=true->a=b
 | .int k z,b,e=>by cases b<;>simp only[cvB,Bool.and_eq_true,decide_eq_true_eq,reduceCtorEq] at e;rw[e.1,e.2]
 | .bool x,b,e=>by cases b<;>simp only[cvB,reduceCtorEq,beq_iff_eq] at e;rw[e]
 | .str n x,b,e=>by
   exact zC
 | .agg a,b,e=>by cases b<;>simp only[cvB,reduceCtorEq] at e;rw[Cj_ e]
 | .tup a,b,e=>by cases b<;>simp only[cvB,reduceCtorEq] at e;rw[Cj_ e]
 | .ptr i o,b,e=>by
   exact zC
 | .gp i o,b,e=>by
   exact zC
 | .nilp,b,e=>by cases b<;>simp only[cvB,reduceCtorEq] at e;rfl
 | .sl i o l c,b,e=>by
   exact zB
 | .slu i o l c,b,e=>by
   exact zB
 | .nils,b,e=>by cases b<;>simp only[cvB,reduceCtorEq] at e;rfl
 | .fn f x y,b,e=>by
   cases b<;>simp only[cvB,Bool.and_eq_true,reduceCtorEq] at e
   rw[Nat.eq_of_beq_eq_true e.1,Cj_ e.2.1,Cj_ e.2.2]
 | .nilf,b,e=>by cases b<;>simp only[cvB,reduceCtorEq] at e;rfl
 | .mp i,b,e=>by cases b<;>simp only[cvB,reduceCtorEq] at e;rw[Nat.eq_of_beq_eq_true e]
 | .nilm,b,e=>by cases b<;>simp only[cvB,reduceCtorEq] at e;rfl
 | .ifc _ _,b,e=>by cases b<;>simp only[cvB,reduceCtorEq] at e
 | .nili,b,e=>by cases b<;>simp only[cvB,reduceCtorEq] at e;rfl
theorem Cj_:∀ {a b:List CV},cvsB a b=true->a=b
 |[],b,e=>by cases b<;>simp only[cvsB,reduceCtorEq] at e;rfl
 |x::r,b,e=>by
   cases b with
   |nil=>simp only[cvsB,reduceCtorEq] at e
   |cons y s=>simp only[cvsB,Bool.and_eq_true] at e;rw[F6_ e.1,Cj_ e.2]
end
def chkV (P:Program) (G:Gt) (n:Nat) (all:List Oper) (f:Fe) (o:Oper) (b:Nat) (h0:He):List (Nat×He)->Option CV
 |[]=>opQV P G n all f h0 o
 |(w,h)::r=>match opQV P G n all f h o with
   | some c=>bif tb b w then some c else (match chkV P G n all f o b h0 r with
     |some d=>bif cvB c d then some c else none
     |none=>none)
   |none=>none
def valV (P:Program) (G:Gt) (n:Nat) (all:List Oper) (f:Fe) (o:Oper) (b:Nat) (h0:He) (vs:List (Nat×He)):Option CV:=bif La_ o.op then chkV P G n all f o b h0 vs else opQV P G n all f h0 o
def mskE (D:Ds) (i b:Nat) (f:Ft):Fe:=λt=>match D.get t with
 |none=>f.get t
 |some (j,bj)=>bif Nat.beq j i||(tb b j||tb bj i) then f.get t else none
def segE (P:Program) (G:Gt) (X:Xt) (cl:Cl R) (n base:Nat) (all:List Oper) (I:It) (D:Ds) (h0:He):List Nat->Ft->He->Nat->List (Nat×He)->Nat->Kf R->Option R
 |[],f,h,nx,_,pb,k=>bif subB (Nat.sub (Nat.pow 2 all.length) 1) pb then k f h nx else none
 |i::r,f,h,nx,vs,pb,k=>match I.get i with
   | some (o,b)=>bif tb pb i then none else bif subB b pb then (match okO P o.op with
     | .v=>match valV P G n all (mskE D i b f) o b h0 vs with
       |some c=>setD f o.dst c λf=>segE P G X cl n base all I D h0 r f h nx vs (Nat.lor pb (Nat.pow 2 i)) k
       |none=>none
     | .a=>match opAV P n all (mskE D i b f) (base+i) o with
       |some (c,hb)=>Tr.setK 40 h (base+i) hb λh=>setD f o.dst c λf=>segE P G X cl n base all I D h0 r f h nx vs (Nat.lor pb (Nat.pow 2 i)) k
       |none=>none
     | .w=>bif subB pb b then opV P G X cl n all (mskE D i b f) h nx o λc h nx=>setD f o.dst c λf=>segE P G X cl n base all I D h0 r f h nx ((i,h)::vs) (Nat.lor pb (Nat.pow 2 i)) k else none) else none
   |none=>none
structure Rec where
 i:Nat
 o:Oper
 b:Nat
 c:CV
 h:He
 nx:Nat
 hb:HB
def hcur (h0:He):List Rec->He
 |[]=>h0
 |q::_=>q.h
def ncur (n0:Nat):List Rec->Nat
 |[]=>n0
 |q::_=>q.nx
def vOf (P:Program):List Rec->List (Nat×He)
 |[]=>[]
 |q::r=>match okO P q.o.op with
   | .w=>(q.i,q.h)::vOf P r
   |_=>vOf P r
def Du_ (P:Program) (n:Nat) (N:SW.Rest) (H:Hp) (all:List Oper) (h0:He) (fe:Fe) (o:Oper) (b:Nat) (c:CV):List Rec->Prop
 |[]=>OpQ P n N H all fe h0 o c
 |q::r=>match okO P q.o.op with
   | .w=>OpQ P n N H all fe q.h o c/\(tb b q.i=true\/Du_ P n N H all h0 fe o b c r)
   |_=>Du_ P n N H all h0 fe o b c r
theorem Fc_ {o:Oper} {b:Nat} (hG:GH G H):∀ {pre:List Rec} {c:CV},chkV P G n all f o b h0 (vOf P pre)=some c->Du_ P n N H all h0 f o b c pre
 |[],c,e=>Eb_ hG e
 |q::r,c,e=>by
   unfold vOf at e
   unfold Du_
   split at e
   . rename_i ho
     simp only[chkV] at e
     split at e
     . rename_i c0 hc
       cases hb:tb b q.i with
       |true=>
         rw[hb] at e;simp only[cond_true,Option.some.injEq] at e;subst e
         exact⟨Eb_ hG hc, .inl Y⟩
       |false=>
         rw[hb] at e;simp only[cond_false] at e
         split at e
         . rename_i d hd
           cases hcd:cvB c0 d with
           |false=>rw[hcd] at e;cases e
           |true=>
             rw[hcd] at e;simp only[cond_true,Option.some.injEq] at e;subst e
             have :=F6_ hcd;subst this
             exact⟨Eb_ hG hc, .inr (Fc_ hG hd)⟩
         . cases e
     . cases e
   . rename_i ho
     cases hk:okO P q.o.op with
     |w=>exact absurd hk ho
     |v=>exact Fc_ hG e
     |a=>exact Fc_ hG e
theorem Fw_ {o:Oper} {b:Nat} (hG:GH G H) {c:CV} (hl:La_ o.op=false) (e:opQV P G n all f h0 o=some c):∀ {pre:List Rec},Du_ P n N H all h0 f o b c pre
 |[]=>Eb_ hG e
 |q::r=>by
   unfold Du_
   cases hk:okO P q.o.op with
   |w=>exact⟨Eb_ hG ((Lw_ (h:=q.h) h0 hl).trans e), .inr (Fw_ hG hl e)⟩
   |v=>exact Fw_ hG hl e
   |a=>exact Fw_ hG hl e
theorem valV_ok {o:Oper} {b:Nat} (hG:GH G H) {pre:List Rec} {c:CV} (e:valV P G n all f o b h0 (vOf P pre)=some c):Du_ P n N H all h0 f o b c pre:=by
 unfold valV at e
 cases hl:La_ o.op with
 |true=>rw[hl] at e;exact Fc_ hG e
 |false=>rw[hl] at e;exact Fw_ hG hl e
def Fok (all:List Oper) (I:It) (f0:Ft) (pre:List Rec) (i b:Nat) (fe:Fe):Prop:=
 ∀ t c,fe t=some c->(∃ q∈pre,q.o.dst=some t/\q.c=c/\tb b q.i=true)\/(f0.get t=some c/\∀ j o bj,I.get j=some (o,bj)->o.dst=some t->j=i\/tb bj i=true)
def Kind (P:Program) (n:Nat) (N:SW.Rest) (H:Hp) (all:List Oper) (base n0:Nat) (h0:He) (pre:List Rec) (x:Rec) (fe:Fe):Prop:=match okO P x.o.op with
 | .v=>x.h=hcur h0 pre/\x.nx=ncur n0 pre/\Du_ P n N H all h0 fe x.o x.b x.c pre
 | .a=>x.nx=ncur n0 pre/\AOk P n N H all fe (base+x.i) x.o x.c x.hb/\x.h.get (base+x.i)=some x.hb/\∀ j,j≠base+x.i->x.h.get j=(hcur h0 pre).get j
 | .w=>(∀ q∈pre,tb x.b q.i=true)/\OpA P n N H all fe (hcur h0 pre) (ncur n0 pre) x.o x.c x.h x.nx
structure Loc (P:Program) (n:Nat) (N:SW.Rest) (H:Hp) (all:List Oper) (I:It) (f0:Ft) (base n0:Nat) (h0:He) (pre:List Rec) (x:Rec):Prop where
 g:I.get x.i=some (x.o,x.b)
 u:∀ q∈pre,q.i≠x.i
 s:∀ j,tb x.b j=true->∃ q∈pre,q.i=j
 k:∃ fe,Fok all I f0 pre x.i x.b fe/\Kind P n N H all base n0 h0 pre x fe
def Good (P:Program) (n:Nat) (N:SW.Rest) (H:Hp) (all:List Oper) (I:It) (f0:Ft) (base n0:Nat) (h0:He):List Rec->Prop
 |[]=>True
 |x::pre=>Good P n N H all I f0 base n0 h0 pre/\Loc P n N H all I f0 base n0 h0 pre x
theorem C6_ {full:List Rec} (hg:Good P n N H all I f0 base n0 h0 full) {x:Rec} (hx:x∈full):∃ pre,(x::pre) <:+ full/\Loc P n N H all I f0 base n0 h0 pre x:=by
 induction full with
 |nil=>cases hx
 |cons y r ih=>
   rcases List.mem_cons.1 hx with rfl|hx
   . exact⟨r,List.suffix_refl _,hg.2⟩
   . obtain⟨pre,h1,h2⟩:=ih hg.1 hx
     exact⟨pre,h1.trans (List.suffix_cons _ _),h2⟩
theorem Fm_ {full:List Rec} (hg:Good P n N H all I f0 base n0 h0 full) {x:Rec} {pre:List Rec} (hx:(x::pre) <:+ full):Loc P n N H all I f0 base n0 h0 pre x:=by
 obtain⟨s,rfl⟩:=hx
 induction s with
 |nil=>exact hg.2
 |cons y s ih=>exact ih hg.1
theorem Bf_ {full:List Rec} (hg:Good P n N H all I f0 base n0 h0 full) {x y:Rec} (hx:x∈full) (hy:y∈full) (e:x.i=y.i):x=y:=by
 induction full with
 |nil=>cases hx
 |cons z r ih=>
   rcases List.mem_cons.1 hx with h1|h1<;>rcases List.mem_cons.1 hy with h2|h2
   . rw[h1,h2]
   . subst h1;exact absurd e.symm (hg.2.u y h2)
   . subst h2;exact absurd e (hg.2.u x h1)
   . exact ih hg.1 h1 h2
structure SR (P:Program) (f0:Ft) (pre:List Rec) (f:Ft) (vs:List (Nat×He)) (pb:Nat):Prop where
 f:∀ t c,f.get t=some c->(∃ q∈pre,q.o.dst=some t/\q.c=c)\/(f0.get t=some c/\∀ q∈pre,q.o.dst≠some t)
 vs:vs=vOf P pre
 pb:∀ j,tb pb j=true↔∃ q∈pre,q.i=j
theorem SR.put {pre:List Rec} {f f':Ft} {vs vs':List (Nat×He)} {pb:Nat} (hs:SR P f0 pre f vs pb) {x:Rec} (h1:SetD f x.o.dst x.c f') (h2:vs'=vOf P (x::pre)):SR P f0 (x::pre) f' vs' (Nat.lor pb (Nat.pow 2 x.i)):=by
 refine⟨λt c e=>?_,h2,λj=>?_⟩
 . cases hd:x.o.dst with
   |none=>
     rw[hd] at h1;simp only[SetD] at h1;subst h1
     rcases hs.f t c e with ⟨q,q1,q2⟩|⟨q1,q2⟩
     . exact .inl ⟨q,List.mem_cons_of_mem _ q1,q2⟩
     . exact .inr ⟨q1,λq hq=>by rcases List.mem_cons.1 hq with rfl|hq;(rw[hd];simp);exact q2 q hq⟩
   |some d=>
     rw[hd] at h1;simp only[SetD] at h1
     by_cases q:t=d
     . subst q;rw[h1.1] at e;cases e;exact .inl ⟨x,List.mem_cons_self,hd,rfl⟩
     . rw[h1.2 t q] at e
       rcases hs.f t c e with ⟨q,q1,q2⟩|⟨q1,q2⟩
       . exact .inl ⟨q,List.mem_cons_of_mem _ q1,q2⟩
       . exact .inr ⟨q1,λy hy=>by rcases List.mem_cons.1 hy with rfl|hy;(rw[hd];simp;exact λz=>q z.symm);exact q2 y hy⟩
 rw[Jk_,Mo_];simp only[Bool.or_eq_true,decide_eq_true_eq,List.mem_cons];constructor;rintro (z|z);obtain⟨q,q1,q2⟩:=(hs.pb j).1 z;exact⟨q, .inr q1,q2⟩;exact⟨x, .inl Y,z⟩;rintro⟨q,rfl|q1,q2⟩;exact .inr q2;exact .inl ((hs.pb j).2 ⟨q,q1,q2⟩)
theorem msk_ok (hp:PI all I D all.length) {pre:List Rec} (hg:Good P n N H all I f0 base n0 h0 pre) {ft:Ft} {vs:List (Nat×He)} {pb i b:Nat} (hs:SR P f0 pre ft vs pb) (hb:subB b pb=true) (hi:tb pb i=false):Fok all I f0 pre i b (mskE D i b ft):=by
 have hu:∀ q∈pre,I.get q.i=some (q.o,q.b):=λq hq=>(C6_ hg hq).elim λ_ z=>z.2.g;have hD:∀ j o bj t,I.get j=some (o,bj)->o.dst=some t->D.get t=some (j,bj):=λj o bj t e hd=>by
   obtain⟨a1,a2,_⟩:=hp.a j o bj e
   obtain⟨b',b1,b2⟩:=hp.c j o t a1 a2 hd
   rw[e] at b2;simp only[Option.some.injEq,Prod.mk.injEq] at b2;rw[b2.2];exact b1
 intro t c e;unfold mskE at e
 split at e
 . rename_i hDn
   rcases hs.f t c e with ⟨q,q1,q2,_⟩|⟨q1,q2⟩
   . rw[hD _ _ _ _ (hu q q1) q2] at hDn;cases hDn
   exact .inr ⟨q1,λj o bj hj hd=>by rw[hD _ _ _ _ hj hd] at hDn;cases hDn⟩
 . rename_i j bj hDj
   cases hc:(Nat.beq j i||(tb b j||tb bj i)) with
   |false=>rw[hc] at e;cases e
   |true=>
     rw[hc] at e
     simp only[cond_true] at e
     simp only[Bool.or_eq_true] at hc
     rcases hs.f t c e with ⟨q,q1,q2,q3⟩|⟨q1,q2⟩
     . have :=hD _ _ _ _ (hu q q1) q2
       rw[hDj] at this;simp only[Option.some.injEq,Prod.mk.injEq] at this
       obtain⟨z1,z2⟩:=this
       have hne:tb pb j=true:=(hs.pb j).2 ⟨q,q1,z1.symm⟩
       rcases hc with hc|hc|hc
       . rw[Nat.eq_of_beq_eq_true hc] at hne;rw[hne] at hi;cases hi
       . exact .inl ⟨q,q1,q2,q3,z1 ▸ hc⟩
       . obtain⟨pre',p1,p2⟩:=C6_ hg q1
         obtain⟨y,y1,y2⟩:=p2.s i (z2 ▸ hc)
         have :tb pb i=true:=(hs.pb i).2 ⟨y,p1.subset (List.mem_cons_of_mem _ y1),y2⟩
         rw[this] at hi;cases hi
     . refine .inr ⟨q1,λj' o' bj' hj' hd'=>?_⟩
       have :=hD _ _ _ _ hj' hd'
       rw[hDj] at this;simp only[Option.some.injEq,Prod.mk.injEq] at this
       obtain⟨rfl,rfl⟩:=this
       rcases hc with hc|hc|hc
       . exact .inl (Nat.eq_of_beq_eq_true hc)
       . obtain⟨y,y1,y2⟩:=(hs.pb j).1 (F0_ hb hc)
         exact absurd ((by
           have :=hu y y1
           rw[y2,hj'] at this;simp only[Option.some.injEq,Prod.mk.injEq] at this
           rw[<- this.1];exact hd'):y.o.dst=some t) (q2 y y1)
       . exact .inr hc
theorem vOf_v {x:Rec} {pre:List Rec} (e:okO P x.o.op ≠ .w):vOf P (x::pre)=vOf P pre:=by
 conv=>lhs;unfold vOf
 split
 . rename_i h;exact absurd h e
 rfl
theorem vOf_w {x:Rec} {pre:List Rec} (e:okO P x.o.op = .w):vOf P (x::pre)=(x.i,x.h)::vOf P pre:=by
 conv=>lhs;unfold vOf
 rw[e]
theorem I0_ {cl:Cl R} (hG:GH G H) (hX:XOk P X) (hcl:ClOk P N H cl) (hp:PI all I D all.length):∀ {pl:List Nat} {pre:List Rec} {ft:Ft} {vs:List (Nat×He)} {pb:Nat} {k:Kf R} {r:R},
   Good P n N H all I f0 base n0 h0 pre->SR P f0 pre ft vs pb->segE P G X cl n base all I D h0 pl ft (hcur h0 pre) (ncur n0 pre) vs pb k=some r ->
   ∃ full f' vs' pb',k f' (hcur h0 full) (ncur n0 full)=some r/\Good P n N H all I f0 base n0 h0 full/\SR P f0 full f' vs' pb'/\∀ j,j<all.length->∃ q∈full,q.i=j
 |[],pre,ft,vs,pb,k,r,hg,hs,e=>by
   simp only[segE] at e
   cases hb:subB (Nat.sub (Nat.pow 2 all.length) 1) pb with
   |false=>rw[hb] at e;cases e
   |true=>
     rw[hb] at e
     refine⟨pre,ft,vs,pb,e,hg,hs,λj hj=>(hs.pb j).1 (F0_ hb ?_)⟩
     rw[Mn_]
     have :=Nat.testBit_two_pow_sub_one all.length j
     rw[show Nat.sub (Nat.pow 2 all.length) 1=2 ^ all.length-1 from rfl,this]
     simpa using hj
 |i::rest,pre,ft,vs,pb,k,r,hg,hs,e=>by
   simp only[segE] at e
   split at e
   . rename_i o b hI
     cases h1:tb pb i with
     |true=>rw[h1] at e;cases e
     |false=>
       rw[h1] at e
       simp only[cond_false] at e
       cases h2:subB b pb with
       |false=>rw[h2] at e;cases e
       |true=>
         rw[h2] at e
         simp only[cond_true] at e
         have hfe:=msk_ok hp hg hs h2 h1
         have hun:∀ q∈pre,q.i≠i:=λq hq z=>by
           have :=(hs.pb i).2 ⟨q,hq,z⟩;rw[h1] at this;cases this
         have hsu:∀ j,tb b j=true->∃ q∈pre,q.i=j:=λj hj=>(hs.pb j).1 (F0_ h2 hj)
         split at e
         . rename_i hk
           split at e
           . rename_i c hc
             obtain⟨f1,e1,e2⟩:=Fz_ e
             rw[hs.vs] at hc
             have hv:=valV_ok (N:=N) hG hc
             refine I0_ (pre:=⟨i,o,b,c,hcur h0 pre,ncur n0 pre, .dead⟩::pre) hG hX hcl hp ⟨hg,⟨hI,hun,hsu,_,hfe,?_⟩⟩ (hs.put (x:=⟨i,o,b,c,hcur h0 pre,ncur n0 pre, .dead⟩) e2 xZ) e1
             unfold Kind;simp only[hk];exact⟨trivial,trivial,hv⟩
           . cases e
         . rename_i hk
           split at e
           . rename_i c hb hc
             obtain⟨h',e1,e2,e3⟩:=Tr.setK_ok _ _ _ _ _ _ e
             obtain⟨f1,e4,e5⟩:=Fz_ e1
             have ha:AOk P n N H all (mskE D i b ft) (base+i) o c hb:=opA_ok hc
             refine I0_ (pre:=⟨i,o,b,c,h',ncur n0 pre,hb⟩::pre) hG hX hcl hp ⟨hg,⟨hI,hun,hsu,_,hfe,?_⟩⟩ (hs.put (x:=⟨i,o,b,c,h',ncur n0 pre,hb⟩) e5 xZ) e4
             unfold Kind;simp only[hk];exact⟨trivial,ha,e2,e3⟩
           . cases e
         . rename_i hk
           cases h3:subB pb b with
           |false=>rw[h3] at e;cases e
           |true=>
             rw[h3] at e
             simp only[cond_true] at e
             obtain⟨c,h',nx',e1,e2⟩:=Pj_ (n:=n) hG hX hcl e
             obtain⟨f1,e4,e5⟩:=Fz_ e1
             refine I0_ (pre:=⟨i,o,b,c,h',nx', .dead⟩::pre) hG hX hcl hp ⟨hg,⟨hI,hun,hsu,_,hfe,?_⟩⟩ (hs.put (x:=⟨i,o,b,c,h',nx', .dead⟩) e5 (by rw[vOf_w hk,hs.vs])) e4
             unfold Kind;simp only[hk];exact⟨λq hq=>F0_ h3 ((hs.pb _).2 ⟨q,hq,rfl⟩),e2⟩
   . cases e
end
end Go.CE
namespace Go.CE
open Go.SW
noncomputable section
variable {P:Program} {n:Nat} {N:SW.Rest} {H:Hp} {f:Fe} {h h0:He} {nx n0 base:Nat} {G:Gt} {X:Xt} {R:Type} {all:List Oper} {I:It} {D:Ds} {f0:Ft}
structure MI (P:Program) (all:List Oper) (I:It) (f0:Ft) (base n0:Nat) (h0:He) (full:List Rec) (β0:Be) (L0:Ls) (listed:Array Bool) (β:Be) (L:Ls) (F:Fr) (vp:List Rec):Prop where
 sz:listed.size=all.length
 cl:∀ i o b,I.get i=some (o,b)->listed.getD i false=true->∀ j,tb b j=true->listed.getD j false=true
 vs:vp <:+ full
 vh:∀ q r,vp=q::r->okO P q.o.op = .w
 vl:∀ q∈vp,listed.getD q.i false=true
 vn:∀ q∈full,okO P q.o.op = .w->listed.getD q.i false=true->q∈vp
 hr:HR β (hcur h0 vp) (ncur n0 vp) L
 nb:base+all.length<=ncur n0 vp
 ex:∀ q∈full,q∉vp->okO P q.o.op = .a->(hcur h0 vp).get (base+q.i)=none/\(listed.getD q.i false=true->BR β (base+q.i) q.hb (L (base+q.i)))/\(listed.getD q.i false=false->β (base+q.i)=none/\L (base+q.i)=none)
 fr:∀ t c,f0.get t=some c->(∀ q∈full,listed.getD q.i false=true->q.o.dst≠some t)->VR β c (F t)
 fd:∀ q∈full,listed.getD q.i false=true->∀ t,q.o.dst=some t->VR β q.c (F t)
 le:β0.le β
 ou:∀ i,i<base->h0.get i=none->L i=L0 i/\β i=β0 i/\(hcur h0 vp).get i=none
theorem Oc_ {α:Type} {x:α} {a b full:List α} (h1:a <:+ full) (h2:(x::b) <:+ full) (hx:x∉a):a <:+ b:=by
 rcases List.suffix_or_suffix_of_suffix h1 h2 with h|h
 . rcases List.suffix_cons_iff.1 h with h|h
   subst h;exact absurd List.mem_cons_self hx
   exact h
 exact absurd (h.subset List.mem_cons_self) hx
theorem HR.see {β:Be} {L:Ls} {h':He} {j:Nat} {hb:HB} (hr:HR β h nx L) (hj:j<nx) (h1:h'.get j=some hb) (h2:∀ i,i≠j->h'.get i=h.get i) (hB:BR β j hb (L j)):HR β h' nx L:=by
 refine⟨λi b e=>?_,λi b e=>?_,hr.fr⟩;by_cases q:i=j
 . subst q;rw[h1] at e;cases e;exact hB
 rw[h2 i q] at e;exact hr.br i b e;by_cases q:i=j;subst q;exact hj;rw[h2 i q] at e;exact hr.lt i b e
theorem HR.hid {β:Be} {L:Ls} {j:Nat} {q:Pl} {x:Option (Nat×Obj)} (hr:HR β h nx L) (hj:j<nx) (h0:h.get j=none) (hb:β j=none):HR (bset β j q) h nx (lupd L j x):=by
 refine⟨λi b e=>?_,hr.lt,λi hi=>?_⟩;have :i≠j:=λz=>by subst z;rw[h0] at e;cases e
 rw[C_ _ _ _ _ this];exact (hr.br i b e).mono (Ar_ hb);have :i≠j:=by omega
 rw[C_ _ _ _ _ this];refine⟨?_,(hr.fr i hi).2⟩;unfold bset;rw[if_neg this];exact (hr.fr i hi).1
theorem hr_up (hp:PI all I D all.length) {full:List Rec} (hg:Good P n N H all I f0 base n0 h0 full) {β:Be} {L:Ls} {vp:List Rec} (hr:HR β (hcur h0 vp) (ncur n0 vp) L) (hn:base+all.length<=ncur n0 vp)
   :∀ (mid:List Rec),(mid++vp) <:+ full->(∀ q∈mid,q∉vp/\okO P q.o.op ≠ .w/\(okO P q.o.op = .a->BR β (base+q.i) q.hb (L (base+q.i)))) ->
   HR β (hcur h0 (mid++vp)) (ncur n0 (mid++vp)) L/\ncur n0 (mid++vp)=ncur n0 vp/\∀ j,(∀ q∈mid,okO P q.o.op = .a->base+q.i≠j)->(hcur h0 (mid++vp)).get j=(hcur h0 vp).get j
 |[],_,_=>⟨hr,rfl,λ_ _=>rfl⟩
 |x::mid,hs,hm=>by
   have hs':(mid++vp) <:+ full:=(List.suffix_cons _ _).trans hs
   obtain⟨a1,a2,a3⟩:=hr_up hp hg hr hn mid hs' λq hq=>hm q (List.mem_cons_of_mem _ hq)
   obtain⟨_,m2,m3⟩:=hm x List.mem_cons_self
   have hloc:=Fm_ hg (show (x::(mid++vp)) <:+ full from hs)
   obtain⟨fe,_,hk⟩:=hloc.k
   unfold Kind at hk
   cases hok:okO P x.o.op with
   |w=>exact absurd hok m2
   |v=>
     rw[hok] at hk
     obtain⟨k1,k2,_⟩:=hk
     simp only[List.cons_append,hcur,ncur]
     rw[k1,k2]
     exact⟨a1,a2,λj hj=>a3 j λq hq=>hj q (List.mem_cons_of_mem _ hq)⟩
   |a=>
     rw[hok] at hk
     obtain⟨k1,k2,k3,k4⟩:=hk
     have hlt:=(hp.a _ _ _ hloc.g).1
     simp only[List.cons_append,hcur,ncur]
     rw[k1]
     refine⟨a1.see (by rw[a2];omega) k3 k4 (m3 hok),a2,λj hj=>?_⟩
     rw[k4 j λz=>hj x List.mem_cons_self hok z.symm]
     exact a3 j λq hq=>hj q (List.mem_cons_of_mem _ hq)
theorem I4_ {fe:Fe} {o:Oper} {b:Nat} {c:CV} {vp:List Rec} (hh:∀ q r,vp=q::r->okO P q.o.op = .w):∀ (mid:List Rec),(∀ q∈mid,okO P q.o.op = .w->tb b q.i=false)->Du_ P n N H all h0 fe o b c (mid++vp)->OpQ P n N H all fe (hcur h0 vp) o c
 |[],_,h=>by
   cases vp with
   |nil=>exact h
   |cons q r=>simp only[List.nil_append] at h;unfold Du_ at h;rw[hh q r rfl] at h;exact h.1
 |x::mid,hm,h=>by
   simp only[List.cons_append] at h
   unfold Du_ at h
   cases hok:okO P x.o.op with
   |w=>
     rw[hok] at h
     rcases h.2 with z|z
     . rw[hm x List.mem_cons_self hok] at z;cases z
     . exact I4_ hh mid (λq hq=>hm q (List.mem_cons_of_mem _ hq)) z
   |v=>rw[hok] at h;exact I4_ hh mid (λq hq=>hm q (List.mem_cons_of_mem _ hq)) h
   |a=>rw[hok] at h;exact I4_ hh mid (λq hq=>hm q (List.mem_cons_of_mem _ hq)) h
theorem lset {listed:Array Bool} {i j:Nat} (hi:i<listed.size):(listed.setIfInBounds i true).getD j false=(decide (j=i)||listed.getD j false):=by
 simp only[Array.getD_eq_getD_getElem?,Array.getElem?_setIfInBounds];by_cases e:i=j;subst e;simp[hi];simp[e,Ne.symm e]
theorem Lf_ {full:List Rec} (hg:Good P n N H all I f0 base n0 h0 full) {vp:List Rec} {mid:List Rec} (hs:(mid++vp) <:+ full):∀ q∈mid,∀ y∈vp,y.i≠q.i:=by
 induction mid with
 |nil=>intro q hq;cases hq
 |cons x mid ih=>
   intro q hq y hy
   rcases List.mem_cons.1 hq with hq|hq
   . subst hq;exact (Fm_ hg (show (q::(mid++vp)) <:+ full from hs)).u y (List.mem_append_right _ hy)
   . exact ih ((List.suffix_cons _ _).trans hs) q hq y hy
theorem frames (hp:PI all I D all.length) {full:List Rec} (hg:Good P n N H all I f0 base n0 h0 full) {β0:Be} {L0:Ls} {listed:Array Bool} {β β':Be} {L:Ls} {F:Fr} {vp:List Rec} (hm:MI P all I f0 base n0 h0 full β0 L0 listed β L F vp) {x:Rec} (hx:x∈full) (hxl:listed.getD x.i false=false) (hl:β.le β') {v:Value} (hv:VR β' x.c v) :
   (∀ t c,f0.get t=some c->(∀ q∈full,(listed.setIfInBounds x.i true).getD q.i false=true->q.o.dst≠some t)->VR β' c (putO F x.o.dst v t))/\∀ q∈full,(listed.setIfInBounds x.i true).getD q.i false=true->∀ t,q.o.dst=some t->VR β' q.c (putO F x.o.dst v t):=by
 have hI:∀ q∈full,I.get q.i=some (q.o,q.b):=λq hq=>(C6_ hg hq).elim λ_ z=>z.2.g;have hlt:x.i<listed.size:=by rw[hm.sz];exact (hp.a _ _ _ (hI x hx)).1
 have hput:∀ t,x.o.dst≠some t->putO F x.o.dst v t=F t:=λt ht=>by
   cases hd:x.o.dst with
   |none=>rfl
   |some d=>simp only[putO];exact E5_ _ _ _ _ λz=>ht (by rw[hd,z])
 refine⟨λt c e ha=>?_,λq hq hql t ht=>?_⟩;have h1:x.o.dst≠some t:=ha x hx (by rw[lset hlt];simp);rw[hput t h1];exact (hm.fr t c e λq hq hql=>ha q hq (by rw[lset hlt,hql];simp)).mono hl;by_cases e:q.i=x.i;have :=Bf_ hg hq hx e;subst this;rw[ht];simp only[putO,C0_];exact hv;rw[lset hlt] at hql;simp only[e,decide_false,Bool.false_or] at hql;have :x.o.dst≠some t:=λz=>by
   obtain⟨_,a2,_⟩:=hp.a _ _ _ (hI q hq)
   obtain⟨_,b2,_⟩:=hp.a _ _ _ (hI x hx)
   obtain⟨_,c1,_⟩:=hp.c _ _ t (hp.a _ _ _ (hI q hq)).1 a2 ht
   obtain⟨_,d1,_⟩:=hp.c _ _ t (hp.a _ _ _ (hI x hx)).1 b2 z
   rw[c1] at d1;simp only[Option.some.injEq,Prod.mk.injEq] at d1
   exact e d1.1
 rw[hput t this];exact (hm.fd q hq hql t ht).mono hl
theorem mi_step (hp:PI all I D all.length) {full:List Rec} (hg:Good P n N H all I f0 base n0 h0 full) {β0:Be} {L0:Ls} {listed:Array Bool} {β:Be} {L:Ls} {F:Fr} {vp:List Rec} (hm:MI P all I f0 base n0 h0 full β0 L0 listed β L F vp) {x:Rec} (hx:x∈full) (hxl:listed.getD x.i false=false) (hxb:∀ j,tb x.b j=true->listed.getD j false=true) :
   Op1 P n N all x.o (λF' H' L'=>H'=H/\∃ β' vp',MI P all I f0 base n0 h0 full β0 L0 (listed.setIfInBounds x.i true) β' L' F' vp') F H L:=by
 have hI:∀ q∈full,I.get q.i=some (q.o,q.b):=λq hq=>(C6_ hg hq).elim λ_ z=>z.2.g;have hxm:x.i<all.length:=(hp.a _ _ _ (hI x hx)).1;have hlt:x.i<listed.size:=by rw[hm.sz];exact hxm
 obtain⟨pre,hs,hloc⟩:=C6_ hg hx;have hxv:x∉vp:=λz=>by rw[hm.vl x z] at hxl;cases hxl
 have hvp:vp <:+ pre:=Oc_ hm.vs hs hxv;have hpre:pre <:+ full:=(List.suffix_cons _ _).trans hs;have hmo:∀ j,listed.getD j false=true->(listed.setIfInBounds x.i true).getD j false=true:=λj e=>by rw[lset hlt,e];simp
 have hsz:(listed.setIfInBounds x.i true).size=all.length:=by rw[Array.size_setIfInBounds];exact hm.sz
 have hcl:∀ i o b,I.get i=some (o,b)->(listed.setIfInBounds x.i true).getD i false=true->∀ j,tb b j=true->(listed.setIfInBounds x.i true).getD j false=true:=λi o b e h1 j hj=>by
   by_cases q:i=x.i
   . subst q
     rw[hI x hx] at e;simp only[Option.some.injEq,Prod.mk.injEq] at e
     exact hmo _ (hxb j (e.2 ▸ hj))
   . rw[lset hlt] at h1;simp only[q,decide_false,Bool.false_or] at h1
     exact hmo _ (hm.cl i o b e h1 j hj)
 obtain⟨fe,hfo,hk⟩:=hloc.k;have hfr:FR β fe F:=λt c e=>by
   rcases hfo t c e with ⟨q,q1,q2,q3,q4⟩|⟨q1,q2⟩
   . rw[<- q3];exact hm.fd q (hpre.subset q1) (hxb _ q4) t q2
   . refine hm.fr t c q1 λq hq hql hd=>?_
     rcases q2 _ _ _ (hI q hq) hd with z|z
     . rw[z,hxl] at hql;cases hql
     . have :=hm.cl _ _ _ (hI q hq) hql _ z
       rw[this] at hxl;cases hxl
 unfold Kind at hk
 cases hok:okO P x.o.op with
 |v=>
   rw[hok] at hk
   obtain⟨_,_,hv⟩:=hk
   obtain⟨mid,hmid⟩:=hvp
   rw[<- hmid] at hv
   have hq:OpQ P n N H all fe (hcur h0 vp) x.o x.c:=I4_ hm.vh mid (λq hq hw=>by
     cases hb:tb x.b q.i with
     |false=>rfl
     |true=>
       have hqf:q∈full:=hpre.subset (hmid ▸ List.mem_append_left _ hq)
       have :=hm.vn q hqf hw (hxb _ hb)
       exact absurd Y (Lf_ hg (by rw[hmid];exact hpre) q hq q this)) hv
   refine hq hfr hm.hr _ λv hv=>⟨rfl,β,vp,?_⟩
   obtain⟨g1,g2⟩:=frames hp hg hm hx hxl (.refl β) hv
   refine⟨hsz,hcl,hm.vs,hm.vh,λq hq=>hmo _ (hm.vl q hq),λq hq hw hql=>?_,hm.hr,hm.nb,λq hq hqv ha=>?_,g1,g2,hm.le,hm.ou⟩
   . rw[lset hlt] at hql
     by_cases e:q.i=x.i
     . exact zJ
     . exact yN
   . obtain⟨a1,a2,a3⟩:=hm.ex q hq hqv ha
     have e:q.i≠x.i:=λe=>by have :=Bf_ hg hq hx e;subst this;rw[hok] at ha;cases ha
     rw[lset hlt];simp only[e,decide_false,Bool.false_or]
     exact⟨a1,a2,a3⟩
 |a=>
   rw[hok] at hk
   obtain⟨_,hA,_,_⟩:=hk
   obtain⟨a1,_,a3⟩:=hm.ex x hx hxv hok
   obtain⟨b1,b2⟩:=a3 hxl
   refine hA hfr b1 _ λq y v hv hB=>⟨rfl,bset β (base+x.i) q,vp,?_⟩
   obtain⟨g1,g2⟩:=frames hp hg hm hx hxl (Ar_ b1) hv
   have hnb:=hm.nb
   refine⟨hsz,hcl,hm.vs,hm.vh,λq hq=>hmo _ (hm.vl q hq),λq hq hw hql=>?_,hm.hr.hid yY a1 b1,hm.nb,λy hy hyv ha=>?_,g1,g2,hm.le.trans (Ar_ b1),λi hi e=>?_⟩
   . rw[lset hlt] at hql
     by_cases e:q.i=x.i
     . exact zJ
     . exact yN
   . obtain⟨c1,c2,c3⟩:=hm.ex y hy hyv ha
     rw[lset hlt]
     by_cases e:y.i=x.i
     . have :=Bf_ hg hy hx e
       subst this
       refine⟨c1,λ_=>by rw[D_];exact hB,λz=>?_⟩
       simp at z
     . simp only[e,decide_false,Bool.false_or]
       have e':base+y.i≠base+x.i:=by omega
       rw[C_ _ _ _ _ e']
       refine⟨c1,λz=>(c2 z).mono (Ar_ b1),λz=>⟨?_,(c3 z).2⟩⟩
       unfold bset;rw[if_neg e'];exact (c3 z).1
   . have e':i≠base+x.i:=by omega
     obtain⟨c1,c2,c3⟩:=hm.ou i hi e
     rw[C_ _ _ _ _ e']
     refine⟨c1,?_,c3⟩
     unfold bset;rw[if_neg e'];exact c2
 |w=>
   rw[hok] at hk
   obtain⟨hlate,hW⟩:=hk
   have hpl:∀ q∈pre,listed.getD q.i false=true:=λq hq=>hxb _ (hlate q hq)
   obtain⟨mid,hmid⟩:=hvp
   have hmf:(mid++vp) <:+ full:=by rw[hmid];exact hpre
   have hmn:=Lf_ hg hmf
   obtain⟨u1,u2,u3⟩:=hr_up hp hg hm.hr hm.nb mid hmf λq hq=>by
     have hqf:q∈full:=hmf.subset (List.mem_append_left _ hq)
     have hqv:q∉vp:=λz=>hmn q hq q z Y
     have hql:=hpl q (hmid ▸ List.mem_append_left _ hq)
     exact⟨hqv,λhw=>hqv (hm.vn q hqf hw hql),λha=>(hm.ex q hqf hqv ha).2.1 hql⟩
   rw[hmid] at u1 u2 u3
   have hnb:=hm.nb
   refine hW hfr u1 _ λβ' v L' hv hpo=>⟨rfl,β',x::pre,?_⟩
   obtain⟨g1,g2⟩:=frames hp hg hm hx hxl hpo.le hv
   refine⟨hsz,hcl,hs,λq r e=>?_,λq hq=>?_,λq hq hw hql=>?_,hpo.hr,?_,λq hq hqv ha=>?_,g1,g2,hm.le.trans hpo.le,λi hi e=>?_⟩
   . cases e;exact hok
   . rcases List.mem_cons.1 hq with rfl|hq
     . rw[lset hlt];simp
     . exact hmo _ (hpl q hq)
   . rw[lset hlt] at hql
     by_cases e:q.i=x.i
     . have :=Bf_ hg hq hx e;subst this;exact List.mem_cons_self
     . simp only[e,decide_false,Bool.false_or] at hql
       exact List.mem_cons_of_mem _ (hmid ▸ List.mem_append_right _ (hm.vn q hq hw hql))
   . have :=hpo.nle;show base+all.length<=x.nx;omega
   . have hqx:q.i≠x.i:=λe=>hqv (by have :=Bf_ hg hq hx e;subst this;exact List.mem_cons_self)
     have hqp:q∉pre:=λz=>hqv (List.mem_cons_of_mem _ z)
     have hqvp:q∉vp:=λz=>hqp (hmid ▸ List.mem_append_right _ z)
     obtain⟨c1,c2,c3⟩:=hm.ex q hq hqvp ha
     have hqm:q.i<all.length:=(hp.a _ _ _ (hI q hq)).1
     have hget:(hcur h0 pre).get (base+q.i)=none:=by
       rw[u3 _ λy hy _ e=>?_]
       . exact c1
       . have hyf:y∈full:=hmf.subset (List.mem_append_left _ hy)
         have :=Bf_ hg hyf hq yY
         subst this
         exact hqp (hmid ▸ List.mem_append_left _ hy)
     obtain⟨d1,d2,d3⟩:=hpo.fr (base+q.i) yY hget
     rw[lset hlt];simp only[hqx,decide_false,Bool.false_or]
     rw[d1,d2]
     exact⟨d3,λz=>(c2 z).mono hpo.le,c3⟩
   . obtain⟨c1,c2,c3⟩:=hm.ou i hi e
     have hget:(hcur h0 pre).get i=none:=by
       rw[u3 _ λy hy _ e=>by omega];exact c3
     obtain⟨d1,d2,d3⟩:=hpo.fr i yY hget
     exact⟨d1.trans c1,d2.trans c2,d3⟩
end
end Go.CE
namespace Go.CE
open Go.SW
noncomputable section
variable {P:Program} {n:Nat} {N:SW.Rest} {H:Hp} {f:Fe} {h h0:He} {nx n0 base:Nat} {G:Gt} {X:Xt} {R:Type} {all:List Oper} {I:It} {D:Ds} {f0:Ft}
def left (m:Nat) (listed:Array Bool):Nat:=((List.range m).filter λj=>!listed.getD j false).length
theorem Nj_ {m i:Nat} {listed:Array Bool} (hi:i<m) (hs:listed.size=m) (hl:listed.getD i false=false):left m (listed.setIfInBounds i true)+1 = left m listed:=by
 have key:∀ (l:List Nat),l.Nodup->i∈l->(l.filter λj=>!(listed.setIfInBounds i true).getD j false).length+1=(l.filter λj=>!listed.getD j false).length:=by
   intro l hn hil
   induction l with
   |nil=>cases hil
   |cons a l ih=>
     rw[List.nodup_cons] at hn
     simp only[List.filter_cons,lset (show i<listed.size by omega)]
     by_cases e:a=i
     . subst e
       simp only[decide_true,Bool.true_or,Bool.not_true,Bool.false_eq_true,if_false,hl,Bool.not_false,if_true,List.length_cons]
       congr 1
       have :∀ j∈l,(!((decide (j=a))||listed.getD j false))=(!listed.getD j false):=λj hj=>by
         have :j≠a:=λz=>hn.1 (z ▸ hj)
         simp[this]
       rw[List.filter_congr this]
     . have hil':i∈l:=by rcases List.mem_cons.1 hil with z|z;exact absurd z.symm e;exact z
       have :=ih hn.2 hil'
       simp only[lset (show i<listed.size by omega)] at this
       simp only[e,decide_false,Bool.false_or]
       cases listed.getD a false
       . simp only[Bool.not_false,if_true,List.length_cons];omega
       . exact yR
 exact key _ List.nodup_range (List.mem_range.2 hi)
theorem Na_ (hp:PI all I D all.length) {full:List Rec} (hg:Good P n N H all I f0 base n0 h0 full) (hfu:∀ j,j<all.length->∃ q∈full,q.i=j) {β0:Be} {L0:Ls} {ft:Ft} {vs:List (Nat×He)} {pb:Nat} (hsr:SR P f0 full ft vs pb) {Q:Qt}
   (fin:∀ β F L,β0.le β->HR β (hcur h0 full) (ncur n0 full) L->FR β ft.get F->base<=ncur n0 full->(∀ i,i<base->h0.get i=none->L i=L0 i/\β i=β0 i/\(hcur h0 full).get i=none)->Q .normal F H L) :
   ∀ (fuel:Nat) (listed:Array Bool) (β:Be) (L:Ls) (F:Fr) (vp:List Rec),left all.length listed<=fuel->MI P all I f0 base n0 h0 full β0 L0 listed β L F vp->∀ a w,At n a F->Mem N H L w->wpAny P .any all.toArray (lift n N Q) fuel listed a w:=by
 have hI:∀ q∈full,I.get q.i=some (q.o,q.b):=λq hq=>(C6_ hg hq).elim λ_ z=>z.2.g;have hend:∀ (listed:Array Bool) (β:Be) (L:Ls) (F:Fr) (vp:List Rec),MI P all I f0 base n0 h0 full β0 L0 listed β L F vp->(∀ q∈full,listed.getD q.i false=true)->Q .normal F H L:=by
   intro listed β L F vp hm hl
   obtain⟨mid,hmid⟩:=hm.vs
   have hmf:(mid++vp) <:+ full:=by rw[hmid];exact List.suffix_refl _
   have hmn:=Lf_ hg hmf
   obtain⟨u1,u2,u3⟩:=hr_up hp hg hm.hr hm.nb mid hmf λq hq=>by
     have hqf:q∈full:=hmf.subset (List.mem_append_left _ hq)
     have hqv:q∉vp:=λz=>hmn q hq q z Y
     exact⟨hqv,λhw=>hqv (hm.vn q hqf hw (hl q hqf)),λha=>(hm.ex q hqf hqv ha).2.1 (hl q hqf)⟩
   rw[hmid] at u1 u2 u3
   have hnb:=hm.nb
   refine fin β F L hm.le u1 (λt c e=>?_) yY λi hi e=>?_
   . rcases hsr.f t c e with ⟨q,q1,q2,q3⟩|⟨q1,q2⟩
     . rw[<- q3];exact hm.fd q q1 (hl q q1) t q2
     . exact hm.fr t c q1 λq hq _=>q2 q hq
   . obtain⟨c1,c2,c3⟩:=hm.ou i hi e
     exact⟨c1,c2,by rw[u3 _ λy hy _ e=>by omega];exact c3⟩
 have hready:∀ (listed:Array Bool) (β:Be) (L:Ls) (F:Fr) (vp:List Rec),MI P all I f0 base n0 h0 full β0 L0 listed β L F vp->Region.ready .any all.toArray listed=[]->∀ q∈full,listed.getD q.i false=true:=by
   intro listed β L F vp hm hr
   have key:∀ (l:List Rec),l <:+ full->∀ q∈l,listed.getD q.i false=true:=by
     intro l
     induction l with
     |nil=>intro _ q hq;cases hq
     |cons x pre ih=>
       intro hs q hq
       have ihp:=ih ((List.suffix_cons _ _).trans hs)
       rcases List.mem_cons.1 hq with rfl|hq
       . cases hxl:listed.getD q.i false with
         |true=>rfl
         |false=>
           exfalso
           have hloc:=Fm_ hg hs
           obtain⟨a1,a2,a3⟩:=hp.a _ _ _ hloc.g
           have :q.i∈Region.ready .any all.toArray listed:=by
             rw[mem_ready]
             refine⟨?_,q.o,by simpa using a2,λe he hb=>?_⟩
             . have hsz:=hm.sz
               rw[Array.getD_eq_getD_getElem?,Array.getElem?_eq_getElem yY] at hxl ⊢
               exact hxl
             . obtain⟨y,y1,y2⟩:=hloc.s _ (a3.1 e (by simpa using he) hb)
               rw[<- y2];exact ihp y y1
           rw[hr] at this;cases this
       . exact ihp q hq
   exact key full (List.suffix_refl _)
 intro fuel
 induction fuel with
 |zero=>
   intro listed β L F vp hf hm a w ha hw
   have hall:∀ j,j<all.length->listed.getD j false=true:=λj hj=>by
     cases e:listed.getD j false with
     |true=>rfl
     |false=>
       have :left all.length listed=0:=Nat.le_zero.1 hf
       have :=List.length_eq_zero_iff.1 this
       have hmem:j∈(List.range all.length).filter λj=>!listed.getD j false:=List.mem_filter.2 ⟨List.mem_range.2 hj,by rw[e];rfl⟩
       rw[this] at hmem;cases hmem
   have hr:Region.ready .any all.toArray listed=[]:=by
     apply List.eq_nil_iff_forall_not_mem.2
     intro j hj
     obtain⟨h1,o,ho,_⟩:=mem_ready.1 hj
     have hj':j<all.length:=by
       have :=(Array.getElem?_eq_some_iff.1 ho).1
       exact yR
     have h2:=hall j hj'
     have hsz:=hm.sz
     rw[Array.getD_eq_getD_getElem?,Array.getElem?_eq_getElem yY] at h1 h2
     simp only[Option.getD_some] at h1 h2
     rw[h1] at h2;cases h2
   exact⟨hr,F,H,L,ha,hw,hend _ _ _ _ _ hm (hready _ _ _ _ _ hm hr)⟩
 |succ fuel ih=>
   intro listed β L F vp hf hm a w ha hw
   refine⟨λhr=>⟨F,H,L,ha,hw,hend _ _ _ _ _ hm (hready _ _ _ _ _ hm hr)⟩,λi hi=>?_⟩
   obtain⟨h1,o,ho,hall⟩:=mem_ready.1 hi
   have ho':all[i]? = some o:=by simpa using ho
   have hil:i<all.length:=(List.getElem?_eq_some_iff.1 ho').1
   obtain⟨x,hx,hxi⟩:=hfu i hil
   subst hxi
   have hsz:=hm.sz
   have hxl:listed.getD x.i false=false:=by
     rw[Array.getD_eq_getD_getElem?,Array.getElem?_eq_getElem yY] at h1 ⊢
     exact h1
   obtain⟨a1,a2,a3⟩:=hp.a _ _ _ (hI x hx)
   have hxo:x.o=o:=by rw[ho'] at a2;cases a2;rfl
   have hxb:∀ j,tb x.b j=true->listed.getD j false=true:=λj hj=>by
     obtain⟨e,e1,e2,e3⟩:=a3.2 j hj
     have hel:=hall e (by rw[<- hxo];simpa using e1) e2
     rcases e3 with rfl|⟨o',b',g1,g2⟩
     . exact hel
     . exact hm.cl _ _ _ g1 hel _ g2
   have hst:=mi_step hp hg hm hx hxl hxb a w ha hw
   have hle:left all.length (listed.setIfInBounds x.i true)<=fuel:=by
     have :=Nj_ hil hm.sz hxl;omega
   unfold wpOp
   rw[ho]
   simp only
   rw[hxo] at hst
   split
   . rename_i hwt
     rw[if_pos hwt] at hst
     left
     refine Ce_ (λa' w' ⟨F',H',L',x1,x2,x3,β',vp',x4⟩=>?_) (λ_ _ _ z=>z.elim) hst
     subst x3
     exact ih _ β' L' F' vp' hle x4 a' w' x1 x2
   . rename_i hwt
     rw[if_neg hwt] at hst
     obtain⟨F',H',L',x1,x2,x3,β',vp',x4⟩:=hst
     subst x3
     exact ih _ β' L' F' vp' hle x4 _ w x1 x2
def M8_ (P:Program) (G:Gt) (X:Xt) (cl:Cl R) (n:Nat) (all:List Oper) (f:Ft) (h:He) (nx:Nat) (k:Kf R):Option R:=
 L6_ P all 0 .e .e [] λI D ws m=>segE P G X cl n nx all I D h (planE I m ws (Nat.sub (Nat.pow 2 m) 1) []) f h (nx+m) [] 0 k
theorem HR.up {β:Be} {L:Ls} {m:Nat} (hr:HR β h nx L) (hl:nx<=m):HR β h m L:=⟨hr.br,λi b e=>Nat.lt_of_lt_of_le (hr.lt i b e) hl,λi hi=>hr.fr i (Nat.le_trans hl hi)⟩
theorem M9_ {cl:Cl R} {k:Kf R} {r:R} {id:Nat} (hmx:P.follows .mixedOrders=true) (hG:GH G H) (hX:XOk P X) (hcl:ClOk P N H cl) (e:M8_ P G X cl n all f0 h nx k=some r):∃ f' h' nx',k f' h' nx'=some r /\
   ∀ {β:Be} {L:Ls} {F:Fr},FR β f0.get F->HR β h nx L->∀ Q:Qt,(∀ β' F' L',FR β' f'.get F'->Post β h nx L β' h' nx' L'->Q .normal F' H L')->Cw P n N (.region id all.toArray true) Q F H L:=by
 unfold M8_ at e;obtain⟨I,D,ws,e1,hp⟩:=Ft_ (all:=all) (rest:=all) (i:=0) (λj=>by rw[Nat.zero_add]) (by rw[Nat.zero_add]) ⟨λj o b z=>by simp[Tr.get] at z,λj o z=>by omega,λj o d z=>by omega⟩ e;obtain⟨full,f',vs',pb',e2,hg,hs,hfu⟩:=I0_ (n:=n) (N:=N) (H:=H) (h0:=h) (n0:=nx+all.length) (base:=nx) (f0:=f0) (pre:=[]) hG hX hcl hp Z ⟨λt c z=> .inr ⟨z,λq hq=>by cases hq⟩,rfl,λj=>⟨λz=>(by rw[Hv_] at z;cases z),λ⟨q,hq,_⟩=>by cases hq⟩⟩ e1
 refine⟨f',_,_,e2,λ{β L F} hf hr Q kk a w ha hw=>wp_region_any hmx ?_⟩;have hz:∀ i:Nat,(Array.replicate all.toArray.size false).getD i false=false:=λi=>by
   rw[Array.getD_eq_getD_getElem?]
   by_cases hi:i<all.toArray.size
   . rw[Array.getElem?_eq_getElem (by simpa using hi)];simp
   . rw[Array.getElem?_eq_none (by simpa using hi)];rfl
 refine Na_ (β0:=β) (L0:=L) hp hg hfu hs (λβ' F' L' b1 b2 b3 b4 b5=>kk β' F' L' b3 ⟨b1,b4,b2,b5⟩) _ _ β L F [] ?_ ?_ _ _ ha (hw.drew _);unfold left;refine Nat.le_trans (List.length_filter_le _ _) xA
 . refine⟨by simp,λi o b _ z=>xR,List.nil_suffix,λq r z=>(by cases z),λq z=>(by cases z),λq _ _ z=>xR,hr.up (Nat.le_add_right _ _),Nat.le_refl _,λq hq _ _=>⟨?_,λz=>xR,λ_=>hr.fr _ (Nat.le_add_right _ _)⟩,λt c e _=>hf t c e,λq _ z=>xR, .refl _,λi _ z=>⟨rfl,rfl,z⟩⟩
   show h.get (nx+q.i)=none
   cases e:h.get (nx+q.i) with
   |none=>rfl
   |some hb=>have :=hr.lt _ _ e;omega
end
end Go.CE
namespace Go.CE
open Go.SW
noncomputable section
variable {P:Program} {n:Nat} {N:SW.Rest} {H:Hp} {f:Fe} {h h0:He} {nx:Nat} {G:Gt} {X:Xt} {R:Type} {β:Be} {L:Ls} {F:Fr}
def inE {R:Type}:List CV->Nat->Ft->(Ft->Option R)->Option R
 |[],_,f,k=>k f
 |c::r,i,f,k=>Tr.setK 24 f i c λf=>inE r (i+1) f k
theorem Ox_:∀ {cs:List CV} {i:Nat} {f:Ft} {k:Ft->Option R} {r:R},inE cs i f k=some r->∃ f',k f'=some r/\∀ t c,f'.get t=some c->(i<=t/\cs[t-i]? = some c)\/f.get t=some c
 |[],i,f,k,r,e=>⟨f,e,λt c h=> .inr h⟩
 |c::cs,i,f,k,r,e=>by
   simp only[inE] at e
   obtain⟨f1,e1,e2,e3⟩:=Tr.setK_ok _ _ _ _ _ _ e
   obtain⟨f',e4,e5⟩:=Ox_ e1
   refine⟨f',e4,λt x hx=>?_⟩
   rcases e5 t x hx with ⟨h1,h2⟩|h1
   . refine .inl ⟨by omega,?_⟩
     rw[show t-i=(t-(i+1))+1 by omega];simpa using h2
   . by_cases q:t=i
     . subst q;rw[e2] at h1;cases h1;exact .inl ⟨Nat.le_refl _,by simp⟩
     . rw[e3 t q] at h1;exact .inr h1
theorem init_fr {cs:List CV} {vs:List Value} {f':Ft} (hv:VRs β cs vs) (h:∀ t c,f'.get t=some c->(0<=t/\cs[t-0]? = some c)\/(Tr.e:Ft).get t=some c):FR β f'.get (Dk_ vs.toArray):=λt c e=>by
 rcases h t c e with ⟨_,h1⟩|h1
 . obtain⟨v,h2,h3⟩:=hv.get h1
   simp only[Nat.sub_zero] at h2
   simp only[Dk_,List.getD_eq_getElem?_getD,h2]
   exact h3
 . simp[Tr.get] at h1
def rvE (P:Program) (G:Gt) (f:Ft) (h:He) (r:ResultVar):Option CV:=match r with
 | .tmp t=>f.get t
 | .cell a T=>match f.get a with
   |some (.ptr i o)=>ldE P G h T (.ptr i o)
   |_=>none
def rvsE (P:Program) (G:Gt) (f:Ft) (h:He):List ResultVar->Option (List CV)
 |[]=>some []
 |r::l=>match rvE P G f h r with
   |some c=>match rvsE P G f h l with
     |some cs=>some (c::cs)
     |none=>none
   |none=>none
def resE (cs:List CV):CV:=match cs with
 |[c]=>c
 |cs=> .tup cs
theorem rvE_ok {f:Ft} {r:ResultVar} {c:CV} (hG:GH G H) (hf:FR β f.get F) (hr:HR β h nx L) (e:rvE P G f h r=some c):∃ v,VR β c v/\RV P N F H L r v:=by
 unfold rvE at e
 split at e
 exact⟨_,hf _ _ e,rv_t Y⟩
 . rename_i a T
   split at e
   . rename_i i o ha
     have hp:=hf _ _ ha
     obtain⟨v,h1,h2⟩:=y_ld (N:=N) (ty:=0) (x:= .tmp a) hG hr hp e
     refine⟨v,h1,λw tmps ht hm=>?_⟩
     simp only[VR] at hp;obtain⟨q,_,hp⟩:=hp
     have h3:=h2 none "" #[] none w hm
     simp only[execOp,ev,Instr.loadAt,hp,rvS,ht] at h3 ⊢
     simp[Instr.sureAddr,asAddr] at h3 ⊢
     generalize (loadVar T {block:=q.b,off:=q.s+o}).run P w=res at *
     cases res with
     |ok x w'=>simpa using h3
     |halt x w'=>simp at h3
   . cases e
theorem Mg_ {f:Ft} (hG:GH G H) (hf:FR β f.get F) (hr:HR β h nx L):∀ {rs:List ResultVar} {cs:List CV},rvsE P G f h rs=some cs->∃ vs,VRs β cs vs/\∀ (w:World) (tmps:Array Value),(∀ t,tmps.getD t undef=F t)->Mem N H L w->(rs.mapM (rvS tmps)).run P w = .ok vs w
 |[],cs,e=>by simp only[rvsE,Option.some.injEq] at e;subst e;exact⟨[], .nil,λw tmps _ _=>by simp⟩
 |r::rs,cs,e=>by
   simp only[rvsE] at e
   split at e
   . rename_i c hc
     split at e
     . rename_i cs' hcs
       simp only[Option.some.injEq] at e;subst e
       obtain⟨v,h1,h2⟩:=rvE_ok (N:=N) hG hf hr hc
       obtain⟨vs,h3,h4⟩:=Mg_ hG hf hr hcs
       exact⟨v::vs, .cons h1 h3,λw tmps ht hm=>by simp[List.mapM_cons,h2 w tmps ht hm,h4 w tmps ht hm]⟩
     . cases e
   . cases e
theorem resE_ok {fn:Func} {f:Ft} {cs:List CV} (hG:GH G H) (hf:FR β f.get F) (hr:HR β h nx L) (e:rvsE P G f h fn.results.toList=some cs):∃ v,VR β (resE cs) v/\Res P N fn F H L v:=by
 obtain⟨vs,h1,h2⟩:=Mg_ (N:=N) hG hf hr e;have hm:∀ (w:World) (tmps:Array Value),(∀ t,tmps.getD t undef=F t)->Mem N H L w->(fn.results.mapM (rvS tmps)).run P w = .ok vs.toArray w:=λw tmps ht hw=>by
   have :=h2 w tmps ht hw
   rw[Array.mapM_eq_mapM_toList]
   simp[this]
 have hl:=h1.length
 match cs,vs,h1,hl with
 |[c],[v],h1,_=>
   obtain⟨_,_,e1,h3,_⟩:=h1.cons_inv
   cases e1
   exact⟨v,h3,λw tmps ht hw=>by simp[At_,hm w tmps ht hw]⟩
 |[],[],_,_=>exact⟨.tuple #[],by simp only[resE,VR];exact⟨[],rfl, .nil⟩,λw tmps ht hw=>by simp[At_,hm w tmps ht hw]⟩
 |c::d::cs,v::u::vs,h1,_=>
   refine⟨.tuple (v::u::vs).toArray,by simp only[resE,VR];exact⟨_,rfl,h1⟩,λw tmps ht hw=>?_⟩
   simp[At_,hm w tmps ht hw]
end
end Go.CE
namespace Go.CE
open Go.SW
noncomputable section
variable {P:Program} {n:Nat} {N:SW.Rest} {H:Hp} {h:He} {nx:Nat} {G:Gt} {X:Xt} {R:Type} {β:Be} {L:Ls} {F:Fr}
inductive CK where
 |yes
 |rep
 |pure (φ:List CV->Option CV)
 |snap (φ:List CV->He->Nat->Option (CV×He×Nat))
abbrev Ct:=List (FuncId×CK)
def ckE:Ct->FuncId->Option CK
 |[],_=>none
 |(a,k)::r,g=>bif Nat.beq a g then some k else ckE r g
def repN (n x:Nat):Nat->Nat
 |0=>0
 |c+1=>x+repN n x c*256 ^ n
theorem L8_ {n x:Nat} (hx:x<256 ^ n):∀ c,dec (n*c) (repN n x c)=Lib.repeatL (dec n x) c/\repN n x c<256 ^ (n*c)
 |0=>⟨rfl,by simp[repN]⟩
 |c+1=>by
   obtain⟨h1,h2⟩:=L8_ hx c
   simp only[repN,Lib.repeatL]
   rw[<- h1,Ck_ _ _ _ _ hx,Nat.mul_succ,Nat.add_comm (n*c) n]
   refine⟨rfl,?_⟩
   have e:256 ^ (n+n*c)=256 ^ (n*c)*256 ^ n:=by rw[Nat.pow_add,Nat.mul_comm]
   have :(repN n x c+1)*256 ^ n<=256 ^ (n*c)*256 ^ n:=Nat.mul_le_mul_right _ h2
   exact yB
theorem Gt_ (n:Nat):∀ c,repN n 0 c=0
 |0=>rfl
 |c+1=>by simp[repN,Gt_ n c]
def ctE (k:CK) (args:List CV) (h:He) (nx:Nat) (kk:Ke R):Option R:=match k with
 | .yes=>match args with
   |[]=>kk (.bool true) h nx
   |_=>none
 | .rep=>match args with
   |[.str n x, .int .i64 (.ofNat c)]=>bif Nat.ble (n*c) 140737488355328&&Nat.ble c 9223372036854775807 then kk (.str (n*c) (bif Nat.beq x 0 then 0 else repN n x c)) h nx else none
   |_=>none
 | .pure φ=>match φ args with
   |some c=>kk c h nx
   |none=>none
 | .snap φ=>match φ args h nx with
   |some r=>kk r.1 r.2.1 r.2.2
   |none=>none
def CSp (P:Program) (G:Gt) (g:FuncId):CK->Prop
 | .yes=>V_ P g/\∀ H,GH G H->∀ N L w,Mem N H L w->Calls P g #[] w λen w'=>en = .returned (.bool true)/\Mem N H L w'
 | .rep=>V_ P g/\∀ (s:Bs) (c:Nat) N H L w,s.length*c<=140737488355328->c<=9223372036854775807->Mem N H L w->Calls P g #[SW.str s, .int .i64 (c:Int)] w λen w'=>en = .returned (SW.str (Lib.repeatL s c))/\Mem N H L w'
 | .pure φ=>V_ P g/\∀ args c,φ args=some c->∀ H,GH G H->∀ β N L vs w,VRs β args vs->Mem N H L w->Calls P g vs.toArray w λen w'=>∃ v,en = .returned v/\VR β c v/\Mem N H L w'
 | .snap φ=>V_ P g/\∀ args h nx c h' nx',φ args h nx=some (c,h',nx')->∀ N H,GH G H->Cs P N H g args h nx c h' nx'
def COk (P:Program) (G:Gt) (C:Ct):Prop:=∀ g k,ckE C g=some k->CSp P G g k
theorem ctE_ok {k:CK} {args:List CV} {kk:Ke R} {r:R} {g:FuncId} (hG:GH G H) (hC:CSp P G g k) (e:ctE k args h nx kk=some r):∃ c h' nx',kk c h' nx'=some r/\Cs P N H g args h nx c h' nx':=by
 unfold ctE at e
 split at e
 . split at e
   refine⟨_,h,nx,e,hC.1,λβ L vs w hr hv hm R' kk=>?_⟩
   rw[hv.nil_inv]
   exact (hC.2 H hG N L w hm).mono λen w' ⟨h1,h2⟩=>h1 ▸ kk β _ L w' xL (.refl hr) h2
   . cases e
 . split at e
   . rename_i n x c
     cases hb:(Nat.ble (n*c) 140737488355328&&Nat.ble c 9223372036854775807) with
     |false=>rw[hb] at e;cases e
     |true=>
       rw[hb] at e
       simp only[Bool.and_eq_true] at hb
       simp only[cond_true] at e
       refine⟨_,h,nx,e,hC.1,λβ L vs w hr hv hm R' kk=>?_⟩
       obtain⟨v,us,rfl,h1,h2⟩:=hv.cons_inv
       obtain⟨v',us',rfl,h3,h4⟩:=h2.cons_inv
       rw[h4.nil_inv]
       simp only[VR] at h1 h3
       obtain⟨hx,rfl⟩:=h1
       subst h3
       have hl:(dec n x).length=n:=B_ n x
       refine (hC.2 (dec n x) c N H L w (by rw[hl];exact Nat.le_of_ble_eq_true hb.1) (Nat.le_of_ble_eq_true hb.2) hm).mono λen w' ⟨h1,h2⟩=>h1 ▸ kk β _ L w' ?_ (.refl hr) h2
       obtain⟨r1,r2⟩:=L8_ hx c
       have :(bif Nat.beq x 0 then 0 else repN n x c)=repN n x c:=by
         cases hz:Nat.beq x 0 with
         |false=>rfl
         |true=>rw[Nat.eq_of_beq_eq_true hz];exact (Gt_ n c).symm
       rw[this]
       simp only[VR]
       exact⟨r2,by rw[r1]⟩
   . cases e
 . split at e
   . rename_i c hc
     refine⟨_,h,nx,e,hC.1,λβ L vs w hr hv hm R' kk=>?_⟩
     exact (hC.2 _ _ hc H hG β N L vs w hv hm).mono λen w' ⟨v,h1,h2,h3⟩=>h1 ▸ kk β v L w' h2 (.refl hr) h3
   . cases e
 . split at e
   . rename_i c hc
     exact⟨_,_,_,e,hC.2 _ _ _ _ _ _ hc N H hG⟩
   . cases e
abbrev Kx (R:Type):=Exit->Ft->He->Nat->Option R
def retX:Exit->Bool
 | .normal=>true
 | .ret=>true
 |_=>false
def Ep_ (P:Program) (G:Gt) (C:Ct) (ev_:Code->Nat->Ft->He->Nat->Kx R->Option R):Cl R:=λg args h nx k=>match ckE C g with
 |some ck=>ctE ck args h nx k
 |none=>match P.funcs[g]? with
 |some fn=>match fn.body with
   |some c=>bif Nat.ble args.length fn.ntmps then inE args 0 .e λf=>ev_ c fn.ntmps f h nx λe f h nx=>
       bif retX e then (match rvsE P G f h fn.results.toList with
         |some cs=>k (resE cs) h nx
         |none=>none) else none
     else none
   |none=>none
 |none=>none
def evC (P:Program) (G:Gt) (X:Xt) (C:Ct):Nat->Code->Nat->Ft->He->Nat->Kx R->Option R
 |0,_,_,_,_,_,_=>none
 |fu+1,c,n,f,h,nx,k=>match c with
   | .skip=>k .normal f h nx
   | .label _=>k .normal f h nx
   | .seq a b=>evC P G X C fu a n f h nx λe f h nx=>match e with
     | .normal=>evC P G X C fu b n f h nx k
     |e=>k e f h nx
   | .cond x a b=>match ef f.get x with
     |some (.bool t)=>match t with
       |true=>evC P G X C fu a n f h nx k
       |false=>evC P G X C fu b n f h nx k
     |_=>none
   | .block id b=>evC P G X C fu b n f h nx λe f h nx=>match e with
     | .exit i=>bif Nat.beq i id then k .normal f h nx else k (.exit i) f h nx
     |e=>k e f h nx
   | .loop b=>evC P G X C fu b n f h nx λe f h nx=>match e with
     | .normal=>evC P G X C fu (.loop b) n f h nx k
     |e=>k e f h nx
   | .scope b=>evC P G X C fu b n f h nx λe f h nx=>match e with
     | .goto _=>none
     |e=>k e f h nx
   | .exit i=>k (.exit i) f h nx
   | .ret=>k .ret f h nx
   | .region _ ops draw=>match draw with
     |false=>opsE P G X (Ep_ P G C (evC P G X C fu)) n ops.toList ops.toList f h nx λf h nx=>k .normal f h nx
     |true=>M8_ P G X (Ep_ P G C (evC P G X C fu)) n ops.toList f h nx λf h nx=>k .normal f h nx
   |_=>none
def Cx (P:Program) (n:Nat) (N:SW.Rest) (m:Nat) (c:Code) (Q:Qt) (F:Fr) (H:Hp) (L:Ls):Prop:=match c with
 | .loop b=>∀ a w,At n a F->Mem N H L w->Code.rounds P b (lift n N Q) m a w
 |c=>Cw P n N c Q F H L
theorem Cx.cw {m:Nat} {c:Code} {Q:Qt} (h:Cx P n N m c Q F H L):Cw P n N c Q F H L:=by
 cases c with
 |loop b=>exact λa w ha hm=>wp_loop_rounds m (h a w ha hm)
 |_=>exact h
def EvOk (P:Program) (N:SW.Rest) (H:Hp) (R:Type) (ev_:Code->Nat->Ft->He->Nat->Kx R->Option R):Prop:=
 ∀ c n f h nx k r,ev_ c n f h nx k=some r->∃ e f' h' nx' m,k e f' h' nx'=some r/\∀ {β:Be} {L:Ls} {F:Fr},FR β f.get F->HR β h nx L->∀ Q:Qt,(∀ β' F' L',FR β' f'.get F'->Post β h nx L β' h' nx' L'->Q e F' H L')->Cx P n N m c Q F H L
def CbO (P:Program):Prop:=∀ g fn,P.funcs[g]? = some fn->fn.body.isNone=false->V_ P g
theorem Fa_ {C:Ct} {ev_:Code->Nat->Ft->He->Nat->Kx R->Option R} (hG:GH G H) (hC:COk P G C) (hcb:CbO P) (hev:EvOk P N H R ev_):ClOk P N H (Ep_ P G C ev_):=by
 intro g args h nx k r e;unfold Ep_ at e
 split at e
 . rename_i ck hck
   exact ctE_ok hG (hC _ _ hck) e
 split at e
 . rename_i fn hfn
   split at e
   . rename_i c hc
     cases hb:Nat.ble args.length fn.ntmps with
     |false=>rw[hb] at e;cases e
     |true=>
       rw[hb] at e
       simp only[cond_true] at e
       obtain⟨f,e1,e2⟩:=Ox_ e
       obtain⟨ex,f',h',nx',m,e3,e4⟩:=hev _ _ _ _ _ _ _ e1
       cases hx:retX ex with
       |false=>rw[hx] at e3;cases e3
       |true=>
         rw[hx] at e3
         simp only[cond_true] at e3
         split at e3
         . rename_i cs hcs
           refine⟨_,h',nx',e3,hcb g fn hfn (by rw[hc];rfl),λβ L vs w hr hv hm R' kk=>?_⟩
           have hs:vs.toArray.size<=fn.ntmps:=by
             have :=Nat.le_of_ble_eq_true hb
             have :=hv.length
             simp;omega
           refine Bo_ (H0:=H) (R:=λv H' L'=>H'=H/\∃ β',VR β' (resE cs) v/\Post β h nx L β' h' nx' L') hfn hc hs ?_ hm λv H' L' w' hR hl hm'=>?_
           . refine (e4 (init_fr hv e2) hr _ λβ' F' L' hf' hp=>?_).cw
             obtain⟨v,h1,h2⟩:=resE_ok (N:=N) (F:=F') (L:=L') hG hf' hp.hr hcs
             cases ex with
             |normal=>exact fnK_n h2 (.refl H) ⟨rfl,β',h1,hp⟩
             |ret=>exact Kp_ h2 (.refl H) ⟨rfl,β',h1,hp⟩
             |_=>cases hx
           . obtain⟨rfl,β',h1,h2⟩:=hR
             exact kk β' v L' w' h1 h2 hm'
         . cases e3
   . cases e
 . cases e
theorem Kf_ {C:Ct} (hmx:P.follows .mixedOrders=true) (hC:COk P G C) (hcb:CbO P) (hG:GH G H) (hX:XOk P X):∀ fu,EvOk P N H R (evC P G X C fu)
 |0=>λc n f h nx k r e=>by simp only[evC] at e;cases e
 |fu+1=>λc n f h nx k r e=>by
   have ih:=Kf_ hmx hC hcb hG hX fu
   have hcl:=Fa_ (N:=N) hG hC hcb ih
   cases c with
   |skip=>simp only[evC] at e;exact⟨_,f,h,nx,0,e,λ{β L F} hf hr Q kk=>Dy_ (kk β F L hf (.refl hr))⟩
   |label l=>simp only[evC] at e;exact⟨_,f,h,nx,0,e,λ{β L F} hf hr Q kk=>H6_ (kk β F L hf (.refl hr))⟩
   |ret=>simp only[evC] at e;exact⟨_,f,h,nx,0,e,λ{β L F} hf hr Q kk=>Et_ (kk β F L hf (.refl hr))⟩
   |seq a b=>
     simp only[evC] at e
     obtain⟨e1,f1,h1,nx1,m1,z1,z2⟩:=ih _ _ _ _ _ _ _ e
     cases e1 with
     |normal=>
       simp only at z1
       obtain⟨e2,f2,h2,nx2,m2,y1,y2⟩:=ih _ _ _ _ _ _ _ z1
       refine⟨e2,f2,h2,nx2,0,y1,λ{β L F} hf hr Q kk=>Ad_ (z2 hf hr (seqK P n N b Q) λβ' F' L' hf' hp=>?_).cw⟩
       exact (y2 hf' hp.hr Q λβ'' F'' L'' hf'' hp'=>kk β'' F'' L'' hf'' (hp.trans hp')).cw
     |_=>exact⟨_,f1,h1,nx1,0,z1,λ{β L F} hf hr Q kk=>Ad_ (z2 hf hr (seqK P n N b Q) λβ' F' L' hf' hp=>by unfold seqK;exact kk β' F' L' hf' hp).cw⟩
   |cond x a b=>
     simp only[evC] at e
     split at e
     . rename_i t ht
       have hev:∀ {β:Be} {F:Fr},FR β f.get F->ev F x = .bool t:=λhf=>by have :=P_ hf ht;simpa only[VR] using this
       cases t with
       |true=>
         obtain⟨e1,f1,h1,nx1,m1,z1,z2⟩:=ih _ _ _ _ _ _ _ e
         exact⟨e1,f1,h1,nx1,0,z1,λ{β L F} hf hr Q kk=>F7_ (hev hf) Y (z2 hf hr Q kk).cw⟩
       |false=>
         obtain⟨e1,f1,h1,nx1,m1,z1,z2⟩:=ih _ _ _ _ _ _ _ e
         exact⟨e1,f1,h1,nx1,0,z1,λ{β L F} hf hr Q kk=>Dx_ (hev hf) Y (z2 hf hr Q kk).cw⟩
     . cases e
   |block id b=>
     simp only[evC] at e
     obtain⟨e1,f1,h1,nx1,m1,z1,z2⟩:=ih _ _ _ _ _ _ _ e
     have hex:(∃ i,e1=Exit.exit i)\/∀ i,e1≠Exit.exit i:=by cases e1<;>first|exact .inl ⟨_,rfl⟩|exact .inr λi h=>by cases h
     rcases hex with ⟨i,rfl⟩|hne
     . simp only at z1
       cases hb:Nat.beq i id with
       |true=>
         rw[hb] at z1
         have :=Nat.eq_of_beq_eq_true hb;subst this
         exact⟨_,f1,h1,nx1,0,z1,λ{β L F} hf hr Q kk=>Bb_ (z2 hf hr (blkK _ Q) λβ' F' L' hf' hp=>by unfold blkK;simpa using kk β' F' L' hf' hp).cw⟩
       |false=>
         rw[hb] at z1
         have :i≠id:=Nat.ne_of_beq_eq_false hb
         exact⟨_,f1,h1,nx1,0,z1,λ{β L F} hf hr Q kk=>Bb_ (z2 hf hr (blkK id Q) λβ' F' L' hf' hp=>by unfold blkK;simpa [this] using kk β' F' L' hf' hp).cw⟩
     . cases e1<;>first
         |exact absurd Y (hne _)
         |exact⟨_,f1,h1,nx1,0,z1,λ{β L F} hf hr Q kk=>Bb_ (z2 hf hr (blkK id Q) λβ' F' L' hf' hp=>by unfold blkK;simpa using kk β' F' L' hf' hp).cw⟩
   |loop b=>
     simp only[evC] at e
     obtain⟨e1,f1,h1,nx1,m1,z1,z2⟩:=ih _ _ _ _ _ _ _ e
     cases e1 with
     |normal=>
       simp only at z1
       obtain⟨e2,f2,h2,nx2,m2,y1,y2⟩:=ih _ _ _ _ _ _ _ z1
       refine⟨e2,f2,h2,nx2,m2+1,y1,λ{β L F} hf hr Q kk a w ha hm=>?_⟩
       rw[rounds_succ]
       refine wp_mono ((z2 hf hr (λex F' H' L'=>ex = .normal/\H'=H/\∃ β',FR β' f1.get F'/\Post β h nx L β' h1 nx1 L') λβ' F' L' hf' hp=>⟨rfl,rfl,β',hf',hp⟩).cw a w ha hm) λex a' w' hq=>?_
       obtain⟨F',H',L',ha',hm',rfl,rfl,β',hf',hp⟩:=hq
       exact y2 hf' hp.hr Q (λβ'' F'' L'' hf'' hp'=>kk β'' F'' L'' hf'' (hp.trans hp')) a' w' ha' hm'
     |_=>
       refine⟨_,f1,h1,nx1,1,z1,λ{β L F} hf hr Q kk a w ha hm=>?_⟩
       rw[rounds_succ]
       refine wp_mono ((z2 hf hr (λex F' H' L'=>ex ≠ .normal/\Q ex F' H' L') λβ' F' L' hf' hp=>⟨by simp,kk β' F' L' hf' hp⟩).cw a w ha hm) λex a' w' hq=>?_
       obtain⟨F',H',L',ha',hm',hne,hq⟩:=hq
       cases ex with
       |normal=>exact absurd Y hne
       |_=>exact⟨F',H',L',ha',hm',hq⟩
   |scope b=>
     simp only[evC] at e
     obtain⟨e1,f1,h1,nx1,m1,z1,z2⟩:=ih _ _ _ _ _ _ _ e
     cases e1 with
     |goto l=>simp only at z1;cases z1
     |_=>exact⟨_,f1,h1,nx1,0,z1,λ{β L F} hf hr Q kk=>H7_ (z2 hf hr (scK Q) λβ' F' L' hf' hp=>by unfold scK;exact kk β' F' L' hf' hp).cw⟩
   |region id ops draw=>
     simp only[evC] at e
     have ho:ops.toList.toArray=ops:=by simp
     cases draw with
     |false=>
       obtain⟨f',h',nx',e1,e2⟩:=Lx_ (n:=n) hG hX hcl e
       refine⟨_,f',h',nx',0,e1,λ{β L F} hf hr Q kk=>?_⟩
       have :=O_ (id:=id) (e2 hf hr Q λβ' F' L' hf' hp=>kk β' F' L' hf' hp)
       rw[ho] at this;exact this
     |true=>
       obtain⟨f',h',nx',e1,e2⟩:=M9_ (n:=n) (id:=id) hmx hG hX hcl e
       refine⟨_,f',h',nx',0,e1,λ{β L F} hf hr Q kk=>?_⟩
       have :=e2 hf hr Q λβ' F' L' hf' hp=>kk β' F' L' hf' hp
       rw[ho] at this;exact this
   |_=>first
     |(simp only[evC] at e;cases e;done)
     |(simp only[evC] at e;exact⟨_,f,h,nx,0,e,λ{β L F} hf hr Q kk=>Fe_ (kk β F L hf (.refl hr))⟩)
def runE (P:Program) (G:Gt) (X:Xt) (C:Ct) (fu:Nat) (g:FuncId):Option Bool:=Ep_ P G C (evC P G X C fu) g [] .e 0 λc _ _=>match c with
 | .bool b=>some b
 |_=>none
theorem Hn_ {C:Ct} {fu:Nat} {g:FuncId} {b:Bool} (hmx:P.follows .mixedOrders=true) (hC:COk P G C) (hcb:CbO P) (hX:XOk P X) (e:runE P G X C fu g=some b) :
   V_ P g/\∀ H,GH G H->∀ N L w,Mem N H L w->Calls P g #[] w λen w'=>en = .returned (.bool b)/\Mem N H L w':=by
 have hc:V_ P g:=by
   unfold runE Ep_ at e
   split at e
   . rename_i ck hck
     have :=hC _ _ hck
     cases ck<;>exact this.1
   split at e
   . rename_i fn hfn
     split at e
     . rename_i c hc
       exact hcb g fn hfn (by rw[hc];rfl)
     . cases e
   . cases e
 refine⟨hc,λH hG N L w hm=>?_⟩;obtain⟨c,h',nx',e1,e2⟩:=Fa_ (N:=N.plus L) hG hC hcb (Kf_ hmx hC hcb hG hX fu) _ _ _ _ _ _ e;have hv:∀ {β:Be} {v:Value},VR β c v->v = .bool b:=λ{β v} hv=>by
   split at e1
   . simp only[Option.some.injEq] at e1;subst e1;simpa only[VR] using hv
   . cases e1
 exact e2.2 (λ_=>none) l0 [] w ⟨λi hb e=>by simp[Tr.get] at e,λi hb e=>by simp[Tr.get] at e,λ_ _=>⟨rfl,rfl⟩⟩ .nil hm.aside _ λβ' v L' w' h1 _ h3=>⟨by rw[hv h1],hm.back h3⟩
end
end Go.CE
namespace Go.CE
open Go.SW
variable {P:Program} {H:Hp} {G:Gt}
def GC (H:Hp) (g:Nat) (cs:List CV):Prop:=∃ vs T fr,H g=some (.cells vs T fr)/\∀ β,VRs β cs vs.toList
theorem GC.mono {H':Hp} {g:Nat} {cs:List CV} (h:GC H g cs) (hl:HLe H H'):GC H' g cs:=by
 obtain⟨vs,T,fr,e,h1⟩:=h;exact⟨vs,T,fr,hl _ _ e,h1⟩
theorem gh_nil:GH [] H:=⟨λg cs e=>by cases e⟩
theorem Hb_ {g:Nat} {cs:List CV} (h:GC H g cs) (k:GH G H):GH ((g,cs)::G) H:=⟨λg' cs' e=>by
 simp only[gbE] at e
 cases hb:Nat.beq g g' with
 |true=>rw[hb] at e;simp only[cond_true,Option.some.injEq] at e;subst e;rw[<- Nat.eq_of_beq_eq_true hb];exact h
 |false=>rw[hb] at e;exact k.h _ _ e⟩
theorem Ms_ {β:Be} {k:IntKind}:∀ (zs:List Int),VRs β (zs.map (CV.int k)) (zs.map (Value.int k))
 |[]=> .nil
 |z::r=> .cons xL (Ms_ r)
theorem Ow_ {g:Nat} {k:IntKind} {zs:List Int} (h:∃ T fr,H g=some (.cells (zs.map (Value.int k)).toArray T fr)):GC H g (zs.map (CV.int k)):=by
 obtain⟨T,fr,e⟩:=h;exact⟨_,T,fr,e,λβ=>Ms_ zs⟩
def cS (s:Bs):CV:= .str s.length (enc s)
theorem Mt_ {β:Be}:∀ (zs:List Bs),VRs β (zs.map cS) (zs.map SW.str)
 |[]=> .nil
 |z::r=> .cons (by simp only[cS,VR];exact⟨H8_ z,by rw[Ff_]⟩) (Mt_ r)
theorem gc_str {g:Nat} {zs:List Bs} (h:∃ T fr,H g=some (.cells (zs.map SW.str).toArray T fr)):GC H g (zs.map cS):=by
 obtain⟨T,fr,e⟩:=h;exact⟨_,T,fr,e,λβ=>Mt_ zs⟩
theorem xok_nil:XOk P []:=λg k e=>by cases e
theorem Dt_ {g:FuncId} {k:XK} {X:Xt} (h:XSp P g k) (r:XOk P X):XOk P ((g,k)::X):=λg' k' e=>by
 simp only[xkE] at e
 cases hb:Nat.beq g g' with
 |true=>rw[hb] at e;simp only[cond_true,Option.some.injEq] at e;subst e;rw[<- Nat.eq_of_beq_eq_true hb];exact h
 |false=>rw[hb] at e;exact r _ _ e
section
variable {f:FuncId} {fn:Func} (hf:P.funcs[f]? = some fn) (hname:(fn.name == "runtime.NumGoroutine")=false) (hb:fn.body.isNone=true) (hn:Extern.findNext fn=none)
include hf hname hb hn
theorem x_noesc (he:Extern.find fn=some Extern.AbiNoEscape.same):XSp P f .noesc:=Ip_ hf hname hb hn he
theorem x_count (he:Extern.find fn=some Extern.BytealgCount.count):XSp P f .count:=λs c w=>by
 rw[run_callFunc_extern hf hname hb hn he]
 have :=Lib.run_countString (P:=P) ⟨s.toArray⟩ c w
 unfold SW.str
 rw[this];rfl
theorem x_ixb (he:Extern.find fn=some Extern.BytealgIndexByte.indexByte):XSp P f .ixb:=λs c w=>by
 rw[run_callFunc_extern hf hname hb hn he]
 have :=Lib.run_indexByteString (P:=P) ⟨s.toArray⟩ c w
 unfold SW.str
 rw[this];rfl
omit hf hname hb hn in
theorem Eu_:∀ (n t:Nat) (acc:Array Value),(∀ v∈acc.toList,v.oneCell'=true)->∀ v∈(Extern.BytealgMakeNoZero.digits n t acc).toList,v.oneCell'=true
 |0,t,acc,h=>by unfold Extern.BytealgMakeNoZero.digits;exact h
 |n+1,t,acc,h=>by
   unfold Extern.BytealgMakeNoZero.digits
   refine Eu_ n _ _ λv hv=>?_
   simp only[Array.toList_push,List.mem_append,List.mem_singleton] at hv
   rcases hv with hv|rfl
   . exact h v hv
   . rfl
theorem x_mknz {ps:Array TypeId} {t e:TypeId} (ht:P.underlying t=some (.slice e)) (he:Extern.find fn=some (Extern.BytealgMakeNoZero.makeNoZero ps #[t])):XSp P f (.mknz e):=λn w hn'=>by
 obtain⟨m1,m2,qq,hq,hdef⟩:∃ m1 m2 qq,Question.forced qq=false/\Extern.BytealgMakeNoZero.makeNoZero ps #[t] #[.int .i64 n] =
     (do
       let .slice elem <- underlying t|stuck m1
       if (n:Int)<0||(n:Int)>2 ^ 48 then runtimePanic (.error m2)
       let cap <- choose (.appendCap (n:Int).toNat 0 elem)
       askRoom cap
       let bytes <- choose qq
       let a <- newRow elem (Extern.BytealgMakeNoZero.digits cap bytes #[])
       pure (.slice (some a) (n:Int).toNat cap)):=⟨_,_,_,rfl,rfl⟩
 refine⟨(Extern.BytealgMakeNoZero.digits (grownCap w n 0 e) (qq.cut (w.tape (w.drawn+1) qq)) #[]).toList,?_,Eu_ _ _ _ (λv hv=>by cases hv),?_⟩
 . rw[Array.length_toList,Lib.size_digits]
   simpa using grownCap_ge w n 0 e
 . rw[run_callFunc_extern hf hname hb hn he,hdef]
   have h1:¬(n:Int)<0:=by omega
   have h2:¬(281474976710656:Int)<(n:Int):=by omega
   simp[run_underlying ht,h1,h2,hq,show Question.forced (.appendCap n 0 e)=false from rfl,newRow,Lib.size_digits,grownCap,Result.andThen,bx]
   rfl
end
theorem cok_nil:COk P G []:=λg k e=>by cases e
theorem E_ {g:FuncId} {k:CK} {C:Ct} (h:CSp P G g k) (r:COk P G C):COk P G ((g,k)::C):=λg' k' e=>by
 simp only[ckE] at e
 cases hb:Nat.beq g g' with
 |true=>rw[hb] at e;simp only[cond_true,Option.some.injEq] at e;subst e;rw[<- Nat.eq_of_beq_eq_true hb];exact h
 |false=>rw[hb] at e;exact r _ _ e
def cbB (P:Program):Bool:=P.funcs.toList.all λfn=>fn.body.isNone||!(fn.name == "runtime.NumGoroutine")
theorem cb_ok (h:cbB P=true):CbO P:=λg fn hf hb=>by
 have hm:fn∈P.funcs.toList:=Array.mem_toList_iff.2 (Array.mem_of_getElem? hf)
 have :=List.all_eq_true.1 h fn hm
 rw[hb] at this
 simp only[Bool.false_or,Bool.not_eq_true'] at this
 exact A5_ hf this hb
theorem fn_run {Gb':Gb} {X:Xt} {C:Ct} {fu:Nat} {g:FuncId} (hg:∀ H,Gb'.p H->GH G H) (h:CSp P G g .yes):SW.Fn P Gb' g [] (.bool true):=
 ⟨h.1,rfl,λN H L w vs hp hs hm=>by
   cases hs.inv_nil
   exact (h.2 H (hg H hp) N L w hm).mono λe w' ⟨h1,h2⟩=>⟨_,H,h1,Sim.bool, .refl H,h2⟩⟩
end Go.CE
namespace Go.CE
open Go.SW
noncomputable section
variable {R:Type}
def opW (d:Option Tmp) (op:Op) (g:Option (Nat×Bool)) (P:Program) (G:Gt) (X:Xt) (cl:Cl R) (n:Nat) (all:List Oper) (f:Fe) (h:He) (nx:Nat) (k:Ke R):Option R:=
 Bool.rec (motive:=λ_=>Option R) none (Option.rec (motive:=λ_=>Option R) (opF op P G X cl f h nx k) (λg=>match gdE all f g.1 g.2 with
   |some true=>opF op P G X cl f h nx k
   |some false=>k (.tup []) h nx
   |none=>none) g) (okD op d&&dB n d)
theorem opW_eq {P:Program} {G:Gt} {X:Xt} {cl:Cl R} {n:Nat} {all:List Oper} {f:Fe} {h:He} {nx:Nat} {o:Oper} {k:Ke R}:opW o.dst o.op o.guard P G X cl n all f h nx k=opV P G X cl n all f h nx o k:=by
 obtain⟨d,op,ty,pos,af,g⟩:=o;unfold opW opV;simp only
 cases (okD op d&&dB n d) with
 |false=>rfl
 |true=>cases g<;>rfl
def setF (d:Option Tmp) (f:Ft) (c:CV) (k:Ft->Option R):Option R:=Option.rec (motive:=λ_=>Option R) (k f) (λd=>sS 24 d f c k) d
def opC (o:Oper) (ih:Program->Gt->Xt->Cl R->Nat->List Oper->Ft->He->Nat->Kf R->Option R) (P:Program) (G:Gt) (X:Xt) (cl:Cl R) (n:Nat) (all:List Oper) (f:Ft) (h:He) (nx:Nat) (k:Kf R):Option R:=
 Oper.rec (motive:=λ_=>Option R) (λd op _ _ _ g=>opW d op g P G X cl n all f.get h nx λc h nx=>setF d f c λf=>ih P G X cl n all f h nx k) o
def opsF (l:List Oper):Program->Gt->Xt->Cl R->Nat->List Oper->Ft->He->Nat->Kf R->Option R:=
 List.rec (motive:=λ_=>Program->Gt->Xt->Cl R->Nat->List Oper->Ft->He->Nat->Kf R->Option R) (λ_ _ _ _ _ _ f h nx k=>k f h nx) (λo _ ih=>opC o ih) l
theorem Ly_ {P:Program} {G:Gt} {X:Xt} {cl:Cl R} {n:Nat} {all:List Oper}:∀ {l:List Oper} {f:Ft} {h:He} {nx:Nat} {k:Kf R},opsF l P G X cl n all f h nx k=opsE P G X cl n all l f h nx k
 |[],f,h,nx,k=>rfl
 |o::r,f,h,nx,k=>by
   have ih:=λf h nx=>Ly_ (P:=P) (G:=G) (X:=X) (cl:=cl) (n:=n) (all:=all) (l:=r) (f:=f) (h:=h) (nx:=nx) (k:=k)
   show opC o (opsF r) P G X cl n all f h nx k=_
   unfold opC opsE
   rw[<- opW_eq]
   obtain⟨d,op,ty,pos,af,g⟩:=o
   simp only[ih]
   cases d<;>rfl
abbrev Rc (R:Type):=Code->Nat->Ft->He->Nat->Kx R->Option R
def kN (k:Kx R) (f:Ft) (h:He) (nx:Nat):Option R:=k .normal f h nx
def thn (e:Exit):(Ft->He->Nat->Option R)->Kx R->Ft->He->Nat->Option R:=match e with
 | .normal=>λa _=>a
 | .exit i=>λ_ k=>k (.exit i)
 | .goto i=>λ_ k=>k (.goto i)
 | .ret=>λ_ k=>k .ret
 | .panic c=>λ_ k=>k (.panic c)
 | .outgrown=>λ_ k=>k .outgrown
def blk (e:Exit):Nat->Kx R->Ft->He->Nat->Option R:=match e with
 | .normal=>λ_ k=>k .normal
 | .exit i=>λid k f h nx=>bif Nat.beq i id then k .normal f h nx else k (.exit i) f h nx
 | .goto i=>λ_ k=>k (.goto i)
 | .ret=>λ_ k=>k .ret
 | .panic c=>λ_ k=>k (.panic c)
 | .outgrown=>λ_ k=>k .outgrown
def scp (e:Exit):Kx R->Ft->He->Nat->Option R:=match e with
 | .normal=>λk=>k .normal
 | .exit i=>λk=>k (.exit i)
 | .goto _=>λ_ _ _ _=>none
 | .ret=>λk=>k .ret
 | .panic c=>λk=>k (.panic c)
 | .outgrown=>λk=>k .outgrown
def cSkip (P:Program) (G:Gt) (X:Xt) (C:Ct) (rc:Rc R) (n:Nat) (f:Ft) (h:He) (nx:Nat) (k:Kx R):Option R:=k .normal f h nx
def cExit (i:Nat) (P:Program) (G:Gt) (X:Xt) (C:Ct) (rc:Rc R) (n:Nat) (f:Ft) (h:He) (nx:Nat) (k:Kx R):Option R:=k (.exit i) f h nx
def cRet (P:Program) (G:Gt) (X:Xt) (C:Ct) (rc:Rc R) (n:Nat) (f:Ft) (h:He) (nx:Nat) (k:Kx R):Option R:=k .ret f h nx
def cNo (P:Program) (G:Gt) (X:Xt) (C:Ct) (rc:Rc R) (n:Nat) (f:Ft) (h:He) (nx:Nat) (k:Kx R):Option R:=none
def cSeq (a b:Code) (P:Program) (G:Gt) (X:Xt) (C:Ct) (rc:Rc R) (n:Nat) (f:Ft) (h:He) (nx:Nat) (k:Kx R):Option R:=rc a n f h nx λe f h nx=>thn e (λf h nx=>rc b n f h nx k) k f h nx
def cCond (x:Operand) (a b:Code) (P:Program) (G:Gt) (X:Xt) (C:Ct) (rc:Rc R) (n:Nat) (f:Ft) (h:He) (nx:Nat) (k:Kx R):Option R:=match ef f.get x with
 |some (.bool t)=>rc (Bool.rec (motive:=λ_=>Code) b a t) n f h nx k
 |_=>none
def Op_ (id:Nat) (b:Code) (P:Program) (G:Gt) (X:Xt) (C:Ct) (rc:Rc R) (n:Nat) (f:Ft) (h:He) (nx:Nat) (k:Kx R):Option R:=rc b n f h nx λe=>blk e id k
def cLoop (b:Code) (P:Program) (G:Gt) (X:Xt) (C:Ct) (rc:Rc R) (n:Nat) (f:Ft) (h:He) (nx:Nat) (k:Kx R):Option R:=rc b n f h nx λe f h nx=>thn e (λf h nx=>rc (.loop b) n f h nx k) k f h nx
def Oq_ (b:Code) (P:Program) (G:Gt) (X:Xt) (C:Ct) (rc:Rc R) (n:Nat) (f:Ft) (h:He) (nx:Nat) (k:Kx R):Option R:=rc b n f h nx λe=>scp e k
def cReg (l:List Oper) (P:Program) (G:Gt) (X:Xt) (C:Ct) (rc:Rc R) (n:Nat) (f:Ft) (h:He) (nx:Nat) (k:Kx R):Option R:=opsF l P G X (Ep_ P G C rc) n l f h nx (kN k)
def cDrw (l:List Oper) (P:Program) (G:Gt) (X:Xt) (C:Ct) (rc:Rc R) (n:Nat) (f:Ft) (h:He) (nx:Nat) (k:Kx R):Option R:=M8_ P G X (Ep_ P G C rc) n l f h nx (kN k)
def cD (c:Code):Program->Gt->Xt->Ct->Rc R->Nat->Ft->He->Nat->Kx R->Option R:=match c with
 | .skip=>cSkip
 | .label _=>cSkip
 | .seq a b=>cSeq a b
 | .cond x a b=>cCond x a b
 | .block id b=>Op_ id b
 | .loop b=>cLoop b
 | .scope b=>Oq_ b
 | .exit i=>cExit i
 | .ret=>cRet
 | .region _ ops draw=>Bool.rec (motive:=λ_=>Program->Gt->Xt->Ct->Rc R->Nat->Ft->He->Nat->Kx R->Option R) (cReg ops.toList) (cDrw ops.toList) draw
 |_=>cNo
def evF (P:Program) (G:Gt) (X:Xt) (C:Ct) (fu:Nat):Rc R:=Nat.rec (motive:=λ_=>Rc R) (λ_ _ _ _ _ _=>none) (λ_ ih c=>cD c P G X C ih) fu
theorem Kg_ {P:Program} {G:Gt} {X:Xt} {C:Ct}:∀ (fu:Nat),(evF P G X C fu:Rc R)=evC P G X C fu
 |0=>by funext c n f h nx k;simp only[evC];rfl
 |fu+1=>by
   have ih:(evF P G X C fu:Rc R)=evC P G X C fu:=Kg_ fu
   funext c n f h nx k
   show cD c P G X C (evF P G X C fu) n f h nx k=_
   rw[ih]
   cases c with
   |seq a b=>simp only[evC,cD,cSeq];congr 1;funext e f h nx;cases e<;>rfl
   |cond x a b=>
     simp only[evC,cD,cCond]
     cases ef f.get x with
     |none=>rfl
     |some c=>
       cases c with
       |bool t=>cases t<;>rfl
       |_=>rfl
   |block id b=>simp only[evC,cD,Op_];congr 1;funext e f h nx;cases e<;>rfl
   |loop b=>simp only[evC,cD,cLoop];congr 1;funext e f h nx;cases e<;>rfl
   |scope b=>simp only[evC,cD,Oq_];congr 1;funext e f h nx;cases e<;>rfl
   |region id ops draw=>
     cases draw with
     |false=>simp only[evC,cD,cReg];exact Ly_
     |true=>simp only[evC,cD,cDrw];rfl
   |_=>simp only[evC];rfl
def runF (P:Program) (G:Gt) (X:Xt) (C:Ct) (fu:Nat) (g:FuncId):Option Bool:=Ep_ P G C (evF P G X C fu) g [] .e 0 λc _ _=>match c with
 | .bool b=>some b
 |_=>none
theorem Q_ {P:Program} {G:Gt} {X:Xt} {C:Ct} {fu:Nat} {g:FuncId} (hmx:P.follows .mixedOrders=true) (hC:COk P G C) (hcb:CbO P) (hX:XOk P X) (e:runF P G X C fu g=some true):CSp P G g .yes:=by
 refine Hn_ (X:=X) (C:=C) (fu:=fu) hmx hC hcb hX ?_;unfold runF at e;rw[Kg_] at e;exact e
end
end Go.CE
namespace Go.CE
open Go.SW
noncomputable section
variable {P:Program} {H:Hp} {h:He} {nx:Nat} {G:Gt} {X:Xt} {C:Ct}
def msB:List (CV×CV×Nat)->List (CV×CV×Nat)->Bool
 |[],[]=>true
 |a::r,b::s=>cvB a.1 b.1&&(cvB a.2.1 b.2.1&&(Nat.beq a.2.2 b.2.2&&msB r s))
 |_,_=>false
theorem Pe_:∀ {a b:List (CV×CV×Nat)},msB a b=true->a=b
 |[],b,e=>by cases b<;>simp only[msB,reduceCtorEq] at e;rfl
 |x::r,b,e=>by
   cases b with
   |nil=>simp only[msB,reduceCtorEq] at e
   |cons y s=>
     simp only[msB,Bool.and_eq_true] at e
     obtain⟨x1,x2,x3⟩:=x;obtain⟨y1,y2,y3⟩:=y
     simp only at e
     rw[F6_ e.1,F6_ e.2.1,Nat.eq_of_beq_eq_true e.2.2.1,Pe_ e.2.2.2]
def hbB:HB->HB->Bool
 | .cells T cs g, .cells T' cs' g'=>Nat.beq T T'&&(cvsB cs cs'&&(g==g'))
 | .bys T n x g, .bys T' n' x' g'=>Nat.beq T T'&&(Nat.beq n n'&&(Nat.beq x x'&&(g==g')))
 | .rob T n x, .rob T' n' x'=>Nat.beq T T'&&(Nat.beq n n'&&Nat.beq x x')
 | .itr n x p, .itr n' x' p'=>Nat.beq n n'&&(Nat.beq x x'&&Nat.beq p p')
 | .mp es k, .mp es' k'=>msB es es'&&Nat.beq k k'
 | .dead, .dead=>true
 |_,_=>false
theorem hbB_ok {a b:HB} (e:hbB a b=true):a=b:=by
 cases a<;>cases b<;>simp only[hbB,Bool.and_eq_true,beq_iff_eq,reduceCtorEq] at e<;>first
   |rfl
   |(rw[Nat.eq_of_beq_eq_true e.1,Cj_ e.2.1,e.2.2])
   |(rw[Nat.eq_of_beq_eq_true e.1,Nat.eq_of_beq_eq_true e.2.1,Nat.eq_of_beq_eq_true e.2.2.1,e.2.2.2])
   |(rw[Nat.eq_of_beq_eq_true e.1,Nat.eq_of_beq_eq_true e.2.1,Nat.eq_of_beq_eq_true e.2.2])
   |(rw[Pe_ e.1,Nat.eq_of_beq_eq_true e.2])
def hasB (x:Option HB) (b:HB):Bool:=match x with
 |some a=>hbB a b
 |none=>false
theorem Ku_ {x:Option HB} {b:HB} (e:hasB x b=true):x=some b:=by
 cases x with
 |none=>cases e
 |some a=>rw[hbB_ok e]
abbrev Bl:=List (Nat×HB)
def setA {R:Type}:Bl->He->(He->Option R)->Option R
 |[],h,k=>k h
 |b::r,h,k=>Tr.setK 24 h b.1 b.2 λh=>setA r h k
def ov:Bl->Nat->Option HB->Option HB
 |[],_,x=>x
 |b::r,i,x=>ov r i (if i=b.1 then some b.2 else x)
theorem Fx_ {R:Type}:∀ {l:Bl} {h:He} {k:He->Option R} {r:R},setA l h k=some r->∃ h',k h'=some r/\∀ i,h'.get i=ov l i (h.get i)
 |[],h,k,r,e=>⟨h,e,λ_=>rfl⟩
 |b::l,h,k,r,e=>by
   simp only[setA] at e
   obtain⟨h1,e1,e2,e3⟩:=Tr.setK_ok _ _ _ _ _ _ e
   obtain⟨h',e4,e5⟩:=Fx_ e1
   refine⟨h',e4,λi=>?_⟩
   rw[e5,ov]
   by_cases q:i=b.1
   . rw[if_pos q,q,e2]
   . rw[if_neg q,e3 i q]
theorem Bz_:∀ {l:Bl} {i:Nat} {x:Option HB},(∀ b∈l,i≠b.1)->ov l i x=x
 |[],_,_,_=>rfl
 |b::l,i,x,h=>by rw[ov,if_neg (h b xA),Bz_ λc hc=>h c (by simp[hc])]
theorem Hl_:∀ {l:Bl} {i:Nat},(∃ b∈l,i=b.1)->∃ y,∀ x,ov l i x=some y
 |[],_,⟨b,hb,_⟩=>by cases hb
 |b::l,i,h=>by
   by_cases q:∃ c∈l,i=c.1
   . obtain⟨y,hy⟩:=Hl_ q;exact⟨y,λx=>by rw[ov,hy]⟩
   . obtain⟨c,hc,e⟩:=h
     rcases List.mem_cons.1 hc with rfl|hc
     . exact⟨c.2,λx=>by rw[ov,if_pos e,Bz_ λd hd k=>q ⟨d,hd,k⟩]⟩
     . exact absurd ⟨c,hc,e⟩ q
def allB (h:He):Bl->Bool
 |[]=>true
 |b::r=>hasB (h.get b.1) b.2&&allB h r
theorem G2_ {h:He}:∀ {l:Bl},allB h l=true->∀ b∈l,h.get b.1=some b.2
 |[],_,b,hb=>by cases hb
 |c::r,e,b,hb=>by
   simp only[allB,Bool.and_eq_true] at e
   rcases List.mem_cons.1 hb with rfl|hb
   . exact Ku_ e.1
   . exact G2_ e.2 b hb
def Hp_ (h t:He):Bl->Bool
 |[]=>true
 | b::r=>(match t.get b.1 with
   |some y=>hasB (h.get b.1) y
   |none=>false)&&Hp_ h t r
theorem Fv_ {h t:He}:∀ {l:Bl},Hp_ h t l=true->∀ b∈l,∃ y,t.get b.1=some y/\h.get b.1=some y
 |[],_,b,hb=>by cases hb
 |c::r,e,b,hb=>by
   simp only[Hp_,Bool.and_eq_true] at e
   rcases List.mem_cons.1 hb with rfl|hb
   . obtain⟨e1,_⟩:=e
     split at e1
     . rename_i y hy;exact⟨y,hy,Ku_ e1⟩
     . cases e1
   . exact Fv_ e.2 b hb
structure Sn where
 args:List CV
 nx:Nat
 I:Bl
 c:CV
 nx':Nat
 U:Bl
def runS (P:Program) (G:Gt) (X:Xt) (C:Ct) (fu:Nat) (g:FuncId) (S:Sn):Option Unit:=
 setA S.I .e λh=>Ep_ P G C (evF P G X C fu) g S.args h S.nx λc h' nx'=>
   bif cvB c S.c&&Nat.beq nx' S.nx' then setA S.U h λt=>bif Hp_ h' t S.I&&Hp_ h' t S.U then some () else none else none
def snF (l:List Sn):List CV->He->Nat->Option (CV×He×Nat):=match l with
 |[]=>λ_ _ _=>none
 |S::r=>λargs h nx=>bif Nat.beq nx S.nx&&(cvsB args S.args&&allB h S.I) then setA S.U h λh=>some (S.c,h,S.nx') else snF r args h nx
theorem Mc_ {fu:Nat} {g:FuncId} {S:Sn} (hmx:P.follows .mixedOrders=true) (hC:COk P G C) (hcb:CbO P) (hX:XOk P X) (e:runS P G X C fu g S=some ()) {h0:He} (hi:allB h0 S.I=true) {t0:He} (ht:∀ i,t0.get i=ov S.U i (h0.get i)) {N:SW.Rest} (hG:GH G H):Cs P N H g S.args h0 S.nx S.c t0 S.nx':=by
 unfold runS at e;obtain⟨h,e1,g1⟩:=Fx_ e;rw[Kg_] at e1;obtain⟨c,h',nx',e2,hcs⟩:=Fa_ (N:=N) (H:=H) hG hC hcb (Kf_ hmx hC hcb hG hX fu) _ _ _ _ _ _ e1
 cases q:(cvB c S.c&&Nat.beq nx' S.nx') with
 |false=>rw[q] at e2;cases e2
 |true=>
   rw[q] at e2;simp only[cond_true] at e2
   simp only[Bool.and_eq_true] at q
   have q1:=F6_ q.1;have q2:=Nat.eq_of_beq_eq_true q.2
   subst q1;subst q2
   obtain⟨t,e3,g2⟩:=Fx_ e2
   cases q3:(Hp_ h' t S.I&&Hp_ h' t S.U) with
   |false=>rw[q3] at e3;cases e3
   |true=>
     simp only[Bool.and_eq_true] at q3
     have s1:=Fv_ q3.1;have s2:=Fv_ q3.2
     have hI:=G2_ hi
     have he:(Tr.e:He).get = λ_=>none:=by funext i;rfl
     have hle:∀ i y,h.get i=some y->h0.get i=some y:=λi y hy=>by
       by_cases k:∃ b∈S.I,i=b.1
       . obtain⟨b,hb,rfl⟩:=k
         obtain⟨z,hz⟩:=Hl_ ⟨b,hb,rfl⟩
         have :∀ (l:Bl),(∀ b∈l,h0.get b.1=some b.2)->∀ (x:Option HB) (j:Nat),x=none\/x=h0.get j->ov l j x=none\/ov l j x=h0.get j:=λl=>by
           induction l with
           |nil=>intro _ x j hx;exact hx
           |cons b r ih=>
             intro hl x j hx
             rw[ov]
             refine ih (λc hc=>hl c (by simp[hc])) _ j ?_
             by_cases q:j=b.1
             . rw[if_pos q,q,hl b xA];exact .inr Y
             . rw[if_neg q];exact hx
         rcases this S.I hI none b.1 (.inl rfl) with w|w
         . rw[hz] at w;cases w
         . rw[<- w,<- hy,g1,he]
       . rw[g1,Bz_ (λb hb k'=>k ⟨b,hb,k'⟩),he] at hy;cases hy
     refine⟨hcs.1,λβ L vs w hr hv hm R' kk=>?_⟩
     refine hcs.2 β L vs w ⟨λi y hy=>hr.br i y (hle i y hy),λi y hy=>hr.lt i y (hle i y hy),hr.fr⟩ hv hm R' λβ' v L' w' hv' hp hm'=>?_
     refine kk β' v L' w' hv' ⟨hp.le,hp.nle,⟨λi y hy=>?_,λi y hy=>?_,hp.hr.fr⟩,λi hn h0n=>?_⟩ hm'
     all_goals try rw[ht] at hy
     . by_cases k:∃ b∈S.U,i=b.1
       . obtain⟨z,hz⟩:=Hl_ k
         obtain⟨b,hb,rfl⟩:=k
         obtain⟨y',t1,t2⟩:=s2 b hb
         rw[g2,hz] at t1
         rw[hz] at hy
         cases hy.symm.trans t1
         exact hp.hr.br _ _ t2
       . rw[Bz_ (λb hb k'=>k ⟨b,hb,k'⟩)] at hy
         by_cases k2:∃ b∈S.I,i=b.1
         . obtain⟨b,hb,rfl⟩:=k2
           obtain⟨y',t1,t2⟩:=s1 b hb
           rw[g2,Bz_ (λb' hb' k'=>k ⟨b',hb',k'⟩)] at t1
           have :=hle _ _ t1
           rw[hy] at this;cases this
           exact hp.hr.br _ _ t2
         . have hn:h.get i=none:=by rw[g1,Bz_ (λb hb k'=>k2 ⟨b,hb,k'⟩),he]
           obtain⟨f1,f2,f3⟩:=hp.fr i (hr.lt _ _ hy) hn
           rw[f1];exact (hr.br _ _ hy).mono hp.le
     . by_cases k:∃ b∈S.U,i=b.1
       . obtain⟨b,hb,rfl⟩:=k
         obtain⟨y',t1,t2⟩:=s2 b hb
         exact hp.hr.lt _ _ t2
       . rw[Bz_ (λb hb k'=>k ⟨b,hb,k'⟩)] at hy
         exact Nat.lt_of_lt_of_le (hr.lt _ _ hy) hp.nle
     . have hn':h.get i=none:=by
         cases w:h.get i with
         |none=>rfl
         |some y=>rw[hle i y w] at h0n;cases h0n
       obtain⟨f1,f2,f3⟩:=hp.fr i hn hn'
       refine⟨f1,f2,?_⟩
       rw[ht,Bz_,h0n]
       intro b hb k
       subst k
       obtain⟨y',t1,t2⟩:=s2 b hb
       rw[f3] at t2;cases t2
theorem Mj_ {g:FuncId} (hcl:V_ P g):∀ {l:List Sn},(∀ S∈l,∀ (h0:He),allB h0 S.I=true->∀ t0:He,(∀ i,t0.get i=ov S.U i (h0.get i))->∀ N H,GH G H->Cs P N H g S.args h0 S.nx S.c t0 S.nx')->CSp P G g (.snap (snF l))
 |[],_=>⟨hcl,λargs h nx c h' nx' e=>by simp only[snF,reduceCtorEq] at e⟩
 | S::r,hs=>⟨hcl,λargs h nx c h' nx' e=>by
     simp only[snF] at e
     cases q:(Nat.beq nx S.nx&&(cvsB args S.args&&allB h S.I)) with
     |true=>
       rw[q] at e;simp only[cond_true] at e
       simp only[Bool.and_eq_true] at q
       obtain⟨q1,q2,q3⟩:=q
       have q1:=Nat.eq_of_beq_eq_true q1;have q2:=Cj_ q2
       subst q1;subst q2
       obtain⟨t,e1,e2⟩:=Fx_ e
       simp only[Option.some.injEq,Prod.mk.injEq] at e1
       obtain⟨rfl,rfl,rfl⟩:=e1
       exact λN H hG=>hs S xA h q3 _ e2 N H hG
     |false=>
       rw[q] at e;simp only[cond_false] at e
       exact (Mj_ hcl λT hT=>hs T (by simp[hT])).2 args h nx c h' nx' e⟩
end
end Go.CE
namespace Go.CE
open Go.SW
variable {P:Program} {H:Hp} {G:Gt}
def rv:Nat->Nat->Nat
 |0,_=>0
 |k+1,n=>Nat.mod (Nat.div n (Nat.pow 256 k)) 256+256*rv k n
theorem H9_:∀ k n,enc (numB k n)=rv k n
 |0,_=>rfl
 |k+1,n=>by
   simp only[numB,enc,rv,H9_ k n]
   rw[show (UInt8.ofNat (n/256 ^ k)).toNat=n/256 ^ k%256 from by simp]
   rfl
def nK (b:Int):Nat:=match b with
 | .ofNat b=>bif Nat.ble b 8 then b else 8
 | .negSucc _=>0
theorem nK_eq (b:Int):nK b=numK b:=by
 unfold nK numK
 cases b with
 |ofNat b=>
   simp only
   cases h:Nat.ble b 8 with
   |true=>have :=Nat.le_of_ble_eq_true h;simp only[cond_true,Int.ofNat_eq_natCast];omega
   |false=>
     have :¬b<=8:=λq=>by rw[Nat.ble_eq_true_of_le q] at h;cases h
     simp only[cond_false,Int.ofNat_eq_natCast];omega
 |negSucc b=>simp only;omega
def numS:List CV->Option CV
 |[.agg [.str l x, .int .i64 e], .int .u64 (.ofNat n), .int .i64 (.ofNat b)]=>
   bif Nat.ble l 4611686018427387904&&(Nat.ble n 18446744073709551615&&Nat.ble b 9223372036854775807) then some (.agg [.str (l+nK (.ofNat b)) (Nat.add x (Nat.mul (rv (nK (.ofNat b)) n) (Nat.pow 256 l))), .int .i64 e]) else none
 |_=>none
theorem Np_ {g:FuncId} (hc:V_ P g) (h:∀ (H:Hp) (o:Out) (n:Int),0<=n/\n<=18446744073709551615->∀ (bytes:Int),-9223372036854775808<=bytes/\bytes<=9223372036854775807->o.s.length<=4611686018427387904->Pr P g #[.agg (Out.cells o).toArray, .int .u64 n, .int .i64 bytes] H (.agg (Out.cells (Lz_ o n bytes)).toArray)):CSp P G g (.pure numS):=by
 refine⟨hc,λargs c e H hG β N L vs w hv hm=>?_⟩;unfold numS at e
 split at e
 . rename_i l x e0 n b
   cases hb:(Nat.ble l 4611686018427387904&&(Nat.ble n 18446744073709551615&&Nat.ble b 9223372036854775807)) with
   |false=>rw[hb] at e;cases e
   |true=>
     rw[hb] at e
     simp only[Bool.and_eq_true] at hb
     simp only[cond_true,Option.some.injEq] at e;subst e
     obtain⟨v1,us,rfl,h1,h2⟩:=hv.cons_inv
     obtain⟨v2,us,rfl,h3,h4⟩:=h2.cons_inv
     obtain⟨v3,us,rfl,h5,h6⟩:=h4.cons_inv
     rw[h6.nil_inv]
     simp only[VR] at h1 h3 h5
     obtain⟨ws,rfl,h1⟩:=h1
     obtain⟨u1,us,rfl,g1,g2⟩:=VRs.cons_inv h1
     obtain⟨u2,us,rfl,g3,g4⟩:=g2.cons_inv
     rw[g4.nil_inv]
     simp only[VR] at g1 g3
     obtain⟨hx,rfl⟩:=g1
     subst g3;subst h3;subst h5
     have hl:(dec l x).length=l:=B_ l x
     have :=h H ⟨dec l x,e0⟩ (Int.ofNat n) ⟨Int.natCast_nonneg _,by have :=Nat.le_of_ble_eq_true hb.2.1;simp only[Int.ofNat_eq_natCast];omega⟩ (Int.ofNat b) ⟨by simp only[Int.ofNat_eq_natCast];omega,by have :=Nat.le_of_ble_eq_true hb.2.2;simp only[Int.ofNat_eq_natCast];omega⟩ (by show (dec l x).length<=_;rw[hl];exact Nat.le_of_ble_eq_true hb.1) N L w hm
     refine this.mono λen w' ⟨h1,h2⟩=>⟨_,h1,?_,h2⟩
     simp only[Lz_,Out.cells,VR]
     refine⟨_,rfl,?_⟩
     have hk:rv (nK (.ofNat b)) n=enc (numB (numK (.ofNat b)) n):=by rw[nK_eq,H9_]
     have hk2:(numB (numK (.ofNat b)) n).length=numK (.ofNat b):=Do_ _ _
     have hlt:=H8_ (numB (numK (.ofNat b)) n)
     rw[hk2] at hlt
     refine VRs.cons ?_ (VRs.cons xL .nil)
     simp only[VR]
     rw[hk,nK_eq]
     refine⟨?_,?_⟩
     . show x+enc (numB (numK (Int.ofNat b)) n)*256 ^ l<_
       have e:256 ^ (l+numK (Int.ofNat b))=256 ^ numK (Int.ofNat b)*256 ^ l:=by rw[Nat.pow_add,Nat.mul_comm]
       have :(enc (numB (numK (Int.ofNat b)) n)+1)*256 ^ l<=256 ^ numK (Int.ofNat b)*256 ^ l:=Nat.mul_le_mul_right _ hlt
       exact yB
     . show _=SW.str (dec (l+numK (Int.ofNat b)) (x+enc (numB (numK (Int.ofNat b)) n)*256 ^ l))
       rw[<- Ck_ l _ x _ hx]
       have e:=Ff_ (numB (numK (Int.ofNat b)) n)
       rw[hk2] at e
       rw[e];rfl
 . cases e
def crcT':Nat:=9937593612760466100516450665319420528403982636753068485404800763335476026940182181175496972418787619281442302519629725716261212251300561153615832085954560
def tabN (i:Nat):Nat:=Nat.mod (Nat.div crcT' (Nat.pow 2 (Nat.mul 32 i))) 4294967296
theorem tabN_eq:∀ i,i<16->laidT.getD i 0=Int.ofNat (tabN i):=by decide +kernel
theorem Ml_ (i:Nat):tabN i<4294967296:=Nat.mod_lt _ xB
def crcN (r:Nat):Nat:=Nat.xor (Nat.div r 16) (tabN (Nat.mod r 16))
theorem Gz_ {a b:Nat} (ha:a<4294967296) (hb:b<4294967296):Mv_ (Int.ofNat a) (Int.ofNat b)=Int.ofNat (Nat.xor a b):=by
 have hx:Nat.xor a b<4294967296:=Nat.xor_lt_two_pow (n:=32) ha hb;have e:(BitVec.ofInt (IntKind.bits .u32) (Int.ofNat a) ^^^ BitVec.ofInt (IntKind.bits .u32) (Int.ofNat b)).toNat=Nat.xor a b:=by
   rw[BitVec.toNat_xor,F4_,F4_]
   show (a%4294967296) ^^^ (b%4294967296)=_
   rw[Nat.mod_eq_of_lt ha,Nat.mod_eq_of_lt hb];rfl
 unfold Mv_;rw[e];clear e;generalize Nat.xor a b=z at *;exact yK
theorem Js_ {a:Nat} (ha:a<4294967296):(Jt_ (Int.ofNat a) 15).toNat=a%16:=by
 have e:(BitVec.ofInt (IntKind.bits .u32) (Int.ofNat a) &&& BitVec.ofInt (IntKind.bits .u32) 15).toNat=a%16:=by
   rw[BitVec.toNat_and,F4_,show (15:Int)=Int.ofNat 15 from rfl,F4_]
   show (a%4294967296) &&& (15%4294967296)=_
   rw[Nat.mod_eq_of_lt ha]
   exact Nat.and_two_pow_sub_one_eq_mod a 4
 unfold Jt_;rw[e];exact yK
theorem H5_ {a:Nat} (ha:a<4294967296):SW.crc1 (Int.ofNat a)=Int.ofNat (crcN a):=by
 unfold SW.crc1 crcN;rw[Js_ ha,tabN_eq _ (Nat.mod_lt _ xB)];have e:Int.fdiv (Int.ofNat a) (2 ^ (min (4:Int).toNat (IntKind.bits .u32)))=Int.ofNat (a/16):=by
   show Int.fdiv (Int.ofNat a) 16=_
   rw[Int.fdiv_eq_ediv_of_nonneg _ xB]
   rfl
 rw[e,Gz_ yY (Ml_ _)];rfl
theorem crcN_lt {a:Nat} (ha:a<4294967296):crcN a<4294967296:=Nat.xor_lt_two_pow (n:=32) (show a/16<2 ^ 32 by omega) (Ml_ _)
def crcS:List CV->Option CV
 |[.int .u32 (.ofNat r), .int .u8 (.ofNat b)]=>bif Nat.blt r 4294967296&&Nat.blt b 256 then some (.int .u32 (.ofNat (crcN (crcN (Nat.xor r b))))) else none
 |_=>none
theorem Em_ {β:Be} {k:IntKind}:∀ {zs:List Int} {vs:List Value},VRs β (zs.map (CV.int k)) vs->vs=zs.map (Value.int k)
 |[],_,h=>h.nil_inv
 |z::r,_,h=>by
   obtain⟨v,us,rfl,h1,h2⟩:=VRs.cons_inv h
   simp only[VR] at h1
   subst h1
   rw[Em_ h2];rfl
theorem gh_tab {t:Nat} {zs:List Int} (h:GH G H) (e:gbE G t=some (zs.map (CV.int .u32))):GTab H t zs:=by
 obtain⟨vs,T,fr,h1,h2⟩:=h.h _ _ e;refine⟨T,fr,?_⟩;rw[<- Em_ (h2 λ_=>none)];simpa using h1
theorem M3_ {g:FuncId} {t:Nat} (hg:gbE G t=some (laidT.map (CV.int .u32))) (hc:V_ P g) (h:∀ (H:Hp),GTab H t laidT->∀ (r:Int),0<=r/\r<=4294967295->∀ (b:Int),0<=b/\b<=255->Pr P g #[.int .u32 r, .int .u8 b] H (.int .u32 (Fd_ r b))):CSp P G g (.pure crcS):=by
 refine⟨hc,λargs c e H hG β N L vs w hv hm=>?_⟩;unfold crcS at e
 split at e
 . rename_i r b
   cases hb:(Nat.blt r 4294967296&&Nat.blt b 256) with
   |false=>rw[hb] at e;cases e
   |true=>
     rw[hb] at e
     simp only[Bool.and_eq_true] at hb
     have hr:=Nat.le_of_ble_eq_true hb.1;have hb:=Nat.le_of_ble_eq_true hb.2
     simp only[cond_true,Option.some.injEq] at e;subst e
     obtain⟨v1,us,rfl,h1,h2⟩:=hv.cons_inv
     obtain⟨v2,us,rfl,h3,h4⟩:=h2.cons_inv
     rw[h4.nil_inv]
     simp only[VR] at h1 h3
     subst h1;subst h3
     refine (h H (gh_tab hG hg) (Int.ofNat r) ⟨Int.natCast_nonneg _,by simp only[Int.ofNat_eq_natCast];omega⟩ (Int.ofNat b) ⟨Int.natCast_nonneg _,by simp only[Int.ofNat_eq_natCast];omega⟩ N L w hm).mono λen w' ⟨h1,h2⟩=>⟨_,h1,?_,h2⟩
     simp only[VR]
     unfold Fd_
     have hx:Nat.xor r b<4294967296:=Nat.xor_lt_two_pow (n:=32) yY yY
     rw[Gz_ yY yY]
     simp only[M1_]
     rw[H5_ hx,H5_ (crcN_lt hx)]
 . cases e
end Go.CE
