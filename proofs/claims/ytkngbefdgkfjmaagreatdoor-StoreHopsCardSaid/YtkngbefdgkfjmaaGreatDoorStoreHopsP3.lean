/-
  A part of the proof of StoreHops: From the data that a row's arguments read as to the ground of the walks, and back: a world seen as one that is read alone; integers, texts, bools, structs, slices opened; the row's last step. Over any program; no condition.
-/
import Derived.Test.YtkngbefdgkfjmaaGreatDoorStoreHopsP1
import Derived.ProofKit
import Derived.OpenShut
import Derived.Deep.Slices
import Derived.Carry
import Derived.Lib.LaidTab
import Derived.SizedLaws
import Derived.Test.YtkngbefdgkfjmaaGreatDoorStoreHopsP2
import Derived.MapKept
import Derived.ChangeKeysEq
import Derived.Below
import Derived.Laws.AppendOwn
import Derived.Lib.FieldsP
import Derived.Lib.ParseIntB
import Derived.Lib.SmallJoins
set_option linter.unusedVariables false
set_option linter.unusedSimpArgs false
set_option maxRecDepth 100000
set_option maxHeartbeats 4000000
namespace Go.SW
open Go.ChangeShapes Go.WideShapes Go.ChangeAt Go.RowKit
def hp (w:World):Hp:=fun b=>w.heap[b]?
def rest0 (w:World):Rest:=⟨fun _=>none,w.os,w.tape,w.output⟩
theorem mem0 (w:World):Mem (rest0 w) (hp w) l0 w:=
  {os:=rfl,tape:=rfl,output:=rfl,n:=fun _ _ h=>(by cases h),h:=fun _ _ h=>h,l:=fun _ _ _ h=>(by cases h),nh:=fun _ _ h=>(by cases h),nl:=fun _ _ _ h=>(by cases h),ll:=fun _ _ _ _ _ h=>(by cases h)}
theorem X2_ {w w':World} {L:Ls} (h:Mem (rest0 w) (hp w) L w'):Below w.heap.size w w':=by
  have hb:∀ k,k<w.heap.size->w'.heap[k]? = w.heap[k]? :=fun k hk=>by
    have e:w.heap[k]? = some w.heap[k]:=Array.getElem?_eq_getElem hk
    rw[e];exact h.h k _ e
  refine⟨h.os,h.tape,h.output,?_,hb⟩
  by_cases z:w.heap.size=0
  · omega
  · have :=hb (w.heap.size-1) (by omega)
    rw[Array.getElem?_eq_getElem (show w.heap.size-1<w.heap.size by omega)] at this
    have :=(Array.getElem?_eq_some_iff.1 this).1
    omega
section
variable {Ht:Type} {enc:TypeId×Value->Ht} {P:Program} {w:World} {base fuel:Nat} {spare:Nat->Bool} {held:Bool} {cs:List Value} {x:DataW Ht×List MemPlace} {t:TypeId}
theorem rd_int {k:IntKind} (ht:P.underlying t=some (.int k)) (h:DataW.trod enc P w base spare held fuel t cs=some x):∃ z:Int,cs=[.int k z]/\k.min<=z/\z<=k.max:=by
  obtain⟨z,h1,_,h2⟩:=DataW.trod_int ht h
  refine⟨z,h1,?_⟩
  simp only[Lit.wf,Bool.and_eq_true,decide_eq_true_eq] at h2;exact h2
theorem rd_bool (ht:P.underlying t=some .bool) (h:DataW.trod enc P w base spare held fuel t cs=some x):∃ z:Bool,cs=[.bool z]:=by
  obtain⟨z,h1,_⟩:=DataW.trod_bool ht h
  exact⟨z,h1⟩
theorem rd_str (ht:P.underlying t=some .string) (h:DataW.trod enc P w base spare held fuel t cs=some x):∃ s:Bs,cs=[str s]/\s.length<=9223372036854775807:=by
  obtain⟨s,h1,_,h2⟩:=DataW.trod_string ht h
  refine⟨s.data.toList,by rw[h1,str_of],?_⟩
  have :s.data.toList.length=s.size:=Array.length_toList
  rw[this];exact h2
theorem list_of {α:Type} {Q:Nat->α->Prop}:∀ n,(∀ i,i<n->∃ r,Q i r)->∃ rs:List α,rs.length=n/\∀ i (h:i<rs.length),Q i rs[i]
  |0,_=>⟨[],rfl,fun i h=>by cases h⟩
  |n+1,hq=>by
    obtain⟨rs,hl,hr⟩:=list_of n (fun i hi=>hq i (by omega))
    obtain⟨r,hr0⟩:=hq n (by omega)
    refine⟨rs++[r],by simp[hl],fun i hi=>?_⟩
    by_cases e:i<rs.length
    · rw[List.getElem_append_left e];exact hr i e
    · have :i=rs.length:=by simp at hi;omega
      subst this
      rw[List.getElem_append_right (Nat.le_refl _)]
      simp only[Nat.sub_self,List.getElem_cons_zero]
      rw[hl];exact hr0
theorem rd_fld {fs:Array Field} {xs:List (DataW Ht×List MemPlace)} {n i o k:Nat} {f:Field} {ft:TypeId} (hf:∀ (i:Nat) (f:Field),fs[i]? = some f->DataW.trod enc P w base spare held n f.type ((cs.drop f.offset).take (P.cellsOf f.type))=xs[i]?) (hl:xs.length=fs.size)
    (hi:fs[i]? = some f) (ho:f.offset=o) (ht:f.type=ft) (hk:P.cellsOf ft=k):∃ y,DataW.trod enc P w base spare held n ft ((cs.drop o).take k)=some y:=by
  have h:=hf i f hi
  have hlt:i<fs.size:=(Array.getElem?_eq_some_iff.1 hi).1
  rw[ho,ht,hk,List.getElem?_eq_getElem (by omega)] at h
  exact⟨_,h⟩
end
theorem rd_agg {Ht:Type} {enc:TypeId×Value->Ht} {P:Program} {w:World} {r:Reach} {b0 base:Nat} {spare:Nat->Bool} {held:Bool} {t:TypeId} {fs:Array Field} {v:Value} {d:DataW Ht} {p:List MemPlace} (hs:P.underlying t=some (.struct fs)) (hv:Value.okWide P w r b0 t v)
    (h:DataW.Trod enc P w base spare held t v d p):∃ (l:List Value) (fuel:Nat),v = .agg l.toArray/\DataW.trod enc P w base spare held fuel t l=some (d,p):=by
  obtain⟨cs,rfl,_⟩:=okWide_struct hs hv
  obtain⟨fuel,hf⟩:=h
  exact⟨cs.toList,fuel,rfl,hf⟩
theorem params_ok {P:Program} {ts:Array TypeId} (h:(ts.toList.all fun t=>P.readableRec t && decide (t<P.types.size))=true):∀ t∈ts.toList,P.readableRec t=true/\t<P.types.size:=fun t ht=>by
  have :=List.all_eq_true.1 h t ht
  simpa using this
theorem Ya_ {Ht:Type} {enc:TypeId×Value->Ht} {P:Program} {w:World} {r:Reach} {b0 base:Nat} {spare:Nat->Bool} {held:Bool} {t:TypeId} {k:IntKind} {v:Value} {d:DataW Ht} {p:List MemPlace} (hs:P.underlying t=some (.int k)) (hv:Value.okWide P w r b0 t v)
    (h:DataW.Trod enc P w base spare held t v d p):∃ z:Int,v = .int k z/\k.min<=z/\z<=k.max:=by
  obtain⟨z,rfl,_,_,hw⟩:=open_int hs hv h
  refine⟨z,rfl,?_⟩
  simp only[Lit.wf,Bool.and_eq_true,decide_eq_true_eq] at hw;exact hw
def flatD:Nat->DataW Unit->List Value
  |_, .lit (.int k n)=>[.int k n]
  |_, .lit (.string s)=>[.string ⟨s.toArray⟩]
  |_, .lit (.bool b)=>[.bool b]
  |n+1, .agg l=>l.flatMap (flatD n)
  |_,_=>[]
def layD (d:DataW Unit):Obj->Obj
  | .cells _ t frozen=> .cells (flatD 5 d).toArray t frozen
  |o=>o
theorem Sc_ {Ht:Type} {enc:TypeId×Value->Ht} {P:Program} (hl:laidOutB P=true) {W W':World} (hb:Below W.heap.size W W') {sp:Nat->Bool}:∀ {ts:List TypeId} {vs:List Value} {ds:List (DataW Ht)} {ps:List MemPlace},(∀ t∈ts,P.readableRec t=true/\t<P.types.size) ->
    DataW.TrodAll enc P W 0 (fun _=>true) true ts vs ds ps->(∀ x∈ps,x.block<W.heap.size)->(∀ x∈ps,sp x.block=true)->DataW.TrodAll enc P W' 0 sp true ts vs ds ps:=by
  intro ts
  induction ts with
  |nil=>intro vs ds ps _ h _ _;cases vs<;>cases ds<;>first|exact h|exact h.elim
  |cons t ts ih=>
    intro vs ds ps hr h hlt hsp
    obtain⟨v,vs',d,ds',p,q,rfl,rfl,rfl,h1,h2⟩:=trodAll_cons h
    exact trodAll_cons_mk (WideElems.Trod_stays hl (hr t (by simp)).1 (hr t (by simp)).2 h1 (fun x hx=>hb.same (hlt x (by simp[hx]))) (fun x hx=>hsp x (by simp[hx]))) (ih (fun u hu=>hr u (by simp[hu])) h2 (fun x hx=>hlt x (by simp[hx])) (fun x hx=>hsp x (by simp[hx])))
section
variable {Ht:Type} {enc:TypeId×Value->Ht} {P:Program}
theorem law_post {f:Func} {s:ChangeSpec} {apart fresh again:Bool} {W W':World} {args:Array Value} {ds:List (DataW Ht)} {before:List MemPlace} {tb:TypeId} (hvars:s.vars=[])
    (hW:DataW.Whole enc P f.params.toList s.vars apart W args.toList ds [] before) (hb:Below W.heap.size W W') (hl:laidOutB P=true) (hr:∀ t∈f.params.toList,P.readableRec t=true/\t<P.types.size)
    (hres:f.resultTypes = #[tb]) (hu:P.underlying tb=some .bool) (hfn:s.fn Ht (ds++[])={results:=[.lit (.bool true)],args:=ds}):s.post enc P f apart fresh false again W args (.bool true) W':=by
  have hlt:∀ p∈before,p.block<W.heap.size:=fun p hp=>hW.lt p hp
  have hold:∀ p∈before,(fun b=>decide (b<W.heap.size)) p.block=true:=fun p hp=>by simpa using hlt p hp
  have hW0:=hW
  obtain⟨p,q,hA,hV,rfl,hz,hn⟩:=hW0
  have hq:q=[]:=by
    rw[hvars] at hV
    exact (trodVars_none hV).2
  subst hq
  rw[List.append_nil] at hlt hold hz hn hW
  have hA0:DataW.TrodAll enc P W 0 (fun _=>true) true f.params.toList args.toList ds p:=hA
  have hargs:∀ sp:Nat->Bool,(∀ x∈p,sp x.block=true)->DataW.TrodAll enc P W' 0 sp true f.params.toList args.toList ds p:=fun sp hs=>Sc_ hl hb hr hA0 hlt hs
  have hvs:∀ sp:Nat->Bool,DataW.TrodVars enc P W' sp s.vars ([]:List (DataW Ht)) []:=fun sp=>by rw[hvars];rfl
  have hR:∀ (b:Nat) (sp:Nat->Bool) (hd:Bool),DataW.TrodAll enc P W' b sp hd f.resultTypes.toList ((Value.bool true).resultList f.resultTypes.size) [.lit (.bool true)] []:=fun b sp hd=>by
    rw[hres]
    exact trodAll_mk1 (shut_bool hu true)
  have hok:∀ (j:Nat) (t:TypeId) (r:Value),f.resultTypes[j]? = some t->((Value.bool true).resultList f.resultTypes.size)[j]? = some r->Value.okWide P W' .any 0 t r:=ok_one hres rfl (okWide_bool_mk hu true)
  refine⟨ds,[],p,[],p,[],hW,?_,?_,?_,World.keptBut_mono (fun x hx=>⟨hx,Or.inr (by simpa using hx)⟩) (hb.frame (· ∈ p)),fun _=>?_⟩
  · rw[hfn];exact hR _ _ _
  · rw[hfn];exact hargs _ hold
  · rw[hfn];exact hvs _
  · refine⟨hok,_,_,([]++p)++[],⟨[]++p,[],trodAll_append (hargs _ (fun _ _=>rfl)) (hR _ _ _),hvs _,rfl,?_,?_⟩,?_⟩
    · intro b off hp
      have hin:MemPlace.cell b off∈p:=by simpa using hp
      rw[hb.frozen (hlt _ hin)]
      exact hz b off hin
    · intro ha
      have :=hn ha
      simpa using this
    · intro x hx _
      simpa using hx
theorem Q1_ {w:World} {g:Nat} {t:TypeId} {zero:Array Value} (h:w.ShapedOpen P) (hg:g<P.globals.size)
    (h0:((begin P (fun _ _=>0) default).world.heap[g]?).bind Obj.row?=some (zero,t)) (hz:zero.size=1)
    (hb:P.buildable t=true) (hc:P.cellTypes P.depth t=some [t]) (hu:P.underlying t=some (.int .i64)):GInt (hp w) g:=by
  obtain⟨cs,hh,hs,hr⟩:=h.1 g zero t hg h0
  obtain⟨ts,hts,_,hall⟩:=hr hb
  rw[hc] at hts
  cases hts
  have h1:0<cs.size:=by omega
  obtain⟨u,hu',hok⟩:=hall 0 cs[0] (by simp[h1])
  have :u=t:=by simpa using hu'.symm
  subst this
  unfold Cell.ok at hok
  rw[hu] at hok
  have hv:∃ m,cs[0] = .int .i64 m:=by
    cases hv:cs[0]<;>rw[hv] at hok<;>first|exact⟨_,by rw[hok.1]⟩|simp at hok
  obtain⟨m,hm⟩:=hv
  refine⟨m,u,(0,0),?_⟩
  show w.heap[g]? = _
  rw[hh]
  have e:cs = #[.int .i64 m]:=by
    apply Array.ext
    · simp;omega
    · intro i hi1 hi2
      have :i=0:=by simp at hi2;omega
      subst this
      simpa using hm
  rw[e]
end
variable {P:Program}
theorem Y3_ {Ht:Type} {enc:TypeId×Value->Ht} {w:World} {base fuel:Nat} {spare:Nat->Bool} {held:Bool} {a:Option Addr} {l c:Nat} {x:DataW Ht×List MemPlace} {t e:TypeId} (ht:P.underlying t=some (.slice e))
    (h:DataW.trod enc P w base spare held fuel t [.slice a l c]=some x):x.1 = .nil/\l=0\/∃ el sp,x.1 = .slice el sp/\el.length=l:=by
  rcases Go.Deep.open_slice ht h with ⟨h1,h2⟩|⟨a',len,cap,m,nf,D,Pl,h1,_,hl,hm,hmm,hx,_⟩
  · cases h1;subst h2;exact .inl ⟨rfl,rfl⟩
  · cases h1;subst hx;exact .inr ⟨_,_,rfl,by simp⟩
theorem Ua_ {w:World} {r:Reach} {b0:Nat} {t e:TypeId} {v:Value} {a:Option Addr} {l c:Nat} (hs:P.underlying t=some (.slice e)) (hv:Value.okWide P w r b0 t v) (he:v.cells.toList=[.slice a l c]):v = .slice a l c:=by
  unfold Value.okWide at hv
  rw[hs] at hv
  simp only at hv
  unfold Cell.okWide at hv
  rw[hs] at hv
  cases v with
  |agg cs=>simp[Cell.ok,hs] at hv
  |_=>exact (List.cons.inj he).1
end Go.SW
namespace Go.SW
open Go.ChangeShapes Go.WideShapes Go.ChangeAt Go.RowKit
variable {P:Program}
def Rdv {α:Type} (P:Program) (t:TypeId) (en:α->List PV) (k:Nat):Prop:=
  ∀ (Ht:Type) (enc:TypeId×Value->Ht) (w:World) (base:Nat) (spare:Nat->Bool) (held:Bool) (fuel:Nat) (cs:List Value) (x:DataW Ht×List MemPlace),
    DataW.trod enc P w base spare held fuel t cs=some x->(∀ n∈x.1.weights P t,n<=reachBytes)->∃ r:α,RowE en k (hp w) r cs
theorem rowE1 {α:Type} {en:α->List PV} {H:Hp} {r:α} {p:PV} {v:Value} (he:en r=[p]) (h:Sim H p v) (ho:v.oneCell'=true):RowE en 1 H r [v]:=
  ⟨by rw[he];rfl,by rw[he];exact Sims.nil.cons h,fun u hu=>by rw[List.mem_singleton.1 hu];exact ho⟩
theorem Dh_ {k:IntKind} {t:TypeId} (ht:P.underlying t=some (.int k)):Rdv P t (fun z:Int=>[.int k z]) 1:=fun _ _ _ _ _ _ _ _ _ h _=>by
  obtain⟨z,rfl,h1,h2⟩:=rd_int ht h
  exact⟨z,rowE1 rfl (.int h1 h2) rfl⟩
theorem W7_ {t:TypeId} (ht:P.underlying t=some .bool):Rdv P t (fun z:Bool=>[.bool z]) 1:=fun _ _ _ _ _ _ _ _ _ h _=>by
  obtain⟨z,rfl⟩:=rd_bool ht h
  exact⟨z,rowE1 rfl .bool rfl⟩
theorem Fz_ {t:TypeId} (ht:P.underlying t=some .string):Rdv P t (fun s:Bs=>[.str s]) 1:=fun _ _ _ _ _ _ _ _ _ h _=>by
  obtain⟨s,rfl,h1⟩:=rd_str ht h
  exact⟨s,rowE1 rfl (.str h1) rfl⟩
theorem Kv_ {H:Type} {e:TypeId}:∀ {ds:List (DataW H)} {d:DataW H} {n:Nat},d∈ds->n∈d.weights P e->n∈DataW.weightsAll P e ds
  |[],_,_,h,_=>by cases h
  |d0::r,d,n,h,hn=>by
    simp only[DataW.weightsAll,List.mem_append]
    rcases List.mem_cons.1 h with rfl|q
    · exact .inl hn
    · exact .inr (Kv_ q hn)
theorem Jz_ {α:Type} {en:α->List PV} {k:Nat} {t e:TypeId} (ht:P.underlying t=some (.slice e)) (hk:P.cellsOf e=k) (h0:0<k) (hb:0<P.bytesOf e) (he:Rdv P e en k):Rdv P t (fun xs:List α=>[.sl en xs]) 1:=fun Ht enc w base spare held fuel cs x h hw=>by
  have hlen:∀ {a:Option Addr} {l c:Nat},cs=[.slice a l c]->l<=140737488355328:=fun {a l c} hcs=>by
    subst hcs
    rcases Y3_ ht h with ⟨_,rfl⟩|⟨el,sp,hx,rfl⟩
    · exact Nat.zero_le _
    · have :=hw ((el.length+sp.length)*P.bytesOf e) (by rw[hx];simp[DataW.weights,ht])
      have h1:el.length<=(el.length+sp.length)*P.bytesOf e:=Nat.le_trans (Nat.le_add_right _ _) (Nat.le_mul_of_pos_right _ hb)
      have h2:reachBytes=140737488351232:=by decide
      omega
  rcases Go.Deep.open_slice ht h with ⟨h1,_⟩|⟨a,len,cap,m,nf,D,Pl,h1,_,hl,hm,hmm,hx,hi⟩
  · subst h1
    exact⟨[],rowE1 rfl (Sim.of_slh (k:=0) Vs_ (by simp)) rfl⟩
  · have hs0:0<len->a=⟨a.block,a.off,none⟩:=by
      intro hl0
      obtain⟨cs',hc,hT⟩:=hi 0 (by rw[hmm];split<;>omega)
      rw[hk,Nat.zero_mul] at hc
      obtain⟨_,hcl,hat⟩:=World.cells?_some hc
      have ha0:=hat 0 h0
      rw[List.getElem?_eq_getElem (by omega)] at ha0
      obtain⟨ab,ao,asp⟩:=a
      cases asp with
      |none=>rfl
      |some z=>
        exfalso
        unfold World.cell? at ha0
        simp only[Addr.add] at ha0
        split at ha0<;>simp at ha0
    have hwD:∀ i,i<len->∀ n∈(D i).weights P e,n<=reachBytes:=fun i hil n hn=>by
      refine hw n ?_
      rw[hx]
      simp only[DataW.weights,ht,List.mem_cons,List.mem_append]
      exact .inr (.inl (Kv_ (List.mem_map.2 ⟨i,List.mem_range.2 hil,rfl⟩) hn))
    have key:∀ i,i<len->∃ r:α,∃ cs',RowE en k (hp w) r cs'/\SlAt (hp w) (.slice (some a) len cap) k i cs':=by
      intro i hil
      have ha:=hs0 (by omega)
      obtain⟨cs',hc,hT⟩:=hi i (by rw[hmm];split<;>omega)
      obtain⟨r,hr⟩:=he _ _ _ _ _ _ _ _ _ hT (hwD i hil)
      rw[hk] at hc
      obtain⟨_,hcl,hat⟩:=World.cells?_some hc
      refine⟨r,cs',hr,?_⟩
      generalize a.block=ab at ha
      generalize a.off=ao at ha
      subst ha
      simp only[Eb_] at hat
      have ha0:=hat 0 h0
      rw[List.getElem?_eq_getElem (by omega)] at ha0
      unfold World.cell? at ha0
      simp only at ha0
      split at ha0
      · rename_i c T fr hb
        refine⟨ab,ao,len,cap,c,T,fr,rfl,hb,hcl,fun j hj=>?_⟩
        have :=hat j hj
        unfold World.cell? at this
        simp only at this
        rw[hb] at this
        simpa using this
      · cases ha0
    obtain⟨rs,hlen',hr⟩:=list_of (Q:=fun i (r:α)=>∃ cs',RowE en k (hp w) r cs'/\SlAt (hp w) (.slice (some a) len cap) k i cs') len key
    have hs:SlH (RowE en k) k (hp w) (.slice (some a) rs.length cap) rs:=⟨⟨some a,cap,rfl,by omega⟩,fun i hi=>by rw[hlen'];exact hr i hi⟩
    subst h1
    have hle:=hlen (rfl :[Value.slice (some a) len cap]=_)
    refine⟨rs,rowE1 rfl (v:= .slice (some a) len cap) (by rw[<- hlen'];exact Sim.of_slh hs (by omega)) rfl⟩
theorem rows_app {ps qs:List PV} {H:Hp} {cs ds:List Value} {m n:Nat} (h:ps.length=m/\Sims H ps cs/\∀ u∈cs,u.oneCell'=true) (k:qs.length=n/\Sims H qs ds/\∀ u∈ds,u.oneCell'=true):(ps++qs).length=m+n/\Sims H (ps++qs) (cs++ds)/\∀ u∈cs++ds,u.oneCell'=true:=
  ⟨by simp[h.1,k.1],h.2.1.append k.2.1,fun u hu=>by rcases List.mem_append.1 hu with q|q;exact h.2.2 u q;exact k.2.2 u q⟩
theorem Ao_ {Ht:Type} {enc:TypeId×Value->Ht} {w:World} {base:Nat} {spare:Nat->Bool} {held:Bool} {cs:List Value} {t:TypeId} {fs:Array Field} {xs:List (DataW Ht×List MemPlace)} {n i o k:Nat} {f:Field} {ft:TypeId} {α:Type} {en:α->List PV} (ht:P.underlying t=some (.struct fs))
    (hf:∀ (i:Nat) (f:Field),fs[i]? = some f->DataW.trod enc P w base spare held n f.type ((cs.drop f.offset).take (P.cellsOf f.type))=xs[i]?) (hl:xs.length=fs.size) (hw:∀ q∈(DataW.agg (xs.map (·.1)):DataW Ht).weights P t,q<=reachBytes)
    (hi:fs[i]? = some f) (ho:f.offset=o) (hft:f.type=ft) (hk:P.cellsOf ft=k) (hr:Rdv P ft en k):∃ r,RowE en k (hp w) r ((cs.drop o).take k):=by
  obtain⟨y,hy⟩:=rd_fld hf hl hi ho hft hk
  refine hr _ _ _ _ _ _ _ _ _ hy fun q hq=>hw q ?_
  have h:=hf i f hi
  rw[ho,hft,hk,hy] at h
  simp only[DataW.weights,ht]
  refine DataW.weights_mem_each (j:=i) (t:=ft) (d:=y.1) ?_ ?_ q hq
  · rw[List.getElem?_map,Array.getElem?_toList,hi];simp[hft]
  · rw[List.getElem?_map,<- h];rfl
theorem Bd_ {en:List PV} {H:Hp} {cs:List Value} {o k:Nat} {q:Nat} (h:en.length=k/\Sims H en ((cs.drop o).take k)/\∀ u∈(cs.drop o).take k,u.oneCell'=true) {es:List PV} (hr:es.length=q/\Sims H es (cs.drop (o+k))/\∀ u∈cs.drop (o+k),u.oneCell'=true):(en++es).length=k+q/\Sims H (en++es) (cs.drop o)/\∀ u∈cs.drop o,u.oneCell'=true:=by
  have :=rows_app h hr
  rw[<- List.drop_drop,List.take_append_drop] at this
  exact this
theorem Gu_ {en:List PV} {H:Hp} {cs:List Value} {o k:Nat} (hl:cs.length=o+k) (h:en.length=k/\Sims H en ((cs.drop o).take k)/\∀ u∈(cs.drop o).take k,u.oneCell'=true):en.length=k/\Sims H en (cs.drop o)/\∀ u∈cs.drop o,u.oneCell'=true:=by
  rw[List.take_of_length_le (by simp;omega)] at h
  exact h
section
variable {Ht:Type} {enc:TypeId×Value->Ht} {w:World} {r:Reach} {b0 base:Nat} {spare:Nat->Bool} {held:Bool} {t:TypeId} {v:Value} {d:DataW Ht} {p:List MemPlace}
theorem arg_int {k:IntKind} (hs:P.underlying t=some (.int k)) (hv:Value.okWide P w r b0 t v) (h:DataW.Trod enc P w base spare held t v d p):∃ z:Int,Sim (hp w) (.int k z) v:=by
  obtain⟨z,rfl,h1,h2⟩:=Ya_ hs hv h
  exact⟨z, .int h1 h2⟩
theorem arg_rec {α:Type} {en:α->List PV} {k:Nat} {fs:Array Field} (hs:P.underlying t=some (.struct fs)) (hv:Value.okWide P w r b0 t v) (h:DataW.Trod enc P w base spare held t v d p) (hw:∀ q∈d.weights P t,q<=reachBytes) (hr:Rdv P t en k):∃ z:α,Sim (hp w) (.agg (en z)) v:=by
  obtain⟨l,fuel,rfl,h1⟩:=rd_agg hs hv h
  obtain⟨z,h2⟩:=hr _ _ _ _ _ _ _ _ _ h1 hw
  exact⟨z,Sim.toAgg h2.2.1⟩
theorem arg_sl {α:Type} {en:α->List PV} {e:TypeId} (hs:P.underlying t=some (.slice e)) (hv:Value.okWide P w r b0 t v) (h:DataW.Trod enc P w base spare held t v d p) (hw:∀ q∈d.weights P t,q<=reachBytes) (hr:Rdv P t (fun xs:List α=>[.sl en xs]) 1):∃ z:List α,Sim (hp w) (.sl en z) v:=by
  obtain⟨fuel,h1⟩:=h
  obtain⟨z,h2⟩:=hr _ _ _ _ _ _ _ _ _ h1 hw
  obtain⟨u,us,e1,h3,h4⟩:=h2.2.1.inv_cons
  cases h4.inv_nil
  have :∃ a l c,u = .slice a l c:=by cases h3;exact⟨_,_,_,rfl⟩
  obtain⟨a,l,c,rfl⟩:=this
  obtain rfl :=Ua_ hs hv e1
  exact⟨z,h3⟩
theorem wt_arg {ts:List TypeId} {ds:List (DataW Ht)} {j:Nat} (hw:(DataW.weightsEach P ts ds).all (· <= reachBytes)=true) (ht:ts[j]? = some t) (hd:ds[j]? = some d):∀ q∈d.weights P t,q<=reachBytes:=fun q hq=>by
  have :=List.all_eq_true.1 hw q (DataW.weights_mem_each ht hd q hq)
  simpa using this
end
theorem law_run {G:Gb} {f:FuncId} {args:List PV} {b:Bool} {vs:List Value} {W:World} (h:Fn P G f args (.bool b)) (hg:G.p (hp W)) (hs:Sims (hp W) args vs) (hb:b=true):Calls P f vs.toArray W fun e W'=>e = .returned (.bool true)/\Mem (rest0 W) (hp W) l0 W':=
  (h.run (rest0 W) (hp W) l0 W vs hg hs (mem0 W)).mono fun _ _ ⟨v,H',h1,h2,h3,h4⟩=>⟨by rw[h1,h2.inv_bool,hb],h4.le h3⟩
end Go.SW
namespace Go.SW.V
open Go.SW
variable {P:Program} {n m:Nat} {N:Rest} {H0:Env} {all rest:List Oper} {Q:Qs} {ks:List Kt} {fF gF:Nat->PV} {fL gL:Nat->Blk} {T ty d:Nat} {pos:String} {af:Array Edge} {x y z:Operand}
def deF (ts:List Nat) (G:Nat->PV):Nat->PV:=fun t=>bif memB ts t then G t else (match G t with
  | .osl _=> .junk
  |p=>p)
def arrU:Blk->Option Value
  | .arr u _ _ _ _=>some u
  |_=>none
def U8_ (G:Nat->PV) (L L':Nat->Blk):List Nat->Prop
  |[]=>True
  | t::r=>(match G t with
    | .osl q=>arrU (L' q)=arrU (L q)
    |_=>True)/\U8_ G L L' r
theorem S2_ {G:Nat->PV} {L L':Nat->Blk}:∀ {ts:List Nat} {t q:Nat},U8_ G L L' ts->t∈ts->G t = .osl q->arrU (L' q)=arrU (L q)
  |[],t,q,_,h,_=>by cases h
  |a::r,t,q,hk,h,hG=>by
    rcases List.mem_cons.1 h with rfl|h
    · have :=hk.1;rw[hG] at this;exact this
    · exact S2_ hk.2 h hG
def inlK (P:Program) (n:Nat) (N:Rest) (H0:Env) (tb:Tb) (rs:List ResultVar) (ts:List Nat) (fF:Nat->PV) (fL:Nat->Blk) (Q:Qs) (all rest:List Oper) (ks:List Kt) (d:Nat):Qs:=fun e s=>(e = .normal\/e = .ret) /\
  ∃ ps as0 bs,Fn_ tb s rs=some (ps,as0,bs)/\as0=bs/\(tupP ps).noOsl=true/\U8_ fF fL s.L ts/\Hd P n N H0 Q (.ops all rest) ks ⟨updp (deF ts fF) d (tupP ps),s.L⟩
theorem inlr {H1:Env} {tb:Tb} {rs:List ResultVar} {ts:List Nat} {ps:List PV} {as0 bs:List Nat} (h:Fn_ tb ⟨gF,gL⟩ rs=some (ps,as0,bs)) (he:as0=bs) (hno:(tupP ps).noOsl=true) (hk:U8_ fF fL gL ts) (k:Hd P n N H0 Q (.ops all rest) ks ⟨updp (deF ts fF) d (tupP ps),gL⟩):Hd P m N H1 (inlK P n N H0 tb rs ts fF fL Q all rest ks d) (.ex .ret) [] ⟨gF,gL⟩:=⟨.inr rfl,ps,as0,bs,h,he,hno,hk,k⟩
theorem inln {H1:Env} {tb:Tb} {rs:List ResultVar} {ts:List Nat} {ps:List PV} {as0 bs:List Nat} (h:Fn_ tb ⟨gF,gL⟩ rs=some (ps,as0,bs)) (he:as0=bs) (hno:(tupP ps).noOsl=true) (hk:U8_ fF fL gL ts) (k:Hd P n N H0 Q (.ops all rest) ks ⟨updp (deF ts fF) d (tupP ps),gL⟩):Hd P m N H1 (inlK P n N H0 tb rs ts fF fL Q all rest ks d) (.ex .normal) [] ⟨gF,gL⟩:=⟨.inl rfl,ps,as0,bs,h,he,hno,hk,k⟩
theorem deF_ok {ts:List Nat} {H:Hp} {F:Fr} (hf:∀ t,SimT fL H (fF t) (F t)) (hk:U8_ fF fL gL ts) (t:Nat):SimT gL H (deF ts fF t) (F t):=by
  have h1:=hf t
  unfold deF
  cases e:memB ts t with
  |true=>
    simp only[cond_true]
    cases hp:fF t with
    |osl q=>
      have h2:=S2_ hk (Ju_ e) hp
      rw[hp] at h1
      simp only[SimT] at h1 ⊢
      cases hg:gL q with
      |arr u' k' e' enc' xs'=>
        cases hl:fL q with
        |arr u k e enc xs=>rw[hg,hl] at h2;simp only[arrU,Option.some.injEq] at h2;rw[hl] at h1;rw[h2];exact h1
        |_=>rw[hg,hl] at h2;simp[arrU] at h2
      |_=>trivial
    |_=>rw[hp] at h1;exact h1
  |false=>
    simp only[cond_false]
    cases hp:fF t with
    |osl q=>exact Sim.junk
    |_=>rw[hp] at h1;exact h1
theorem hinl {tb:Tb} {f:FuncId} {fn:Func} {c:Code} {args:List PV} {xs:Array Operand} {ats:Array TypeId} (ts:List Nat) (ht:tbB P tb=true) (hf:P.funcs[f]? = some fn) (hb:fn.body=some c) (hn:fn.ntmps=m) (hcb:Z_ P f) (ha:argsP fF x xs.toList=some (f,args)) (hs:Nat.ble args.length m=true) (hna:Bh_ args=true) (hd:Nat.blt d n=true)
    (h:∀ Hc,H0.g.p Hc->Hd P m N ⟨Hc,H0.g⟩ (inlK P n N H0 tb fn.results.toList ts fF fL Q all rest ks d) (.code c) [] ⟨Kx_ args,fL⟩):Hd P n N H0 Q (.ops all (⟨some d, .call ⟨.value x,xs,ats⟩,ty,pos,af,none⟩::rest)) ks ⟨fF,fL⟩:=by
  intro F H L hab
  obtain⟨vs,h1,h2⟩:=Gk_ (ats:=ats) hab.f ha hcb
  refine ow1 fun a w hA hm=>?_
  rw[if_pos (by simp[Region.wanted])]
  unfold Oper.wp
  rw[hA.eval,h2]
  subst hn
  have h3:=h H hab.g (G8_ vs.toArray) H L ⟨.refl H,hab.g,fun t=>I4_ h1 hna t,hab.l⟩
  refine E7_ (R:=fun v H' L'=>∃ (sL:Nat->Blk) (res:PV),Sim H' res v/\res.noOsl=true/\U8_ fF fL sL ts/\(∀ i,SimB sL H' (sL i) (L' i))/\H0.g.p H'/\Hd P n N H0 Q (.ops all rest) ks ⟨updp (deF ts fF) d res,sL⟩) (H0:=H) hf hb (by have :=Nat.le_of_ble_eq_true hs;simp[h1.1];exact this) (G7_ (fun e F' H' L' hq=>?_) h3) hm ?_
  · obtain⟨s',ha',he,ps,as0,bs,e1,e2,e3,e4,e5⟩:=hq
    obtain⟨_,v,hr,hv⟩:=K4_ (N:=N) (res:=tupP ps) ht ha' (show rtK tb fn.results.toList (tupP ps) e s' from ⟨he,ps,as0,bs,e1,e2,ple rfl⟩)
    rcases he with rfl|rfl
    · exact⟨v,hr,ha'.le,s'.L,_,hv,e3,e4,ha'.l,ha'.g,e5⟩
    · exact⟨v,hr,ha'.le,s'.L,_,hv,e3,e4,ha'.l,ha'.g,e5⟩
  · intro v H' L' w' ⟨sL,res,e1,e2,e3,e4,e5,e6⟩ hl hm'
    refine⟨_,H',L',hA.put (by simpa using hd) v,hm',?_⟩
    exact e6 _ _ _ (Abs.put (p:=res) (s:=⟨deF ts fF,sL⟩) ⟨hab.le.trans hl,e5,deF_ok (fun t=>(hab.f t).mono hl) e3,e4⟩ d (e1.simT e2))
end Go.SW.V
namespace Go.SW.V
open Go.SW
variable {P:Program} {n:Nat} {N:Rest} {H0:Env} {all rest:List Oper} {Q:Qs} {ks:List Kt} {fF:Nat->PV} {fL:Nat->Blk} {T ty d:Nat} {pos:String} {af:Array Edge} {x y z:Operand} {K:St->Prop}
end Go.SW.V
namespace Go.SW.V
open Go.SW
variable {P:Program} {n:Nat} {N:Rest} {H0:Env} {all rest:List Oper} {Q:Qs} {ks:List Kt} {fF:Nat->PV} {fL:Nat->Blk} {T ty d:Nat} {pos:String} {af:Array Edge} {x y z:Operand} {K:St->Prop}
theorem lo_aidx {F:Fr} {H:Hp} {L:Ls} {kk:IntKind} {b off len k m:Nat} {i:Int} {e:TypeId} (hx:ev F x = .pointer (some ⟨b,off,none⟩)) (hy:ev F y = .int kk i) (hT:P.underlying T=some (.array len e)) (hk:Sz P e k) (hi:i=(m:Int)) (hm:m<len):SW.Lo P N (.indexAddr T x y) ty F H L (.pointer (some ⟨b,off+m*k,none⟩)):=fun d pos af gg w _=>by
  subst hi
  simp[execOp,hy,hx,Instr.indexAt,asIntOf,run_underlying hT,Instr.sureAddr,hk w,hm,Addr.add]
theorem qaia {kk:IntKind} {i b off len k:Nat} {z:Int} {e:TypeId} (m:Nat) (hx:evP fF x = .own i b off) (hy:evP fF y = .int kk z) (hT:P.underlying T=some (.array len e)) (hk:Sz P e k) (hi:z=(m:Int)) (hm:m<len):Qy P N H0 ⟨fF,fL⟩ (.indexAddr T x y) ty (.own i b (off+m*k)):=fun F H L ha=>by
  have h1:=(Bv_ ha.f x).sim
  have h2:=(Bv_ ha.f y).sim
  simp only at h1 h2
  rw[hx] at h1
  rw[hy] at h2
  exact⟨_,Sim.own,fun _ _ _=>lo_aidx h1.inv_own h2.inv_int.1 hT hk hi hm⟩
theorem oload1 {tb:Tb} {ti:TI} {i b b' off T0:Nat} {cs:List PV} (p:PV) (ht:tbB P tb=true) (hx:evP fF x = .own i b off) (hb:fL i = .box b' T0 cs) (hbb:b'=b) (hti:lkT tb T=some ti) (hag:ti.k.isAgg=false) (hc:cs[off]? = some p) (hd:Nat.blt d n=true) (k:p.wf->K ⟨updp fF d p,fL⟩):E1 P n N H0 all ⟨some d, .load T x,ty,pos,af,none⟩ none ⟨fF,fL⟩ K:=by
  intro F H L ha
  subst hbb
  have h1:=(Bv_ ha.f x).sim
  simp only at h1
  rw[hx] at h1
  have h3:=ha.l i
  simp only[hb] at h3
  obtain⟨vs,hL,hs⟩:=h3
  obtain⟨v,hv,hsv⟩:=hs.get hc
  have hg:=(Cw_ ht hti).ag
  rw[hag] at hg
  exact Kn_ hd (Gt_ h1.inv_own hg hL hv) ⟨.refl H,fun _ _=>rfl,_,ha.put d hsv,k hsv.sim.wf⟩
theorem oloadA {tb:Tb} {ti:TI} {i b b' off T0:Nat} {cs:List PV} (ps:List PV) (ht:tbB P tb=true) (hx:evP fF x = .own i b off) (hb:fL i = .box b' T0 cs) (hbb:b'=b) (hti:lkT tb T=some ti) (hag:ti.k.isAgg=true) (hc:(cs.drop off).take ti.size=ps) (hl:off+ti.size<=cs.length) (hd:Nat.blt d n=true) (k:PV.wfs ps->K ⟨updp fF d (.agg ps),fL⟩):E1 P n N H0 all ⟨some d, .load T x,ty,pos,af,none⟩ none ⟨fF,fL⟩ K:=by
  intro F H L ha
  subst hbb
  have h1:=(Bv_ ha.f x).sim
  simp only at h1
  rw[hx] at h1
  have h3:=ha.l i
  simp only[hb] at h3
  obtain⟨vs,hL,hs⟩:=h3
  have hg:=(Cw_ ht hti).ag
  rw[hag] at hg
  have hsv:Sims H ps ((vs.drop off).take ti.size):=by rw[<- hc];exact (hs.sims.drop off).take ti.size
  exact Kn_ hd (Ng_ (vs:=(vs.drop off).take ti.size) h1.inv_own hg (Cw_ ht hti).sz hL rfl (by simp[hs.1];omega)) ⟨.refl H,fun _ _=>rfl,_,ha.put (p:= .agg ps) d (Sim.toAgg hsv),k hsv.wf⟩
theorem ostore1 {tb:Tb} {ti:TI} {i b b' off T0:Nat} {cs:List PV} {p:PV} (cs':List PV) (ht:tbB P tb=true) (hx:evP fF x = .own i b off) (hb:fL i = .box b' T0 cs) (hti:lkT tb T=some ti) (hsz:ti.size=1) (hy:evS (evP fF y)=some p) (ho:p.one=true) (hl:off<cs.length) (hbb:b'=b) (hc:cs.set off p=cs')
    (k:K ⟨fF,lups fL i (.box b T0 cs')⟩):E1 P n N H0 all ⟨none, .store T x y,ty,pos,af,none⟩ (some i) ⟨fF,fL⟩ K:=
  SW.store1 (s:=⟨fF,fL⟩) ht hx hb hti hsz hy ho (by simpa [Nat.blt_eq] using hl) hbb (by rw[hc];simp only[evL,Mc_]) k
theorem ostoreA {tb:Tb} {ti:TI} {i b b' off T0:Nat} {cs ps:List PV} (cs':List PV) (ht:tbB P tb=true) (hx:evP fF x = .own i b off) (hb:fL i = .box b' T0 cs) (hti:lkT tb T=some ti) (hy:evP fF y = .agg ps) (hn:Bh_ ps=true) (ho:all1 ps=true) (hsz:ps.length=ti.size) (hl:off+ti.size<=cs.length) (hbb:b'=b) (hc:cs.take off++(ps++cs.drop (off+ti.size))=cs')
    (k:K ⟨fF,lups fL i (.box b T0 cs')⟩):E1 P n N H0 all ⟨none, .store T x y,ty,pos,af,none⟩ (some i) ⟨fF,fL⟩ K:=
  SW.storeA (s:=⟨fF,fL⟩) ht hx hb hti hy hn ho hsz (by simpa using hl) hbb (by rw[hc];simp only[evL,Mc_]) k
theorem oloadS1 {tb:Tb} {ti:TI} {i b b' off T0 len:Nat} {cs:List PV} (row:Nat->PV) (m base w o:Nat) (ht:tbB P tb=true) (hx:evP fF x = .own i b off) (hb:fL i = .box b' T0 cs) (hbb:b'=b) (hti:lkT tb T=some ti) (hag:ti.k.isAgg=false) (hoff:off=base+m*w+o) (hm:m<len) (hc:∀ q,q<len->cs[base+q*w+o]? = some (row q)) (hd:Nat.blt d n=true) (k:(row m).wf->K ⟨updp fF d (row m),fL⟩):E1 P n N H0 all ⟨some d, .load T x,ty,pos,af,none⟩ none ⟨fF,fL⟩ K:=
  oload1 (row m) ht hx hb hbb hti hag (by rw[hoff];exact hc m hm) hd k
theorem Jw_ {tb:Tb} {ti:TI} {i b b' off T0 len sz:Nat} {cs:List PV} (row:Nat->List PV) (m base w o:Nat) (ht:tbB P tb=true) (hx:evP fF x = .own i b off) (hb:fL i = .box b' T0 cs) (hbb:b'=b) (hti:lkT tb T=some ti) (hag:ti.k.isAgg=true) (hsz:ti.size=sz) (hoff:off=base+m*w+o) (hm:m<len) (hc:∀ q,q<len->(cs.drop (base+q*w+o)).take sz=row q) (hl:∀ q,q<len->Nat.ble (base+q*w+o+sz) cs.length=true) (hd:Nat.blt d n=true) (k:PV.wfs (row m)->K ⟨updp fF d (.agg (row m)),fL⟩):E1 P n N H0 all ⟨some d, .load T x,ty,pos,af,none⟩ none ⟨fF,fL⟩ K:=
  oloadA (row m) ht hx hb hbb hti hag (by rw[hoff,hsz];exact hc m hm) (by rw[hoff,hsz];simpa using hl m hm) hd k
theorem ostoreS1 {tb:Tb} {ti:TI} {i b b' off T0 len:Nat} {cs cs2:List PV} {p:PV} (cs':Nat->List PV) (m base w o:Nat) (ht:tbB P tb=true) (hx:evP fF x = .own i b off) (hb:fL i = .box b' T0 cs) (hti:lkT tb T=some ti) (hsz:ti.size=1) (hy:evS (evP fF y)=some p) (ho:p.one=true) (hoff:off=base+m*w+o) (hm:m<len) (hl:∀ q,q<len->Nat.blt (base+q*w+o) cs.length=true) (hbb:b'=b) (hc:∀ q,q<len->cs.set (base+q*w+o) p=cs' q) (he:evL (cs' m)=some cs2)
    (k:K ⟨fF,lups fL i (.box b T0 cs2)⟩):E1 P n N H0 all ⟨none, .store T x y,ty,pos,af,none⟩ (some i) ⟨fF,fL⟩ K:=
  ostore1 cs2 ht hx hb hti hsz hy ho (by rw[hoff];simpa [Nat.blt_eq] using hl m hm) hbb (by rw[hoff,hc m hm,<- Su_ he]) k
theorem Wy_ {tb:Tb} {ti:TI} {i b b' off T0 len sz:Nat} {cs ps cs2:List PV} (cs':Nat->List PV) (m base w o:Nat) (ht:tbB P tb=true) (hx:evP fF x = .own i b off) (hb:fL i = .box b' T0 cs) (hti:lkT tb T=some ti) (hsz:ti.size=sz) (hy:evP fF y = .agg ps) (hn:Bh_ ps=true) (ho:all1 ps=true) (hps:ps.length=sz) (hoff:off=base+m*w+o) (hm:m<len) (hl:∀ q,q<len->Nat.ble (base+q*w+o+sz) cs.length=true) (hbb:b'=b) (hc:∀ q,q<len->cs.take (base+q*w+o)++(ps++cs.drop (base+q*w+o+sz))=cs' q) (he:evL (cs' m)=some cs2)
    (k:K ⟨fF,lups fL i (.box b T0 cs2)⟩):E1 P n N H0 all ⟨none, .store T x y,ty,pos,af,none⟩ (some i) ⟨fF,fL⟩ K:=
  ostoreA cs2 ht hx hb hti hy hn ho (by rw[hps,hsz]) (by rw[hoff,hsz];simpa using hl m hm) hbb (by rw[hoff,hsz,hc m hm,<- Su_ he]) k
theorem bw8 {p:Nat->Prop} (h0:p 0) (h1:p 1) (h2:p 2) (h3:p 3) (h4:p 4) (h5:p 5) (h6:p 6) (h7:p 7):∀ m,m<8->p m
  |0,_=>h0|1,_=>h1|2,_=>h2|3,_=>h3|4,_=>h4|5,_=>h5|6,_=>h6|7,_=>h7
  |m+8,h=>absurd h (by omega)
theorem bw16 {p:Nat->Prop} (h0:p 0) (h1:p 1) (h2:p 2) (h3:p 3) (h4:p 4) (h5:p 5) (h6:p 6) (h7:p 7) (h8:p 8) (h9:p 9) (h10:p 10) (h11:p 11) (h12:p 12) (h13:p 13) (h14:p 14) (h15:p 15):∀ m,m<16->p m
  |0,_=>h0|1,_=>h1|2,_=>h2|3,_=>h3|4,_=>h4|5,_=>h5|6,_=>h6|7,_=>h7|8,_=>h8|9,_=>h9|10,_=>h10|11,_=>h11|12,_=>h12|13,_=>h13|14,_=>h14|15,_=>h15
  |m+16,h=>absurd h (by omega)
structure A5 (α:Type) where
  (e0 e1 e2 e3 e4:α)
deriving DecidableEq,Inhabited
structure A8 (α:Type) where
  (e0 e1 e2 e3 e4 e5 e6 e7:α)
deriving DecidableEq,Inhabited
structure A16 (α:Type) where
  (e0 e1 e2 e3 e4 e5 e6 e7 e8 e9 e10 e11 e12 e13 e14 e15:α)
deriving DecidableEq,Inhabited
def A5.get {α:Type} (a:A5 α):Nat->α
  |0=>a.e0|1=>a.e1|2=>a.e2|3=>a.e3|_=>a.e4
def A8.get {α:Type} (a:A8 α):Nat->α
  |0=>a.e0|1=>a.e1|2=>a.e2|3=>a.e3|4=>a.e4|5=>a.e5|6=>a.e6|_=>a.e7
def A16.get {α:Type} (a:A16 α):Nat->α
  |0=>a.e0|1=>a.e1|2=>a.e2|3=>a.e3|4=>a.e4|5=>a.e5|6=>a.e6|7=>a.e7|8=>a.e8|9=>a.e9|10=>a.e10|11=>a.e11|12=>a.e12|13=>a.e13|14=>a.e14|_=>a.e15
def A5.set {α:Type} (a:A5 α) (v:α):Nat->A5 α
  |0=>{a with e0:=v}|1=>{a with e1:=v}|2=>{a with e2:=v}|3=>{a with e3:=v}|_=>{a with e4:=v}
def A8.set {α:Type} (a:A8 α) (v:α):Nat->A8 α
  |0=>{a with e0:=v}|1=>{a with e1:=v}|2=>{a with e2:=v}|3=>{a with e3:=v}|4=>{a with e4:=v}|5=>{a with e5:=v}|6=>{a with e6:=v}|_=>{a with e7:=v}
def A16.set {α:Type} (a:A16 α) (v:α):Nat->A16 α
  |0=>{a with e0:=v}|1=>{a with e1:=v}|2=>{a with e2:=v}|3=>{a with e3:=v}|4=>{a with e4:=v}|5=>{a with e5:=v}|6=>{a with e6:=v}|7=>{a with e7:=v}|8=>{a with e8:=v}|9=>{a with e9:=v}|10=>{a with e10:=v}|11=>{a with e11:=v}|12=>{a with e12:=v}|13=>{a with e13:=v}|14=>{a with e14:=v}|_=>{a with e15:=v}
theorem A16.get_set {α:Type} (a:A16 α) (v:α) (m q:Nat) (hm:m<16) (hq:q<16):(a.set v m).get q = if q=m then v else a.get q:=by
  revert q
  refine bw16 (p:=fun m=>∀ q,q<16->(a.set v m).get q = if q=m then v else a.get q) ?_ ?_ ?_ ?_ ?_ ?_ ?_ ?_ ?_ ?_ ?_ ?_ ?_ ?_ ?_ ?_ m hm<;>exact bw16 rfl rfl rfl rfl rfl rfl rfl rfl rfl rfl rfl rfl rfl rfl rfl rfl
theorem A8.get_set {α:Type} (a:A8 α) (v:α) (m q:Nat) (hm:m<8) (hq:q<8):(a.set v m).get q = if q=m then v else a.get q:=by
  revert q
  refine bw8 (p:=fun m=>∀ q,q<8->(a.set v m).get q = if q=m then v else a.get q) ?_ ?_ ?_ ?_ ?_ ?_ ?_ ?_ m hm<;>exact bw8 rfl rfl rfl rfl rfl rfl rfl rfl
end Go.SW.V
namespace Go.SW
theorem rl_set1 {α:Type} {enc:α->List PV} {k:Nat} {H:Hp} {p:PV} {v:Value} {o:Nat} {y:α} (ho:o<k) (hp:Sim H p v) (h1:v.oneCell'=true):∀ {xs:List α} {cs:List Value} {m:Nat},Rl (RowE enc k) H xs cs->m<xs.length->(∀ a,xs[m]? = some a->enc y=(enc a).set o p)->Rl (RowE enc k) H (xs.set m y) (cs.set (m*k+o) v)
  |[],_,_,_,hm,_=>by cases hm
  |x::xs,_,0,⟨c1,c2,e,r1,r2⟩,_,he=>by
    have ex:=he x rfl
    obtain⟨q1,q2,q3⟩:=r1
    have hl:c1.length=k:=by rw[q2.1,q1]
    refine⟨c1.set o v,c2,?_,⟨by rw[ex,List.length_set,q1],?_,?_⟩,r2⟩
    · rw[e,Nat.zero_mul,Nat.zero_add,List.set_append_left _ _ (by omega)]
    · rw[ex]
      refine⟨by simp[q2.1],fun i q w hq hw=>?_⟩
      rw[List.getElem?_set] at hq hw
      by_cases z:o=i
      · subst z
        rw[if_pos rfl,if_pos (by omega)] at hq
        rw[if_pos rfl,if_pos (by omega)] at hw
        cases hq;cases hw;exact hp
      · rw[if_neg z] at hq hw
        exact q2.2 i q w hq hw
    · intro w hw
      rcases List.mem_or_eq_of_mem_set hw with z|z
      · exact q3 w z
      · rw[z];exact h1
  |x::xs,_,m+1,⟨c1,c2,e,r1,r2⟩,hm,he=>by
    have hl:c1.length=k:=by rw[r1.2.1.1,r1.1]
    refine⟨c1,c2.set (m*k+o) v,?_,r1,rl_set1 ho hp h1 r2 (by simpa using hm) (fun a ha=>he a (by simpa using ha))⟩
    rw[e,List.set_append_right _ _ (by rw[hl,Nat.add_mul];omega),hl,show (m+1)*k+o-k=m*k+o by rw[Nat.add_mul];omega]
theorem rl_setA {α:Type} {enc:α->List PV} {k:Nat} {H:Hp} {ps:List PV} {vs:List Value} {o:Nat} {y:α} (ho:o+ps.length<=k) (hp:Sims H ps vs) (h1:∀ v∈vs,v.oneCell'=true):∀ {xs:List α} {cs:List Value} {m:Nat},Rl (RowE enc k) H xs cs->m<xs.length->(∀ a,xs[m]? = some a->enc y=(enc a).take o++(ps++(enc a).drop (o+ps.length)))->Rl (RowE enc k) H (xs.set m y) (cs.take (m*k+o)++(vs++cs.drop (m*k+o+ps.length)))
  |[],_,_,_,hm,_=>by cases hm
  |x::xs,_,0,⟨c1,c2,e,r1,r2⟩,_,he=>by
    have ex:=he x rfl
    obtain⟨q1,q2,q3⟩:=r1
    have hl:c1.length=k:=by rw[q2.1,q1]
    have hv:=hp.1
    refine⟨c1.take o++(vs++c1.drop (o+ps.length)),c2,?_,⟨by rw[ex];simp;omega,?_,?_⟩,r2⟩
    · rw[e,Nat.zero_mul,Nat.zero_add,List.take_append_of_le_length (by omega),List.drop_append_of_le_length (by omega)]
      simp
    · rw[ex]
      exact Sims.append (Sims.take q2 o) (Sims.append hp (Sims.drop q2 (o+ps.length)))
    · intro w hw
      simp only[List.mem_append] at hw
      rcases hw with z|z|z
      · exact q3 w (List.mem_of_mem_take z)
      · exact h1 w z
      · exact q3 w (List.mem_of_mem_drop z)
  |x::xs,_,m+1,⟨c1,c2,e,r1,r2⟩,hm,he=>by
    have hl:c1.length=k:=by rw[r1.2.1.1,r1.1]
    refine⟨c1,c2.take (m*k+o)++(vs++c2.drop (m*k+o+ps.length)),?_,r1,rl_setA ho hp h1 r2 (by simpa using hm) (fun a ha=>he a (by simpa using ha))⟩
    rw[e,show (m+1)*k+o=c1.length+(m*k+o) by rw[hl,Nat.add_mul];omega,List.take_append,List.take_of_length_le (by omega),show c1.length+(m*k+o)-c1.length=m*k+o by omega,Nat.add_assoc,List.drop_append,List.drop_of_length_le (by omega),show c1.length+(m*k+o+ps.length)-c1.length=m*k+o+ps.length by omega]
    simp
theorem Abs.turnU {P:Program} {n:Nat} {N:Rest} {H0:Env} {s:St} {F:Fr} {H:Hp} {L:Ls} {α:Type} {u:Value} {k e:Nat} {enc:α->List PV} {xs xs':List α} (ha:Abs H0 s F H L) (i:Nat) (hb:s.L i = .arr u k e enc xs) {x:Option (Nat×Obj)} (hx:SimB s.L H (.arr u k e enc xs') x):Abs H0 ⟨s.F,lups s.L i (.arr u k e enc xs')⟩ F H (lupd L i x):=by
  have hshape:∀ {p v},SimT s.L H p v->SimT (lups s.L i (.arr u k e enc xs')) H p v:=fun {p v} h=>by
    cases p with
    |osl j=>
      by_cases e:j=i
      · subst e;simp only[SimT,Ct_,hb] at h ⊢;exact h
      · simp only[SimT,F8_ _ _ _ _ e] at h ⊢;exact h
    |_=>exact h
  refine⟨ha.le,ha.g,fun t=>hshape (ha.f t),fun j=>?_⟩
  by_cases e:j=i
  · subst e;simp only[Ct_,Ax_];exact hx
  · simp only[F8_ _ _ _ _ e,Au_ _ _ _ _ e]
    have h1:=ha.l j
    generalize s.L j=C at *
    cases C with
    |box b T cs=>obtain⟨vs,h2,h3,h4⟩:=h1;exact⟨vs,h2,h3,fun a p v hp hv=>hshape (h4 a p v hp hv)⟩
    |no=>trivial
    |arr u k e enc xs=>exact h1
    |itr b s p=>exact h1
    |ob b o=>exact h1
end Go.SW
namespace Go.SW.V
open Go.SW
variable {P:Program} {n:Nat} {N:Rest} {H0:Env} {all rest:List Oper} {Q:Qs} {ks:List Kt} {fF:Nat->PV} {fL:Nat->Blk} {T ty d:Nat} {pos:String} {af:Array Edge} {x y z:Operand} {K:St->Prop}
theorem lo_sidx {F:Fr} {H:Hp} {L:Ls} {kk:IntKind} {k m b o len cap:Nat} {i:Int} {e:TypeId} (hx:ev F x = .slice (some ⟨b,o,none⟩) len cap) (hy:ev F y = .int kk i) (hT:P.underlying T=some (.slice e)) (hk:Sz P e k) (hi:i=m) (hm:m<len):SW.Lo P N (.indexAddr T x y) ty F H L (.pointer (some ⟨b,o+m*k,none⟩)):=fun d pos af g w _=>by
  subst hi
  simp[execOp,hx,hy,Instr.indexAt,asIntOf,run_underlying hT,hk w,hm,Eb_]
theorem Pl_ {α:Type} {s:St} {F:Fr} {H:Hp} {L:Ls} {i k e:Nat} {u:Value} {enc:α->List PV} {xs:List α} (ha:Abs H0 s F H L) (hb:s.L i = .arr u k e enc xs) (h0:0<xs.length) :
    ∃ b cap c f,u = .slice (some ⟨b,f.length,none⟩) xs.length cap/\L i=some (b,bx e (f++c))/\cap*k<=c.length/\xs.length<=cap/\Rl (RowE enc k) H xs (c.take (xs.length*k))/\xs.length<=140737488355328/\(k=1->f=[]):=by
  have h3:=ha.l i
  rw[hb] at h3
  obtain⟨cs,⟨hl,⟨_,h0',_⟩|⟨b,cap,c,f,rfl,hL,hcl,hle,htk,hff⟩⟩,hr,hm⟩:=h3
  · omega
  · exact⟨b,cap,c,f,rfl,hL,hcl,hle,by rw[htk];exact hr,hm,hff⟩
theorem eidx {α:Type} {tb:Tb} {ti te:TI} {kk:IntKind} {i e k:Nat} {z:Int} {u:Value} {enc:α->List PV} {xs:List α} (m:Nat) (ht:tbB P tb=true) (hx:evP fF x = .osl i) (hb:fL i = .arr u k e enc xs) (hy:evP fF y = .int kk z) (hti:lkT tb T=some ti) (htk:ti.k = .slc e) (hte:lkT tb e=some te) (hk:te.size=k) (hi:z=(m:Int)) (hm:m<xs.length) :
    Qy P N H0 ⟨fF,fL⟩ (.indexAddr T x y) ty (.val (.pointer (some ⟨sBlk u,sOff u+m*k,none⟩))):=fun F H L ha=>by
  have h1:=Bv_ ha.f x
  unfold Ok1 at h1
  simp only at h1
  rw[hx] at h1
  simp only[SimT,hb] at h1
  have h2:=(Bv_ ha.f y).sim
  simp only at h2
  rw[hy] at h2
  obtain⟨b,cap,c,f,rfl,hL,_⟩:=Pl_ ha (i:=i) hb (by omega)
  have hsz:=(Cw_ ht hte).sz
  rw[hk] at hsz
  exact⟨_,Sim.val,fun _ _ _=>lo_sidx h1 h2.inv_int.1 ((Cw_ ht hti).slc htk) hsz hi hm⟩
theorem efld {b off f o:Nat} (hx:evP fF x = .val (.pointer (some ⟨b,off,none⟩))) (hf:Fld P T f o):Qy P N H0 ⟨fF,fL⟩ (.fieldAddr T x f) ty (.val (.pointer (some ⟨b,off+o,none⟩))):=fun F H L ha=>by
  have h1:=(Bv_ ha.f x).sim
  simp only at h1
  rw[hx] at h1
  exact⟨_,Sim.val,fun _ _ _=>C2_ h1.inv_val hf⟩
theorem row_at {α:Type} {H:Hp} {enc:α->List PV} {k m:Nat} {xs:List α} {a:α} {c:List Value} (hr:Rl (RowE enc k) H xs (c.take (xs.length*k))) (ha:xs[m]? = some a):∃ ds,RowE enc k H a ds/\∀ j,j<k->c[m*k+j]? = ds[j]? :=by
  obtain⟨hm,rfl⟩:=List.getElem?_eq_some_iff.1 ha
  obtain⟨ds,p,q⟩:=rl_at G5_ hr m hm
  refine⟨ds,p,fun j hj=>?_⟩
  have :(m+1)*k<=xs.length*k:=Nat.mul_le_mul_right k (by omega)
  rw[Nat.add_mul] at this
  rw[<- q j hj,List.getElem?_take,if_pos (by omega)]
theorem elod1 {α:Type} {tb:Tb} {ti:TI} {i e k off:Nat} {u:Value} {enc:α->List PV} {xs:List α} {a:α} (p:PV) (m o:Nat) (ht:tbB P tb=true) (hx:evP fF x = .val (.pointer (some ⟨sBlk u,off,none⟩))) (hb:fL i = .arr u k e enc xs) (hti:lkT tb T=some ti) (hag:ti.k.isAgg=false) (ha':xs[m]? = some a) (hoff:off=sOff u+m*k+o) (hp:(enc a)[o]? = some p) (hn:p.noOsl=true) (hd:Nat.blt d n=true) (kk:p.wf->K ⟨updp fF d p,fL⟩):E1 P n N H0 all ⟨some d, .load T x,ty,pos,af,none⟩ none ⟨fF,fL⟩ K:=by
  intro F H L ha
  have h1:=(Bv_ ha.f x).sim
  simp only at h1
  rw[hx] at h1
  have hm:m<xs.length:=(List.getElem?_eq_some_iff.1 ha').1
  obtain⟨b,cap,c,f,rfl,hL,hcl,hle,hr,hbb,hff⟩:=Pl_ ha (i:=i) hb (by omega)
  obtain⟨ds,⟨q1,q2,q3⟩,q4⟩:=row_at hr ha'
  have ho:o<k:=by rw[<- q1];exact (List.getElem?_eq_some_iff.1 hp).1
  obtain⟨v,hv⟩:∃ v,ds[o]? = some v:=⟨_,List.getElem?_eq_getElem (by rw[q2.1,q1];exact ho)⟩
  have hs:=q2.2 o p v hp hv
  have hg:=(Cw_ ht hti).ag
  rw[hag] at hg
  exact Kn_ hd (Gt_ h1.inv_val hg hL (by rw[hoff];show (f++c)[f.length+m*k+o]? = _;rw[Nat.add_assoc,List.getElem?_append_right (by omega),Nat.add_sub_cancel_left,q4 o ho];exact hv)) ⟨.refl H,fun _ _=>rfl,_,ha.put d (hs.simT hn),kk hs.wf⟩
theorem est1 {α:Type} {tb:Tb} {ti:TI} {i e k off:Nat} {u:Value} {enc:α->List PV} {xs:List α} {p:PV} (m o:Nat) (a':α) (ht:tbB P tb=true) (hx:evP fF x = .val (.pointer (some ⟨sBlk u,off,none⟩))) (hb:fL i = .arr u k e enc xs) (hti:lkT tb T=some ti) (hsz:ti.size=1) (hy:evS (evP fF y)=some p) (ho:p.one=true) (hm:m<xs.length) (hoff:off=sOff u+m*k+o) (hok:o<k) (he:∀ a,xs[m]? = some a->enc a'=(enc a).set o p)
    (kk:K ⟨fF,lups fL i (.arr u k e enc (xs.set m a'))⟩):E1 P n N H0 all ⟨none, .store T x y,ty,pos,af,none⟩ (some i) ⟨fF,fL⟩ K:=by
  intro F H L ha
  have hy:=Zd_ hy
  have h1:=(Bv_ ha.f x).sim
  simp only at h1
  rw[hx] at h1
  have h2:=(Bv_ ha.f y).sim
  simp only at h2
  rw[hy] at h2
  obtain⟨b,cap,c,f,rfl,hL,hcl,hle,hr,hbb,hff⟩:=Pl_ ha (i:=i) hb (by omega)
  have hsz':=(Cw_ ht hti).sz
  rw[hsz] at hsz'
  have hlt:m*k+o<xs.length*k:=by
    have :(m+1)*k<=xs.length*k:=Nat.mul_le_mul_right k (by omega)
    rw[Nat.add_mul] at this;omega
  have hlc:xs.length*k<=c.length:=Nat.le_trans (Nat.mul_le_mul_right k hle) hcl
  subst hoff
  have hset:(f++c).set (sOff (.slice (some ⟨b,f.length,none⟩) xs.length cap)+m*k+o) (ev F y)=f++c.set (m*k+o) (ev F y):=by
    show (f++c).set (f.length+m*k+o) (ev F y)=_
    rw[Nat.add_assoc,List.set_append_right _ _ (by omega),Nat.add_sub_cancel_left]
  refine Hl_ h1.inv_val rfl (h2.one ho) hsz' hL (by simp[Nat.blt_eq,sOff];omega) ?_
  rw[hset]
  refine⟨.refl H,only,_,ha.turnU (n:=n) (N:=N) (P:=P) i hb ⟨(c.set (m*k+o) (ev F y)).take (xs.length*k),⟨by simp;omega, .inr ⟨b,cap,c.set (m*k+o) (ev F y),f,by simp,rfl,by simpa using hcl,by simpa using hle,by simp,hff⟩⟩,?_,by simpa using hbb⟩,kk⟩
  rw[List.take_set]
  exact rl_set1 hok h2 (h2.one ho) hr hm he
theorem elodA {α:Type} {tb:Tb} {ti:TI} {i e k off sz:Nat} {u:Value} {enc:α->List PV} {xs:List α} {a:α} (ps:List PV) (m o:Nat) (ht:tbB P tb=true) (hx:evP fF x = .val (.pointer (some ⟨sBlk u,off,none⟩))) (hb:fL i = .arr u k e enc xs) (hti:lkT tb T=some ti) (hag:ti.k.isAgg=true) (hsz:ti.size=sz) (ha':xs[m]? = some a) (hoff:off=sOff u+m*k+o) (hp:((enc a).drop o).take sz=ps) (hos:o+sz<=k) (hd:Nat.blt d n=true) (kk:PV.wfs ps->K ⟨updp fF d (.agg ps),fL⟩):E1 P n N H0 all ⟨some d, .load T x,ty,pos,af,none⟩ none ⟨fF,fL⟩ K:=by
  intro F H L ha
  have h1:=(Bv_ ha.f x).sim
  simp only at h1
  rw[hx] at h1
  have hm:m<xs.length:=(List.getElem?_eq_some_iff.1 ha').1
  obtain⟨b,cap,c,f,rfl,hL,hcl,hle,hr,hbb,hff⟩:=Pl_ ha (i:=i) hb (by omega)
  obtain⟨ds,⟨q1,q2,q3⟩,q4⟩:=row_at hr ha'
  have hdl:ds.length=k:=by rw[q2.1,q1]
  have hsub:sub (f++c) off sz=(ds.drop o).take sz:=by
    apply List.ext_getElem?
    intro j
    simp only[sub,List.getElem?_take,List.getElem?_drop]
    by_cases z:j<sz
    · rw[if_pos z,if_pos z,hoff]
      show (f++c)[f.length+m*k+o+j]? = _
      rw[Nat.add_assoc,Nat.add_assoc,List.getElem?_append_right (by omega),Nat.add_sub_cancel_left,q4 (o+j) (by omega)]
    · rw[if_neg z,if_neg z]
  have hsv:Sims H ps ((ds.drop o).take sz):=by rw[<- hp];exact Sims.take (Sims.drop q2 o) sz
  have hg:=(Cw_ ht hti).ag
  rw[hag] at hg
  have hk:=(Cw_ ht hti).sz
  rw[hsz] at hk
  exact Kn_ hd (Ng_ (vs:=(ds.drop o).take sz) h1.inv_val hg hk hL hsub (by simp;omega)) ⟨.refl H,fun _ _=>rfl,_,ha.put (p:= .agg ps) d (Sim.toAgg hsv),kk hsv.wf⟩
theorem estA {α:Type} {tb:Tb} {ti:TI} {i e k off:Nat} {u:Value} {enc:α->List PV} {xs:List α} {ps:List PV} (m o:Nat) (a':α) (ht:tbB P tb=true) (hx:evP fF x = .val (.pointer (some ⟨sBlk u,off,none⟩))) (hb:fL i = .arr u k e enc xs) (hti:lkT tb T=some ti) (hy:evP fF y = .agg ps) (ho:all1 ps=true) (hsz:ps.length=ti.size) (hm:m<xs.length) (hoff:off=sOff u+m*k+o) (hok:o+ps.length<=k) (he:∀ a,xs[m]? = some a->enc a'=(enc a).take o++(ps++(enc a).drop (o+ps.length)))
    (kk:K ⟨fF,lups fL i (.arr u k e enc (xs.set m a'))⟩):E1 P n N H0 all ⟨none, .store T x y,ty,pos,af,none⟩ (some i) ⟨fF,fL⟩ K:=by
  intro F H L ha
  have h1:=(Bv_ ha.f x).sim
  simp only at h1
  rw[hx] at h1
  have h2:=(Bv_ ha.f y).sim
  simp only at h2
  rw[hy] at h2
  obtain⟨vs,hv,hvs⟩:=h2.inv_agg
  obtain⟨b,cap,c,f,rfl,hL,hcl,hle,hr,hbb,hff⟩:=Pl_ ha (i:=i) hb (by omega)
  have hsz':=(Cw_ ht hti).sz
  rw[<- hsz] at hsz'
  have hlt:m*k+o+ps.length<=xs.length*k:=by
    have :(m+1)*k<=xs.length*k:=Nat.mul_le_mul_right k (by omega)
    rw[Nat.add_mul] at this;omega
  have hlc:xs.length*k<=c.length:=Nat.le_trans (Nat.mul_le_mul_right k hle) hcl
  have hvl:vs.length=ps.length:=hvs.1
  have ha1:=No_ hvs ho
  subst hoff
  refine Ox_ (f++(c.take (m*k+o)++(vs++c.drop (m*k+o+ps.length)))) h1.inv_val hv ha1 hsz' hvl hL (by simp[Nat.ble_eq,sOff];omega) ?_ ?_
  · show (f++c).take (f.length+m*k+o)++(vs++(f++c).drop (f.length+m*k+o+ps.length))=_
    rw[Nat.add_assoc f.length,Nat.add_assoc f.length,List.take_append,List.drop_append,List.take_of_length_le (by omega),List.drop_of_length_le (by omega),Nat.add_sub_cancel_left,Nat.add_sub_cancel_left]
    simp
  refine⟨.refl H,only,_,ha.turnU (n:=n) (N:=N) (P:=P) i hb ⟨(c.take (m*k+o)++(vs++c.drop (m*k+o+ps.length))).take (xs.length*k),⟨by simp;omega, .inr ⟨b,cap,_,f,by simp,rfl,by simp;omega,by simpa using hle,by simp,hff⟩⟩,?_,by simpa using hbb⟩,kk⟩
  have e:(c.take (m*k+o)++(vs++c.drop (m*k+o+ps.length))).take (xs.length*k)=(c.take (xs.length*k)).take (m*k+o)++(vs++(c.take (xs.length*k)).drop (m*k+o+ps.length)):=by
    obtain⟨A,B,hA,hc,hAl⟩:∃ A B,c.take (xs.length*k)=A/\c=A++B/\A.length=xs.length*k:=⟨_,_,rfl,(List.take_append_drop _ _).symm,by simp;omega⟩
    rw[hA,hc,List.take_append_of_le_length (show m*k+o<=A.length by omega),List.drop_append_of_le_length (show m*k+o+ps.length<=A.length by omega),<- List.append_assoc vs,<- List.append_assoc]
    exact List.take_left' (by simp;omega)
  rw[e]
  exact rl_setA hok hvs (by simpa [List.all_eq_true] using ha1) hr hm he
theorem ecut1 {α:Type} {tb:Tb} {ti te:TI} {kk:IntKind} {i e k:Nat} {z:Int} {u:Value} {enc:α->List PV} {xs:List α} (ht:tbB P tb=true) (hx:evP fF x = .osl i) (hb:fL i = .arr u k e enc xs) (hy:evP fF y = .int kk z) (hti:lkT tb T=some ti) (htk:ti.k = .slc e) (hte:lkT tb e=some te) (hk:te.size=k) (h1:Nat.blt 1 k=true) (hi:z=1) (hm:0<xs.length) (hd:Nat.blt d n=true)
    (kk:∀ u',K ⟨updp (Gc_ i fF) d (.osl i),lups (E4_ i fL) i (.arr u' k e enc (xs.drop 1))⟩):E1 P n N H0 all ⟨some d, .slice T x (some y) none none,ty,pos,af,none⟩ (some i) ⟨fF,fL⟩ K:=by
  intro F H L ha
  have h1':=Bv_ ha.f x
  unfold Ok1 at h1'
  simp only at h1'
  rw[hx] at h1'
  simp only[SimT,hb] at h1'
  have h2:=(Bv_ ha.f y).sim
  simp only at h2
  rw[hy] at h2
  have hb':fL i = .arr u k e enc xs:=hb
  obtain⟨b,cap,c,f,rfl,hL,hcl,hle,hr,hbb,hff⟩:=Pl_ (s:=⟨fF,fL⟩) ha (i:=i) hb' hm
  have hsz:=(Cw_ ht hte).sz
  rw[hk] at hsz
  have hk1:1<k:=by simpa [Nat.blt_eq] using h1
  refine Kn_ hd (Js_ 1 h1' h2.inv_int.1 ((Cw_ ht hti).slc htk) hsz (by omega) (by omega)) ?_
  have hLL:lupd L i (L i)=L:=by funext j;by_cases e:j=i;(subst e;exact Ax_ _ _ _);exact Au_ _ _ _ _ e
  obtain⟨x0,xr,rfl⟩:∃ a r,xs=a::r:=by cases xs with|nil=>cases hm|cons a r=>exact⟨a,r,rfl⟩
  have hrl:=Uc_ G5_ hr
  have :=ha.turn i (B:= .arr (.slice (slA (some ⟨b,f.length,none⟩) cap 1 k) ((x0::xr).length-1) (cap-1)) k e enc ((x0::xr).drop 1)) (x:=L i) ?_
  · rw[hLL] at this
    exact⟨.refl H,fun _ _=>rfl,_,this.put d (by simp[SimT,Ct_]),kk _⟩
  · obtain⟨c1,c2,e1,r1,r2⟩:=hr
    have hc1:c1.length=k:=by rw[r1.2.1.1,r1.1]
    have hck:cap*k=(cap-1)*k+k:=by rw[<- Nat.succ_mul];congr 1;simp only[List.length_cons] at hle;omega
    have hkc:k<=c.length:=by omega
    have hc2:c2=(c.drop k).take (xr.length*k):=by
      have :(c.take ((x0::xr).length*k)).drop k=c2:=by rw[e1,<- hc1,List.drop_left]
      rw[<- this,List.length_cons,List.drop_take,Nat.succ_mul,Nat.add_sub_cancel]
    refine⟨c2,⟨?_,?_⟩,by simpa using r2,by simp at hbb ⊢;omega⟩
    · rw[Uc_ G5_ r2];simp
    · by_cases hc:cap=1
      · subst hc
        have :xr=[]:=List.length_eq_zero_iff.1 (by simp only[List.length_cons] at hle;omega)
        subst this
        refine .inr ⟨b,0,c,f,by simp[slA],hL,by simp,by simp,by simpa using hc2.symm,hff⟩
      · refine .inr ⟨b,cap-1,c.drop k,f++c.take k,?_,by rw[hL];simp,?_,by simp only[List.drop_one,List.tail_cons,List.length_cons] at hle ⊢;omega,?_,fun q=>by omega⟩
        · have :c.length>=k:=by omega
          simp[slA,Eb_,Nat.min_eq_left this,show ¬cap<=1 by simp only[List.length_cons] at hle;omega]
          intro q;simp only[List.length_cons] at hle;omega
        · rw[List.length_drop];omega
        · rw[hc2];simp
end Go.SW.V
namespace Go.SW
variable {P:Program} {n:Nat} {N:Rest} {H0:Env} {Q:Qs} {ks:List Kt} {s:St}
theorem Pp_ {α:Type} {i o b T0 k e:Nat} {cs:List PV} {c:Code} (j:Nat) (enc:α->List PV) (hb:E4_ j s.L i = .box b T0 cs) (hne:i≠j) (ho:cs[o]? = some (.val (.slice none 0 0))) (hno:s.L j = .no)
    (kk:Hd P n N H0 Q (.code c) ks ⟨Gc_ j s.F,lups (lups (E4_ j s.L) j (.arr (.slice none 0 0) k e enc [])) i (.box b T0 (cs.set o (.osl j)))⟩):Hd P n N H0 Q (.code c) ks s:=fun F H L ha=>by
  have hL0:Abs H0 s F H (lupd L j none):=⟨ha.le,ha.g,ha.f,fun q=>by
    by_cases e:q=j
    · subst e;rw[hno];trivial
    · rw[Au_ _ _ _ _ e];exact ha.l q⟩
  have h2:=hL0.turn j (B:= .arr (.slice none 0 0) k e enc []) (x:=none) ⟨[],L1_,Xa_,by simp⟩
  have e2:lupd (lupd L j none) j none=lupd L j none:=by funext q;simp only[lupd];cases Nat.beq q j<;>rfl
  rw[e2] at h2
  have h3:=h2.l i
  simp only[F8_ _ _ _ _ hne,hb] at h3
  obtain⟨vs,hL,hs1,hs2⟩:=h3
  have h4:=h2.turnB i (B:= .box b T0 (cs.set o (.osl j))) trivial (x:=lupd L j none i) ⟨vs,hL,by simpa using hs1,fun a p v hp hv=>by
    rw[List.getElem?_set] at hp
    by_cases z:o=a
    · subst z
      rw[if_pos rfl] at hp
      split at hp
      · cases hp
        have h5:=(hs2 o _ v ho hv).sim.inv_val
        simp only[SimT,F8_ _ _ _ _ hne.symm,Ct_]
        exact h5
      · cases hp
    · rw[if_neg z] at hp
      have h5:=hs2 a p v hp hv
      exact Nk_ (b:=b) (T:=T0) (cs:=cs) (by simp only[F8_ _ _ _ _ hne,hb]) h5⟩
  have e3:lupd (lupd L j none) i (lupd L j none i)=lupd L j none:=by funext q;by_cases e:q=i;(subst e;exact Ax_ _ _ _);exact Au_ _ _ _ _ e
  rw[e3] at h4
  exact Sp_ (fun w hm=>hm.clear j) (kk F H _ h4)
theorem Ja_ {α:Type} {all:List Oper} {T ty i j b b' off T0 k e:Nat} {pos:String} {af:Array Edge} {x y:Operand} {K:St->Prop} {tb:Tb} {ti:TI} {cs cs':List PV} {u:Value} {enc:α->List PV} {xs:List α} (ht:tbB P tb=true) (hx:evP s.F x = .own i b off) (hb:s.L i = .box b' T0 cs) (hti:lkT tb T=some ti) (hsz:ti.size=1) (hy:evP s.F y = .osl j) (hj:s.L j = .arr u k e enc xs) (hl:Nat.blt off cs.length=true) (hbb:b'=b) (hc:cs.set off (.osl j)=cs')
    (kk:K ⟨s.F,lups s.L i (.box b T0 cs')⟩):E1 P n N H0 all ⟨none, .store T x y,ty,pos,af,none⟩ (some i) s K:=by
  intro F H L ha
  subst hbb hc
  have h1:=(Bv_ ha.f x).sim
  rw[hx] at h1
  have h2:=Bv_ ha.f y
  unfold Ok1 at h2
  rw[hy] at h2
  have h2':=h2
  simp only[SimT,hj] at h2'
  have h3:=ha.l i
  rw[hb] at h3
  obtain⟨vs,hL,hs⟩:=h3
  have h5:=ha.l j
  rw[hj] at h5
  obtain⟨cs0,ho,_,_⟩:=h5
  have hone:(ev F y).oneCell'=true:=by
    rw[h2']
    obtain⟨_,⟨rfl,_,_⟩|⟨_,_,_,_,rfl,_⟩⟩:=ho<;>rfl
  have hsz':=(Cw_ ht hti).sz
  rw[hsz] at hsz'
  refine Hl_ h1.inv_own rfl hone hsz' hL (by rw[hs.1];exact hl) ?_
  refine⟨.refl H,only,_,ha.turnB (B:= .box _ T0 (cs.set off (.osl j))) i trivial ⟨_,rfl,?_⟩,kk⟩
  have h4:=hs.set off h2
  exact⟨h4.1,fun q p v hq hv=>Nk_ hb (h4.2 q p v hq hv)⟩
end Go.SW
namespace Go.SW
structure SlotR where
  chan:ChanR
  isopen:Bool
deriving DecidableEq,Inhabited
def SlotR.pc (x:SlotR):List PV:=[.int .i64 x.chan.credit, .sl Ev_.pc x.chan.takers, .sl LentR.pc x.chan.lent, .bool x.chan.sure, .bool x.chan.drafts, .int .u64 x.chan.puts, .sl DeedR.pc x.chan.held.l, .bool x.isopen]
abbrev A5_SlotR:=V.A5 SlotR
def A5_SlotR.pc (x:A5_SlotR):List PV:=[.int .i64 x.e0.chan.credit, .sl Ev_.pc x.e0.chan.takers, .sl LentR.pc x.e0.chan.lent, .bool x.e0.chan.sure, .bool x.e0.chan.drafts, .int .u64 x.e0.chan.puts, .sl DeedR.pc x.e0.chan.held.l, .bool x.e0.isopen, .int .i64 x.e1.chan.credit, .sl Ev_.pc x.e1.chan.takers, .sl LentR.pc x.e1.chan.lent, .bool x.e1.chan.sure, .bool x.e1.chan.drafts, .int .u64 x.e1.chan.puts, .sl DeedR.pc x.e1.chan.held.l, .bool x.e1.isopen, .int .i64 x.e2.chan.credit, .sl Ev_.pc x.e2.chan.takers, .sl LentR.pc x.e2.chan.lent, .bool x.e2.chan.sure, .bool x.e2.chan.drafts, .int .u64 x.e2.chan.puts, .sl DeedR.pc x.e2.chan.held.l, .bool x.e2.isopen, .int .i64 x.e3.chan.credit, .sl Ev_.pc x.e3.chan.takers, .sl LentR.pc x.e3.chan.lent, .bool x.e3.chan.sure, .bool x.e3.chan.drafts, .int .u64 x.e3.chan.puts, .sl DeedR.pc x.e3.chan.held.l, .bool x.e3.isopen, .int .i64 x.e4.chan.credit, .sl Ev_.pc x.e4.chan.takers, .sl LentR.pc x.e4.chan.lent, .bool x.e4.chan.sure, .bool x.e4.chan.drafts, .int .u64 x.e4.chan.puts, .sl DeedR.pc x.e4.chan.held.l, .bool x.e4.isopen]
structure Vz_ where
  place:Bs
  feed:Feed
  begun:Bool
  over:Bool
  slots:A5_SlotR
deriving Inhabited
def Vz_.pc (x:Vz_):List PV:=[.str x.place, .str x.feed.rest, .int .i64 x.feed.err, .bool x.begun, .bool x.over, .int .i64 x.slots.e0.chan.credit, .sl Ev_.pc x.slots.e0.chan.takers, .sl LentR.pc x.slots.e0.chan.lent, .bool x.slots.e0.chan.sure, .bool x.slots.e0.chan.drafts, .int .u64 x.slots.e0.chan.puts, .sl DeedR.pc x.slots.e0.chan.held.l, .bool x.slots.e0.isopen, .int .i64 x.slots.e1.chan.credit, .sl Ev_.pc x.slots.e1.chan.takers, .sl LentR.pc x.slots.e1.chan.lent, .bool x.slots.e1.chan.sure, .bool x.slots.e1.chan.drafts, .int .u64 x.slots.e1.chan.puts, .sl DeedR.pc x.slots.e1.chan.held.l, .bool x.slots.e1.isopen, .int .i64 x.slots.e2.chan.credit, .sl Ev_.pc x.slots.e2.chan.takers, .sl LentR.pc x.slots.e2.chan.lent, .bool x.slots.e2.chan.sure, .bool x.slots.e2.chan.drafts, .int .u64 x.slots.e2.chan.puts, .sl DeedR.pc x.slots.e2.chan.held.l, .bool x.slots.e2.isopen, .int .i64 x.slots.e3.chan.credit, .sl Ev_.pc x.slots.e3.chan.takers, .sl LentR.pc x.slots.e3.chan.lent, .bool x.slots.e3.chan.sure, .bool x.slots.e3.chan.drafts, .int .u64 x.slots.e3.chan.puts, .sl DeedR.pc x.slots.e3.chan.held.l, .bool x.slots.e3.isopen, .int .i64 x.slots.e4.chan.credit, .sl Ev_.pc x.slots.e4.chan.takers, .sl LentR.pc x.slots.e4.chan.lent, .bool x.slots.e4.chan.sure, .bool x.slots.e4.chan.drafts, .int .u64 x.slots.e4.chan.puts, .sl DeedR.pc x.slots.e4.chan.held.l, .bool x.slots.e4.isopen]
structure TakerS where
  channel:Int
  tag:Int
  queue:Bs
deriving DecidableEq,Inhabited
def TakerS.pc (x:TakerS):List PV:=[.int .u8 x.channel, .int .u64 x.tag, .str x.queue]
structure ItemR where
  mail:Mail
  lent:Bool
  again:Bool
deriving DecidableEq,Inhabited
def ItemR.pc (x:ItemR):List PV:=[.int .u64 x.mail.id, .str x.mail.shop, .str x.mail.key, .sl Pair.pc x.mail.head, .str x.mail.body, .int .u64 x.mail.due, .int .u8 x.mail.hops, .bool x.lent, .bool x.again]
structure Q_ where
  item:ItemR
  count:Int
  lost:Int
deriving DecidableEq,Inhabited
def Q_.pc (x:Q_):List PV:=[.int .u64 x.item.mail.id, .str x.item.mail.shop, .str x.item.mail.key, .sl Pair.pc x.item.mail.head, .str x.item.mail.body, .int .u64 x.item.mail.due, .int .u8 x.item.mail.hops, .bool x.item.lent, .bool x.item.again, .int .i64 x.count, .int .i64 x.lost]
abbrev A5_bool:=V.A5 Bool
def A5_bool.pc (x:A5_bool):List PV:=[.bool x.e0, .bool x.e1, .bool x.e2, .bool x.e3, .bool x.e4]
abbrev A5_ChanR:=V.A5 ChanR
def A5_ChanR.pc (x:A5_ChanR):List PV:=[.int .i64 x.e0.credit, .sl Ev_.pc x.e0.takers, .sl LentR.pc x.e0.lent, .bool x.e0.sure, .bool x.e0.drafts, .int .u64 x.e0.puts, .sl DeedR.pc x.e0.held.l, .int .i64 x.e1.credit, .sl Ev_.pc x.e1.takers, .sl LentR.pc x.e1.lent, .bool x.e1.sure, .bool x.e1.drafts, .int .u64 x.e1.puts, .sl DeedR.pc x.e1.held.l, .int .i64 x.e2.credit, .sl Ev_.pc x.e2.takers, .sl LentR.pc x.e2.lent, .bool x.e2.sure, .bool x.e2.drafts, .int .u64 x.e2.puts, .sl DeedR.pc x.e2.held.l, .int .i64 x.e3.credit, .sl Ev_.pc x.e3.takers, .sl LentR.pc x.e3.lent, .bool x.e3.sure, .bool x.e3.drafts, .int .u64 x.e3.puts, .sl DeedR.pc x.e3.held.l, .int .i64 x.e4.credit, .sl Ev_.pc x.e4.takers, .sl LentR.pc x.e4.lent, .bool x.e4.sure, .bool x.e4.drafts, .int .u64 x.e4.puts, .sl DeedR.pc x.e4.held.l]
structure SessR where
  place:Bs
  rest:Bs
  bad:Int
  begun:Bool
  over:Bool
  opens:A5_bool
  chans:A5_ChanR
deriving DecidableEq,Inhabited
def SessR.pc (x:SessR):List PV:=[.str x.place, .str x.rest, .int .i64 x.bad, .bool x.begun, .bool x.over, .bool x.opens.e0, .bool x.opens.e1, .bool x.opens.e2, .bool x.opens.e3, .bool x.opens.e4, .int .i64 x.chans.e0.credit, .sl Ev_.pc x.chans.e0.takers, .sl LentR.pc x.chans.e0.lent, .bool x.chans.e0.sure, .bool x.chans.e0.drafts, .int .u64 x.chans.e0.puts, .sl DeedR.pc x.chans.e0.held.l, .int .i64 x.chans.e1.credit, .sl Ev_.pc x.chans.e1.takers, .sl LentR.pc x.chans.e1.lent, .bool x.chans.e1.sure, .bool x.chans.e1.drafts, .int .u64 x.chans.e1.puts, .sl DeedR.pc x.chans.e1.held.l, .int .i64 x.chans.e2.credit, .sl Ev_.pc x.chans.e2.takers, .sl LentR.pc x.chans.e2.lent, .bool x.chans.e2.sure, .bool x.chans.e2.drafts, .int .u64 x.chans.e2.puts, .sl DeedR.pc x.chans.e2.held.l, .int .i64 x.chans.e3.credit, .sl Ev_.pc x.chans.e3.takers, .sl LentR.pc x.chans.e3.lent, .bool x.chans.e3.sure, .bool x.chans.e3.drafts, .int .u64 x.chans.e3.puts, .sl DeedR.pc x.chans.e3.held.l, .int .i64 x.chans.e4.credit, .sl Ev_.pc x.chans.e4.takers, .sl LentR.pc x.chans.e4.lent, .bool x.chans.e4.sure, .bool x.chans.e4.drafts, .int .u64 x.chans.e4.puts, .sl DeedR.pc x.chans.e4.held.l]
structure Act28R where
  dow:Int
  m:Method
  chunk:Bs
  tick:Int
  err:Int
  item:ItemR
  at_:Int
deriving DecidableEq,Inhabited
def Act28R.pc (x:Act28R):List PV:=[.int .u8 x.dow, .int .u8 x.m.channel, .int .u8 x.m.kind, .str x.m.name, .str x.m.other, .str x.m.key, .sl Pair.pc x.m.head, .str x.m.body, .int .u64 x.m.n, .int .u64 x.m.m, .bool x.m.yes, .str x.chunk, .int .u64 x.tick, .int .u8 x.err, .int .u64 x.item.mail.id, .str x.item.mail.shop, .str x.item.mail.key, .sl Pair.pc x.item.mail.head, .str x.item.mail.body, .int .u64 x.item.mail.due, .int .u8 x.item.mail.hops, .bool x.item.lent, .bool x.item.again, .int .u8 x.at_]
structure LabelR where
  level:Int
  set_:Int
deriving DecidableEq,Inhabited
def LabelR.pc (x:LabelR):List PV:=[.int .u8 x.level, .int .u32 x.set_]
structure PlaceR where
  name:Bs
  label:LabelR
  bytes:Int
  base:Int
deriving DecidableEq,Inhabited
def PlaceR.pc (x:PlaceR):List PV:=[.str x.name, .int .u8 x.label.level, .int .u32 x.label.set_, .int .i64 x.bytes, .int .u64 x.base]
structure GrantR where
  frm:Int
  to':Int
  budget:Int
deriving DecidableEq,Inhabited
def GrantR.pc (x:GrantR):List PV:=[.int .i64 x.frm, .int .i64 x.to', .int .i64 x.budget]
structure PolicyR where
  work:Int
  give:Int
  places:List PlaceR
  slots:List Int
  grants:List GrantR
deriving DecidableEq,Inhabited
def PolicyR.pc (x:PolicyR):List PV:=[.int .i64 x.work, .int .i64 x.give, .sl PlaceR.pc x.places, .sl i64c x.slots, .sl GrantR.pc x.grants]
structure NoteR where
  tick:Int
  kind:Int
  text:Bs
deriving DecidableEq,Inhabited
def NoteR.pc (x:NoteR):List PV:=[.int .u64 x.tick, .int .u8 x.kind, .str x.text]
structure Dk_ where
  total:Int
  kept:List NoteR
deriving DecidableEq,Inhabited
def Dk_.pc (x:Dk_):List PV:=[.int .u64 x.total, .sl NoteR.pc x.kept]
structure LineR where
  items:List ItemR
deriving DecidableEq,Inhabited
def LineR.pc (x:LineR):List PV:=[.sl ItemR.pc x.items]
structure RowR where
  q:QueueR
  l:LineR
deriving DecidableEq,Inhabited
def RowR.pc (x:RowR):List PV:=[.str x.q.name, .int .u64 x.q.most, .int .u64 x.q.life, .str x.q.dead, .sl ItemR.pc x.l.items]
structure RRowR where
  q:QueueR
  l:List ItemR
deriving DecidableEq,Inhabited
def RRowR.pc (x:RRowR):List PV:=[.str x.q.name, .int .u64 x.q.most, .int .u64 x.q.life, .str x.q.dead, .sl ItemR.pc x.l]
structure RiseR where
  total:Int
  kept:List Mail
deriving DecidableEq,Inhabited
def RiseR.pc (x:RiseR):List PV:=[.int .u64 x.total, .sl Mail.pc x.kept]
abbrev A16_RiseR:=V.A16 RiseR
def A16_RiseR.pc (x:A16_RiseR):List PV:=[.int .u64 x.e0.total, .sl Mail.pc x.e0.kept, .int .u64 x.e1.total, .sl Mail.pc x.e1.kept, .int .u64 x.e2.total, .sl Mail.pc x.e2.kept, .int .u64 x.e3.total, .sl Mail.pc x.e3.kept, .int .u64 x.e4.total, .sl Mail.pc x.e4.kept, .int .u64 x.e5.total, .sl Mail.pc x.e5.kept, .int .u64 x.e6.total, .sl Mail.pc x.e6.kept, .int .u64 x.e7.total, .sl Mail.pc x.e7.kept, .int .u64 x.e8.total, .sl Mail.pc x.e8.kept, .int .u64 x.e9.total, .sl Mail.pc x.e9.kept, .int .u64 x.e10.total, .sl Mail.pc x.e10.kept, .int .u64 x.e11.total, .sl Mail.pc x.e11.kept, .int .u64 x.e12.total, .sl Mail.pc x.e12.kept, .int .u64 x.e13.total, .sl Mail.pc x.e13.kept, .int .u64 x.e14.total, .sl Mail.pc x.e14.kept, .int .u64 x.e15.total, .sl Mail.pc x.e15.kept]
abbrev A16_u64:=V.A16 Int
def A16_u64.pc (x:A16_u64):List PV:=[.int .u64 x.e0, .int .u64 x.e1, .int .u64 x.e2, .int .u64 x.e3, .int .u64 x.e4, .int .u64 x.e5, .int .u64 x.e6, .int .u64 x.e7, .int .u64 x.e8, .int .u64 x.e9, .int .u64 x.e10, .int .u64 x.e11, .int .u64 x.e12, .int .u64 x.e13, .int .u64 x.e14, .int .u64 x.e15]
structure C0_ where
  round:Int
  count:Int
deriving DecidableEq,Inhabited
def C0_.pc (x:C0_):List PV:=[.int .u64 x.round, .int .i64 x.count]
abbrev A8_SpentR:=V.A8 C0_
def A8_SpentR.pc (x:A8_SpentR):List PV:=[.int .u64 x.e0.round, .int .i64 x.e0.count, .int .u64 x.e1.round, .int .i64 x.e1.count, .int .u64 x.e2.round, .int .i64 x.e2.count, .int .u64 x.e3.round, .int .i64 x.e3.count, .int .u64 x.e4.round, .int .i64 x.e4.count, .int .u64 x.e5.round, .int .i64 x.e5.count, .int .u64 x.e6.round, .int .i64 x.e6.count, .int .u64 x.e7.round, .int .i64 x.e7.count]
abbrev A16_i64:=V.A16 Int
def A16_i64.pc (x:A16_i64):List PV:=[.int .i64 x.e0, .int .i64 x.e1, .int .i64 x.e2, .int .i64 x.e3, .int .i64 x.e4, .int .i64 x.e5, .int .i64 x.e6, .int .i64 x.e7, .int .i64 x.e8, .int .i64 x.e9, .int .i64 x.e10, .int .i64 x.e11, .int .i64 x.e12, .int .i64 x.e13, .int .i64 x.e14, .int .i64 x.e15]
structure D_ where
  next :Int
  bytes:Int
  rows:List RowR
  rises:A16_RiseR
deriving DecidableEq,Inhabited
def D_.pc (x:D_):List PV:=[.int .u64 x.next, .int .i64 x.bytes, .sl RowR.pc x.rows, .int .u64 x.rises.e0.total, .sl Mail.pc x.rises.e0.kept, .int .u64 x.rises.e1.total, .sl Mail.pc x.rises.e1.kept, .int .u64 x.rises.e2.total, .sl Mail.pc x.rises.e2.kept, .int .u64 x.rises.e3.total, .sl Mail.pc x.rises.e3.kept, .int .u64 x.rises.e4.total, .sl Mail.pc x.rises.e4.kept, .int .u64 x.rises.e5.total, .sl Mail.pc x.rises.e5.kept, .int .u64 x.rises.e6.total, .sl Mail.pc x.rises.e6.kept, .int .u64 x.rises.e7.total, .sl Mail.pc x.rises.e7.kept, .int .u64 x.rises.e8.total, .sl Mail.pc x.rises.e8.kept, .int .u64 x.rises.e9.total, .sl Mail.pc x.rises.e9.kept, .int .u64 x.rises.e10.total, .sl Mail.pc x.rises.e10.kept, .int .u64 x.rises.e11.total, .sl Mail.pc x.rises.e11.kept, .int .u64 x.rises.e12.total, .sl Mail.pc x.rises.e12.kept, .int .u64 x.rises.e13.total, .sl Mail.pc x.rises.e13.kept, .int .u64 x.rises.e14.total, .sl Mail.pc x.rises.e14.kept, .int .u64 x.rises.e15.total, .sl Mail.pc x.rises.e15.kept]
structure Up_ where
  next :Int
  most:Int
  rows:List RRowR
  rises:A16_RiseR
deriving DecidableEq,Inhabited
def Up_.pc (x:Up_):List PV:=[.int .u64 x.next, .int .i64 x.most, .sl RRowR.pc x.rows, .int .u64 x.rises.e0.total, .sl Mail.pc x.rises.e0.kept, .int .u64 x.rises.e1.total, .sl Mail.pc x.rises.e1.kept, .int .u64 x.rises.e2.total, .sl Mail.pc x.rises.e2.kept, .int .u64 x.rises.e3.total, .sl Mail.pc x.rises.e3.kept, .int .u64 x.rises.e4.total, .sl Mail.pc x.rises.e4.kept, .int .u64 x.rises.e5.total, .sl Mail.pc x.rises.e5.kept, .int .u64 x.rises.e6.total, .sl Mail.pc x.rises.e6.kept, .int .u64 x.rises.e7.total, .sl Mail.pc x.rises.e7.kept, .int .u64 x.rises.e8.total, .sl Mail.pc x.rises.e8.kept, .int .u64 x.rises.e9.total, .sl Mail.pc x.rises.e9.kept, .int .u64 x.rises.e10.total, .sl Mail.pc x.rises.e10.kept, .int .u64 x.rises.e11.total, .sl Mail.pc x.rises.e11.kept, .int .u64 x.rises.e12.total, .sl Mail.pc x.rises.e12.kept, .int .u64 x.rises.e13.total, .sl Mail.pc x.rises.e13.kept, .int .u64 x.rises.e14.total, .sl Mail.pc x.rises.e14.kept, .int .u64 x.rises.e15.total, .sl Mail.pc x.rises.e15.kept]
structure Ar_ where
  book:BookR
  stock:D_
  notes:Dk_
  seen:A16_u64
  spent:A8_SpentR
deriving DecidableEq,Inhabited
def Ar_.pc (x:Ar_):List PV:=[.sl ShopR.pc x.book.shops, .sl BindR.pc x.book.binds, .int .u64 x.stock.next, .int .i64 x.stock.bytes, .sl RowR.pc x.stock.rows, .int .u64 x.stock.rises.e0.total, .sl Mail.pc x.stock.rises.e0.kept, .int .u64 x.stock.rises.e1.total, .sl Mail.pc x.stock.rises.e1.kept, .int .u64 x.stock.rises.e2.total, .sl Mail.pc x.stock.rises.e2.kept, .int .u64 x.stock.rises.e3.total, .sl Mail.pc x.stock.rises.e3.kept, .int .u64 x.stock.rises.e4.total, .sl Mail.pc x.stock.rises.e4.kept, .int .u64 x.stock.rises.e5.total, .sl Mail.pc x.stock.rises.e5.kept, .int .u64 x.stock.rises.e6.total, .sl Mail.pc x.stock.rises.e6.kept, .int .u64 x.stock.rises.e7.total, .sl Mail.pc x.stock.rises.e7.kept, .int .u64 x.stock.rises.e8.total, .sl Mail.pc x.stock.rises.e8.kept, .int .u64 x.stock.rises.e9.total, .sl Mail.pc x.stock.rises.e9.kept, .int .u64 x.stock.rises.e10.total, .sl Mail.pc x.stock.rises.e10.kept, .int .u64 x.stock.rises.e11.total, .sl Mail.pc x.stock.rises.e11.kept, .int .u64 x.stock.rises.e12.total, .sl Mail.pc x.stock.rises.e12.kept, .int .u64 x.stock.rises.e13.total, .sl Mail.pc x.stock.rises.e13.kept, .int .u64 x.stock.rises.e14.total, .sl Mail.pc x.stock.rises.e14.kept, .int .u64 x.stock.rises.e15.total, .sl Mail.pc x.stock.rises.e15.kept, .int .u64 x.notes.total, .sl NoteR.pc x.notes.kept, .int .u64 x.seen.e0, .int .u64 x.seen.e1, .int .u64 x.seen.e2, .int .u64 x.seen.e3, .int .u64 x.seen.e4, .int .u64 x.seen.e5, .int .u64 x.seen.e6, .int .u64 x.seen.e7, .int .u64 x.seen.e8, .int .u64 x.seen.e9, .int .u64 x.seen.e10, .int .u64 x.seen.e11, .int .u64 x.seen.e12, .int .u64 x.seen.e13, .int .u64 x.seen.e14, .int .u64 x.seen.e15, .int .u64 x.spent.e0.round, .int .i64 x.spent.e0.count, .int .u64 x.spent.e1.round, .int .i64 x.spent.e1.count, .int .u64 x.spent.e2.round, .int .i64 x.spent.e2.count, .int .u64 x.spent.e3.round, .int .i64 x.spent.e3.count, .int .u64 x.spent.e4.round, .int .i64 x.spent.e4.count, .int .u64 x.spent.e5.round, .int .i64 x.spent.e5.count, .int .u64 x.spent.e6.round, .int .i64 x.spent.e6.count, .int .u64 x.spent.e7.round, .int .i64 x.spent.e7.count]
structure B_ where
  x:Ar_
  policy:PolicyR
  place:Int
deriving DecidableEq,Inhabited
def B_.pc (x:B_):List PV:=[.sl ShopR.pc x.x.book.shops, .sl BindR.pc x.x.book.binds, .int .u64 x.x.stock.next, .int .i64 x.x.stock.bytes, .sl RowR.pc x.x.stock.rows, .int .u64 x.x.stock.rises.e0.total, .sl Mail.pc x.x.stock.rises.e0.kept, .int .u64 x.x.stock.rises.e1.total, .sl Mail.pc x.x.stock.rises.e1.kept, .int .u64 x.x.stock.rises.e2.total, .sl Mail.pc x.x.stock.rises.e2.kept, .int .u64 x.x.stock.rises.e3.total, .sl Mail.pc x.x.stock.rises.e3.kept, .int .u64 x.x.stock.rises.e4.total, .sl Mail.pc x.x.stock.rises.e4.kept, .int .u64 x.x.stock.rises.e5.total, .sl Mail.pc x.x.stock.rises.e5.kept, .int .u64 x.x.stock.rises.e6.total, .sl Mail.pc x.x.stock.rises.e6.kept, .int .u64 x.x.stock.rises.e7.total, .sl Mail.pc x.x.stock.rises.e7.kept, .int .u64 x.x.stock.rises.e8.total, .sl Mail.pc x.x.stock.rises.e8.kept, .int .u64 x.x.stock.rises.e9.total, .sl Mail.pc x.x.stock.rises.e9.kept, .int .u64 x.x.stock.rises.e10.total, .sl Mail.pc x.x.stock.rises.e10.kept, .int .u64 x.x.stock.rises.e11.total, .sl Mail.pc x.x.stock.rises.e11.kept, .int .u64 x.x.stock.rises.e12.total, .sl Mail.pc x.x.stock.rises.e12.kept, .int .u64 x.x.stock.rises.e13.total, .sl Mail.pc x.x.stock.rises.e13.kept, .int .u64 x.x.stock.rises.e14.total, .sl Mail.pc x.x.stock.rises.e14.kept, .int .u64 x.x.stock.rises.e15.total, .sl Mail.pc x.x.stock.rises.e15.kept, .int .u64 x.x.notes.total, .sl NoteR.pc x.x.notes.kept, .int .u64 x.x.seen.e0, .int .u64 x.x.seen.e1, .int .u64 x.x.seen.e2, .int .u64 x.x.seen.e3, .int .u64 x.x.seen.e4, .int .u64 x.x.seen.e5, .int .u64 x.x.seen.e6, .int .u64 x.x.seen.e7, .int .u64 x.x.seen.e8, .int .u64 x.x.seen.e9, .int .u64 x.x.seen.e10, .int .u64 x.x.seen.e11, .int .u64 x.x.seen.e12, .int .u64 x.x.seen.e13, .int .u64 x.x.seen.e14, .int .u64 x.x.seen.e15, .int .u64 x.x.spent.e0.round, .int .i64 x.x.spent.e0.count, .int .u64 x.x.spent.e1.round, .int .i64 x.x.spent.e1.count, .int .u64 x.x.spent.e2.round, .int .i64 x.x.spent.e2.count, .int .u64 x.x.spent.e3.round, .int .i64 x.x.spent.e3.count, .int .u64 x.x.spent.e4.round, .int .i64 x.x.spent.e4.count, .int .u64 x.x.spent.e5.round, .int .i64 x.x.spent.e5.count, .int .u64 x.x.spent.e6.round, .int .i64 x.x.spent.e6.count, .int .u64 x.x.spent.e7.round, .int .i64 x.x.spent.e7.count, .int .i64 x.policy.work, .int .i64 x.policy.give, .sl PlaceR.pc x.policy.places, .sl i64c x.policy.slots, .sl GrantR.pc x.policy.grants, .int .i64 x.place]
structure Ym_ where
  p:PolicyR
  at_:Int
  book:BookR
  stock:Up_
  notes:Dk_
  seen:A16_u64
  spent:A8_SpentR
deriving DecidableEq,Inhabited
def Ym_.pc (x:Ym_):List PV:=[.int .i64 x.p.work, .int .i64 x.p.give, .sl PlaceR.pc x.p.places, .sl i64c x.p.slots, .sl GrantR.pc x.p.grants, .int .i64 x.at_, .sl ShopR.pc x.book.shops, .sl BindR.pc x.book.binds, .int .u64 x.stock.next, .int .i64 x.stock.most, .sl RRowR.pc x.stock.rows, .int .u64 x.stock.rises.e0.total, .sl Mail.pc x.stock.rises.e0.kept, .int .u64 x.stock.rises.e1.total, .sl Mail.pc x.stock.rises.e1.kept, .int .u64 x.stock.rises.e2.total, .sl Mail.pc x.stock.rises.e2.kept, .int .u64 x.stock.rises.e3.total, .sl Mail.pc x.stock.rises.e3.kept, .int .u64 x.stock.rises.e4.total, .sl Mail.pc x.stock.rises.e4.kept, .int .u64 x.stock.rises.e5.total, .sl Mail.pc x.stock.rises.e5.kept, .int .u64 x.stock.rises.e6.total, .sl Mail.pc x.stock.rises.e6.kept, .int .u64 x.stock.rises.e7.total, .sl Mail.pc x.stock.rises.e7.kept, .int .u64 x.stock.rises.e8.total, .sl Mail.pc x.stock.rises.e8.kept, .int .u64 x.stock.rises.e9.total, .sl Mail.pc x.stock.rises.e9.kept, .int .u64 x.stock.rises.e10.total, .sl Mail.pc x.stock.rises.e10.kept, .int .u64 x.stock.rises.e11.total, .sl Mail.pc x.stock.rises.e11.kept, .int .u64 x.stock.rises.e12.total, .sl Mail.pc x.stock.rises.e12.kept, .int .u64 x.stock.rises.e13.total, .sl Mail.pc x.stock.rises.e13.kept, .int .u64 x.stock.rises.e14.total, .sl Mail.pc x.stock.rises.e14.kept, .int .u64 x.stock.rises.e15.total, .sl Mail.pc x.stock.rises.e15.kept, .int .u64 x.notes.total, .sl NoteR.pc x.notes.kept, .int .u64 x.seen.e0, .int .u64 x.seen.e1, .int .u64 x.seen.e2, .int .u64 x.seen.e3, .int .u64 x.seen.e4, .int .u64 x.seen.e5, .int .u64 x.seen.e6, .int .u64 x.seen.e7, .int .u64 x.seen.e8, .int .u64 x.seen.e9, .int .u64 x.seen.e10, .int .u64 x.seen.e11, .int .u64 x.seen.e12, .int .u64 x.seen.e13, .int .u64 x.seen.e14, .int .u64 x.seen.e15, .int .u64 x.spent.e0.round, .int .i64 x.spent.e0.count, .int .u64 x.spent.e1.round, .int .i64 x.spent.e1.count, .int .u64 x.spent.e2.round, .int .i64 x.spent.e2.count, .int .u64 x.spent.e3.round, .int .i64 x.spent.e3.count, .int .u64 x.spent.e4.round, .int .i64 x.spent.e4.count, .int .u64 x.spent.e5.round, .int .i64 x.spent.e5.count, .int .u64 x.spent.e6.round, .int .i64 x.spent.e6.count, .int .u64 x.spent.e7.round, .int .i64 x.spent.e7.count]
structure OutR where
  queue:Bs
  mail:Mail
deriving DecidableEq,Inhabited
def OutR.pc (x:OutR):List PV:=[.str x.queue, .int .u64 x.mail.id, .str x.mail.shop, .str x.mail.key, .sl Pair.pc x.mail.head, .str x.mail.body, .int .u64 x.mail.due, .int .u8 x.mail.hops]
variable {P:Program} {n:Nat} {N:Rest} {H0:Env} {all:List Oper} {Q:Qs} {ks:List Kt} {s:St}
end Go.SW
namespace Go.SW.V
open Go.SW
variable {P:Program} {n:Nat} {N:Rest} {H0:Env} {all:List Oper} {Q:Qs} {ks:List Kt} {fF:Nat->PV} {fL:Nat->Blk}
end Go.SW.V
namespace Go.SW
variable {P:Program} {n:Nat} {N:Rest} {H0:Env} {all:List Oper} {Q:Qs} {ks:List Kt} {s:St}
theorem vw_l {ops:List Oper} {Lk:Ls} {Q:Qt} {fuel:Nat} {listed:Array Bool} {F:Fr} {H:Hp} {L:Ls} (i0:Nat) (r:List Nat) (hr:Region.ready .any ops.toArray listed=i0::r)
    (h:∀ i∈i0::r,∃ o,ops[i]? = some o/\Op1 P n N ops o (fun F' H' L'=>(HLe H H'/\LLe Lk L')/\Vw P n N ops Lk Q fuel (listed.setIfInBounds i true) F' H' L') F H L):Vw P n N ops Lk Q (fuel+1) listed F H L:=by
  refine⟨fun q=>(by rw[hr] at q;cases q),fun j hj a w ha hm=>?_⟩
  rw[hr] at hj
  obtain⟨o,ho,h1⟩:=h j hj
  exact wpOp_mono (fun a' w' ⟨F',H',L',x,y,z1,z2⟩=>⟨F',H',L',x,y, .inl ⟨z1.1, .inl z1.2⟩,z2⟩) (Ni_ ho h1 a w ha hm)
def Ej (P:Program) (n:Nat) (N:Rest) (H0:Env) (all:List Oper) (o:Oper) (xs:List Nat) (s:St) (K:St->Prop):Prop:=∃ j:Option Nat,(match j with|none=>true|some j=>memB xs j)=true/\E1 P n N H0 all o j s K
theorem ej {o:Oper} {xs:List Nat} {K:St->Prop} {j:Option Nat} (hj:(match j with|none=>true|some j=>memB xs j)=true) (h:E1 P n N H0 all o j s K):Ej P n N H0 all o xs s K:=⟨j,hj,h⟩
def AllE (P:Program) (n:Nat) (N:Rest) (H0:Env) (all:List Oper) (Q:Qs) (xs:List Nat) (fuel:Nat) (listed:Array Bool) (ks:List Kt) (s:St):List Nat->Prop
  |[]=>True
  |i::r=>(∃ o,nth all i=some o/\Ej P n N H0 all o xs s (fun s'=>Hv P n N H0 Q (some xs) all fuel (listed.setIfInBounds i true) ks s'))/\AllE P n N H0 all Q xs fuel listed ks s r
theorem V0_ {xs:List Nat} {fuel:Nat} {listed:Array Bool}:∀ {r:List Nat} {i:Nat},AllE P n N H0 all Q xs fuel listed ks s r->i∈r->∃ o,nth all i=some o/\Ej P n N H0 all o xs s (fun s'=>Hv P n N H0 Q (some xs) all fuel (listed.setIfInBounds i true) ks s')
  |[],i,_,h=>by cases h
  |a::r,i,h,hm=>by
    rcases List.mem_cons.1 hm with e|q
    · subst e;exact h.1
    · exact V0_ h.2 q
theorem veL {xs:List Nat} {fuel:Nat} {listed:Array Bool} (i0:Nat) (r:List Nat) (hr:Region.ready .any all.toArray listed=i0::r) (h:AllE P n N H0 all Q xs fuel listed ks s (i0::r)):Hv P n N H0 Q (some xs) all (fuel+1) listed ks s:=by
  intro F H L Lk ha hL
  refine vw_l i0 r hr fun i hi=>?_
  obtain⟨o,ho,j,hj,he⟩:=V0_ h hi
  rw[G0_] at ho
  have hle:∀ L':Ls,(∀ i,j≠some i->L' i=L i)->LkR (some xs) Lk L':=fun L' hL' i=>by
    rw[hL i]
    cases e:memB xs i with
    |true=>rfl
    |false=>
      refine (hL' i fun z=>?_).symm
      subst z
      simp only at hj
      rw[e] at hj;cases hj
  have hlle:∀ L':Ls,(∀ i,j≠some i->L' i=L i)->LLe Lk L':=fun L' hL' i x hx=>by
    have :=hle L' hL' i
    rw[this] at hx
    cases e:memB xs i with
    |true=>rw[e] at hx;cases hx
    |false=>rw[e] at hx;exact hx
  exact⟨o,ho,(he F H L ha).imp fun F' H' L' ⟨h1,h2,s',h3,h4⟩=>⟨⟨h1,hlle L' h2⟩,h4 F' H' L' Lk h3 (hle L' h2)⟩⟩
end Go.SW
namespace Go.SW.V
open Go.SW
variable {P:Program} {n:Nat} {N:Rest} {H0:Env} {all:List Oper} {Q:Qs} {ks:List Kt} {fF:Nat->PV} {fL:Nat->Blk}
theorem roN {α:Type} {tb:Tb} {rs:List ResultVar} {ps:List PV} {res:Value->PV} {k e j:Nat} {enc:α->List PV} {xs xs':List α} {as0 bs:List Nat} {u0:Value} (u:Value) (h:Fn_ tb ⟨fF,fL⟩ rs=some (ps,as0,bs)) (he:as0=bs) (hL:fL j = .arr u0 k e enc xs') (hu:u0=u) (hx:xs'=xs) (hp:PLe (tupP ps) (res u)):Hd P n N H0 (foK tb rs res k e enc xs) (.ex .ret) [] ⟨fF,fL⟩:=
  ⟨u,j,⟨.inr rfl,_,as0,bs,h,he,hp⟩,by show fL j=_;rw[hL,hx,hu]⟩
end Go.SW.V
namespace Go.SW.V
open Go.SW
variable {P:Program} {n:Nat} {N:Rest} {H0:Env} {all:List Oper} {Q:Qs} {ks:List Kt} {fF:Nat->PV} {fL:Nat->Blk} {T ty:Nat} {x y:Operand}
theorem lo_aidxA {F:Fr} {H:Hp} {L:Ls} {kk:IntKind} {len k m:Nat} {i:Int} {e:TypeId} {cs vs:List Value} (hx:ev F x = .agg cs.toArray) (hy:ev F y = .int kk i) (hT:P.underlying T=some (.array len e)) (hg:Ag P e true) (hk:Sz P e k) (hi:i=(m:Int)) (hm:m<len) (hv:sub cs (m*k) k=vs):SW.Lo P N (.index T x y) ty F H L (.agg vs.toArray):=fun d pos af gg w _=>by
  subst hi
  simp[execOp,hy,hx,Instr.index,asIntOf,run_underlying hT,hk w,hm,part_A hg hk hv]
theorem qaivA {tb:Tb} {te:TI} {kk:IntKind} {len k:Nat} {e:TypeId} {z:Int} {cs:List PV} (row:Nat->List PV) (m:Nat) (ht:tbB P tb=true) (hx:evP fF x = .agg cs) (hy:evP fF y = .int kk z) (hT:P.underlying T=some (.array len e)) (hte:lkT tb e=some te) (hag:te.k.isAgg=true) (hsz:te.size=k) (hi:z=(m:Int)) (hm:m<len) (hc:∀ q,q<len->(cs.drop (q*k)).take k=row q):Qy P N H0 ⟨fF,fL⟩ (.index T x y) ty (.agg (row m)):=fun F H L ha=>by
  have h1:=(Bv_ ha.f x).sim
  have h2:=(Bv_ ha.f y).sim
  simp only at h1 h2
  rw[hx] at h1
  rw[hy] at h2
  obtain⟨vs,e1,h3⟩:=h1.inv_agg
  have hg:=(Cw_ ht hte).ag
  rw[hag] at hg
  have hk:=(Cw_ ht hte).sz
  rw[hsz] at hk
  exact⟨_,Sim.toAgg (by rw[<- hc m hm];exact (h3.drop _).take _),fun _ _ _=>lo_aidxA e1 h2.inv_int.1 hT hg hk hi hm rfl⟩
end Go.SW.V
namespace Go.SW
variable {P:Program} {n:Nat} {N:Rest} {H0:Env} {all rest:List Oper} {Q:Qs} {ks:List Kt} {s:St} {T ty d:Nat} {pos:String} {af:Array Edge} {x y:Operand} {K:St->Prop} {op:Op} {p:PV}
def Ly (P:Program) (N:Rest) (H0:Env) (s:St) (op:Op) (ty:TypeId) (p:PV):Prop:=∀ F H L,Abs H0 s F H L->∃ val,SimT s.L H p val/\Lo P N op ty F H L val
theorem lyS1 {tb:Tb} {ti:TI} {i b b' off T0 len:Nat} {cs:List PV} (row:Nat->PV) (m base w o:Nat) (ht:tbB P tb=true) (hx:evP s.F x = .own i b off) (hb:s.L i = .box b' T0 cs) (hbb:b'=b) (hti:lkT tb T=some ti) (hag:ti.k.isAgg=false) (hoff:off=base+m*w+o) (hm:m<len) (hno:∀ q,(row q).noOsl=true) (hc:∀ q,q<len->cs[base+q*w+o]? = some (row q)):Ly P N H0 s (.load T x) ty (row m):=fun F H L ha=>by
  subst hbb
  have h1:=(Bv_ ha.f x).sim
  rw[hx] at h1
  have h3:=ha.l i
  rw[hb] at h3
  obtain⟨vs,hL,hs⟩:=h3
  have hc':=hc m hm
  rw[<- hoff] at hc'
  obtain⟨v,hv,hsv⟩:=hs.get hc'
  have hg:=(Cw_ ht hti).ag
  rw[hag] at hg
  exact⟨v,hsv.sim.simT (hno m),Gt_ h1.inv_own hg hL hv⟩
theorem efgL {j:Nat} {want g:Bool} (ts:List Nat) (hg:gOp s all j want=some g) (h:g=true->Ly P N H0 (strS ts s) op ty p) (hc:AllP (Iy_ s.F g ts [])) (hno:Gi_ s.F ts=true) (hd:Nat.blt d n=true) (k:(g=true->p.wf)->K ⟨updp s.F d (.gv g p),s.L⟩):E1 P n N H0 all ⟨some d,op,ty,pos,af,some (j,want)⟩ none s K:=by
  intro F H L ha
  obtain⟨c,b,hy,hge⟩:=Mv_ ha hg
  refine op1_gd3 hy hd (fun e=>?_) (fun e=>?_)
  · have hgt:=hge.trans e
    obtain⟨val,h1,h2⟩:=h hgt F H L (Uq_ ha hc hno hgt)
    refine Kn_ hd h2 ⟨.refl H,fun _ _=>rfl,_,ha.put d ?_,k fun _=>h1.sim.wf⟩
    rw[hgt];exact Sim.gvt h1.sim
  · have hgf:=hge.trans e
    refine⟨.refl H,fun _ _=>rfl,_,ha.put d ?_,k fun e=>by rw[hgf] at e;cases e⟩
    rw[hgf];exact Sim.gvf
end Go.SW
namespace Go.SW.V
open Go.SW
variable {P:Program} {n:Nat} {N:Rest} {H0:Env} {ks:List Kt} {fF:Nat->PV} {fL:Nat->Blk} {tb:Tb} {rs:List ResultVar} {res p q r t u:PV} {as0 bs:List Nat}
theorem rt4 (h:Fn_ tb ⟨fF,fL⟩ rs=some ([p,q,r,t],as0,bs)) (he:as0=bs) (hp:PLe (.tup [p,q,r,t]) res):Hd P n N H0 (rtK tb rs res) (.ex .ret) [] ⟨fF,fL⟩:=rt h he hp
end Go.SW.V
namespace Go.SW
open Go.MapKept
variable {P:Program} {n:Nat} {N:Rest} {ops:List Oper} {F:Fr} {H:Hp} {L:Ls} {K:Fr->Hp->Ls->Prop} {T ty d:Nat} {pos:String} {af:Array Edge} {x y z:Operand} {κ ν:Type}
end Go.SW
namespace Go.SW.V
open Go.SW
variable {P:Program} {n:Nat} {N:Rest} {H0:Env} {all rest:List Oper} {Q:Qs} {ks:List Kt} {fF:Nat->PV} {fL:Nat->Blk} {T ty d:Nat} {pos:String} {af:Array Edge} {x y z:Operand} {K:St->Prop} {κ ν:Type}
end Go.SW.V
namespace Go.SW
variable {P:Program} {n:Nat} {N:Rest} {H0:Env} {all rest:List Oper} {Q:Qs} {ks:List Kt} {s:St} {T T' T2 ty d:Nat} {pos:String} {af:Array Edge} {x y z:Operand} {K:St->Prop} {op:Op} {p:PV}
structure Fx {α:Type} (P:Program) (G:Gb) (f:FuncId) (a0:PV) (args:List PV) (res:PV) (k e:Nat) (enc:α->List PV) (xs:List α):Prop where
  cb:Z_ P f
  no:res.noOsl=true
  run:∀ (N:Rest) (H:Hp) (L:Ls) (w:World) (i:Nat) (v0 u:Value) (vs:List Value),G.p H->SimB (fun _=> .no) H (.arr u k e enc xs) (L i)->Sims H (a0::args) (v0::vs)->Mem N H L w ->
    Calls P f (v0::u::vs).toArray w fun e' w'=>∃ v H',e' = .returned v/\Sim H' res v/\HLe H H'/\Mem N H' (lupd L i none) w'
theorem fx_cw {α:Type} {tb:Tb} {G:Gb} {m:Nat} {f:FuncId} {fn:Func} {c:Code} {a0:PV} {args:List PV} {res:PV} {k e:Nat} {enc:α->List PV} {xs:List α} (ht:tbB P tb=true) (hf:P.funcs[f]? = some fn) (hb:fn.body=some c) (hn:fn.ntmps=m) (hs:Nat.ble (args.length+2) m=true) (hcb:Z_ P f) (hno:res.noOsl=true) (hna:Bh_ (a0::args)=true)
    (h:PV.wfs (a0::args)->xs.length<=140737488355328->∀ u N H,G.p H->Hd P m N ⟨H,G⟩ (rtK tb fn.results.toList res) (.code c) [] ⟨Kx_ (a0 :: .osl 0::args),lups (fun _=> .no) 0 (.arr u k e enc xs)⟩):Fx P G f a0 args res k e enc xs:=by
  refine⟨hcb,hno,fun N H L w i v0 u vs hg hB hsim hm=>?_⟩
  subst hn
  have key:Pl P f (v0::u::vs).toArray H (L i) (fun v H' _=>Sim H' res v):=by
    refine W2_ hf hb (by have :=Nat.le_of_ble_eq_true hs;have :=hsim.1;simp at this ⊢;omega) fun N=>?_
    have hlen:xs.length<=140737488355328:=by obtain⟨_,_,_,q⟩:=hB;exact q
    have h1:=h hsim.wf hlen u N H hg (G8_ (v0::u::vs).toArray) H (ofE (L i)) ⟨.refl H,hg,fun t=>?_,fun j=>?_⟩
    · refine G7_ (fun e' F' H' L' hq=>?_) h1
      obtain⟨s',ha',hq'⟩:=hq
      obtain⟨he,v,hr,hv⟩:=K4_ (N:=N) ht ha' hq'
      rcases he with rfl|rfl
      · exact⟨v,hr,ha'.le,0,hv⟩
      · exact⟨v,hr,ha'.le,0,hv⟩
    · have hi:=I4_ (sL:=lups (fun _=> .no) 0 (.arr u k e enc xs)) hsim hna
      match t with
      |0=>simpa [Kx_,nth,G8_] using hi 0
      |1=>simp[Kx_,nth,SimT,Ct_,G8_]
      |t+2=>simpa [Kx_,nth,G8_] using hi (t+1)
    · by_cases e1:j=0
      · subst e1
        simp only[Ct_]
        have :ofE (L i) 0=L i:=by cases L i<;>rfl
        rw[this];exact hB
      · simp only[F8_ _ _ _ _ e1];trivial
  refine (key N L w i rfl hm).mono fun _ _ ⟨v,H',en,h1,h5,h3,h4⟩=>⟨v,H',h1,h5,h3,?_⟩
  have h6:=h4.clear i
  have heq:lupd (lupd L i en) i none=lupd L i none:=funext fun j=>by
    by_cases q:j=i
    · subst q;rw[Ax_,Ax_]
    · rw[Au_ _ _ _ _ q,Au_ _ _ _ _ q,Au_ _ _ _ _ q]
  rwa [heq] at h6
theorem ecallx' {α:Type} {f:FuncId} {a0:PV} {args:List PV} {res:PV} {i k e k2 e2:Nat} {enc:α->List PV} {xs:List α} {u:Value} {as0:Array Operand} {ats:Array TypeId} (h:Fx P H0.g f a0 args res k e enc xs) (hx:evP s.F x = .fn f [] []) (ha:evPs s.F as0.toList=a0 :: .osl i::args) (hna:Bh_ (a0::args)=true) (hb:s.L i = .arr u k2 e2 enc xs) (hk:k2=k) (he2:e2=e) (hd:Nat.blt d n=true)
    (kk:res.wf->K ⟨updp (Gc_ i s.F) d res,lups (E4_ i s.L) i .no⟩):E1 P n N H0 all ⟨some d, .call ⟨.value x,as0,ats⟩,ty,pos,af,none⟩ (some i) s K:=by
  intro F H L hab
  subst hk;subst he2
  have h1:=(Bv_ hab.f x).sim
  rw[hx] at h1
  obtain⟨v1,v2,ex,h2,h3⟩:=h1.inv_fn
  cases h2.inv_nil
  cases h3.inv_nil
  have hsT:=Qv_ (Ls:=s.L) (H:=H) (F:=F) (G:=s.F) (xs:=as0.toList) fun y _=>Bv_ hab.f y
  rw[ha] at hsT
  have hB:=hab.l i
  rw[hb] at hB
  cases hev:evs F as0.toList with
  |nil=>have :=hsT.1;rw[hev] at this;simp at this
  |cons v0 vs1=>cases vs1 with
    |nil=>have :=hsT.1;rw[hev] at this;simp at this
    |cons v1 vs=>
    rw[hev] at hsT
    have h4:=hsT.2 1 _ _ rfl rfl
    simp only[SimT,hb] at h4
    subst h4
    have h5:Sims H (a0::args) (v0::vs):=by
      obtain⟨q,r,e3,q1,q2⟩:=hsT.sims.inv_cons
      cases e3
      obtain⟨q',r',e4,_,q4⟩:=q2.inv_cons
      cases e4
      exact q4.cons q1
    have hen:En P (.call ⟨.value x,as0,ats⟩) F f (v0::v1::vs).toArray:=by
      have :=Y9_ (ats:=ats) (xs:=as0) ex h.cb
      rw[hev] at this
      simpa using this
    intro a w hA hm
    rw[if_pos (by simp[Region.wanted])]
    unfold Oper.wp
    rw[hA.eval,hen]
    refine (h.run N H L w i v0 v1 vs hab.g hB h5 hm).mono fun e' w' ⟨v,H',he,hv,hl,hm'⟩=>?_
    subst he
    exact⟨_,H',_,hA.put (by simpa using hd) v,hm',hl,only,_,Abs.put (p:=res) ((hab.mono hl).turn i (B:= .no) (x:=none) trivial) d (hv.simT h.no),kk hv.wf⟩
end Go.SW
namespace Go.SW.V
open Go.SW
variable {P:Program} {n:Nat} {N:Rest} {H0:Env} {all rest:List Oper} {Q:Qs} {ks:List Kt} {fF:Nat->PV} {fL:Nat->Blk} {T T' T2 ty d:Nat} {pos:String} {af:Array Edge} {x y z:Operand} {K:St->Prop} {op:Op} {p:PV}
theorem V8_ {α:Type} {f:FuncId} {a0:PV} {args:List PV} {res:PV} {i k e k2 e2:Nat} {enc:α->List PV} {xs:List α} {u:Value} {as0:Array Operand} {ats:Array TypeId} (h:Fx P H0.g f a0 args res k e enc xs) (hx:evP fF x = .fn f [] []) (ha:evPs fF as0.toList=a0 :: .osl i::args) (hna:Bh_ (a0::args)=true) (hb:fL i = .arr u k2 e2 enc xs) (hk:k2=k) (he2:e2=e) (hd:Nat.blt d n=true)
    (kk:res.wf->K ⟨updp (Gc_ i fF) d res,lups (E4_ i fL) i .no⟩):E1 P n N H0 all ⟨some d, .call ⟨.value x,as0,ats⟩,ty,pos,af,none⟩ (some i) ⟨fF,fL⟩ K:=
  SW.ecallx' (s:=⟨fF,fL⟩) h hx ha hna hb hk he2 hd kk
end Go.SW.V
namespace Go.SW
variable {P:Program} {n:Nat} {N:Rest} {H0:Env}
end Go.SW
namespace Go.SW.V
open Go.SW
variable {P:Program} {n:Nat} {N:Rest} {H0:Env} {fF:Nat->PV} {fL:Nat->Blk}
end Go.SW.V
namespace Go.SW
variable {P:Program}
def EqI (P:Program) (d:Nat) (e:TypeId) (k:Nat) (xs ys:List Value) (is:List Nat) (r:Bool):Prop:=∀ w,(Op.eqItems d e k xs.toArray ys.toArray is).run P w = .ok r w
theorem Zc_ {d n k:Nat} {t e:TypeId} {xs ys:List Value} {r:Bool} (is:List Nat) (hu:P.underlying t=some (.array n e)) {de:TypeDesc} (he:P.underlying e=some de) (hk:P.cellsOf e=k) (hr:List.range n=is) (h:EqI P d e k xs ys is r):EqV P (d+1) t (.agg xs.toArray) (.agg ys.toArray) r:=fun w=>by
  obtain⟨i,hi⟩:=info_of_underlying he
  rw[run_equalIn_array w d xs.toArray ys.toArray hu hi,hk,hr]
  exact h w
theorem Zb_ {d k:Nat} {e:TypeId} {xs ys:List Value}:EqI P d e k xs ys [] true:=fun w=>by simp[Op.eqItems]
theorem V9_ {d k i:Nat} {e:TypeId} {xs ys:List Value} {is:List Nat} {a b:Value} {r r':Bool} (ha:∀ w,(part e xs.toArray (i*k)).run P w = .ok a w) (hb:∀ w,(part e ys.toArray (i*k)).run P w = .ok b w) (h:EqV P d e a b r) (kk:EqI P d e k xs ys is r'):EqI P d e k xs ys (i::is) (r&&r'):=fun w=>by
  simp only[Op.eqItems,Sem.run_bind,ha w,Result.andThen_ok,hb w,h w]
  cases r
  · simp
  · simpa using kk w
theorem Kl_ {d k i:Nat} {e:TypeId} {xs ys:List Value} {is:List Nat} {a b:Value} {r r':Bool} (hg:Ag P e false) (hx:xs[i*k]? = some a) (hy:ys[i*k]? = some b) (h:EqV P d e a b r) (kk:EqI P d e k xs ys is r'):EqI P d e k xs ys (i::is) (r&&r'):=V9_ (W1_ hg hx) (W1_ hg hy) h kk
theorem St_ {d k i:Nat} {e:TypeId} {xs ys vs us:List Value} {is:List Nat} {r r':Bool} (hg:Ag P e true) (hk:Sz P e k) (hx:sub xs (i*k) k=vs) (hy:sub ys (i*k) k=us) (h:EqV P d e (.agg vs.toArray) (.agg us.toArray) r) (kk:EqI P d e k xs ys is r'):EqI P d e k xs ys (i::is) (r&&r'):=V9_ (part_A hg hk hx) (part_A hg hk hy) h kk
end Go.SW
namespace Go.SW
variable {P:Program} {n:Nat} {N:Rest} {H0:Env}
theorem callgF' {all rest:List Oper} {Q:Qs} {ks:List Kt} {s:St} {f:FuncId} {args:List PV} {res:PV} {x:Operand} {xs:Array Operand} {ats:Array TypeId} {ty d j:Nat} {want g:Bool} {pos:String} {af:Array Edge} (hg:gOp s all j want=some g) (h:g=true->Fn P H0.g f args res) (ha:argsP (strG (Gf_ (x::xs.toList)) s.F) x xs.toList=some (f,args)) (hc:AllP (Iy_ s.F g (Gf_ (x::xs.toList)) [])) (hno:Gi_ s.F (Gf_ (x::xs.toList))=true) (hd:Nat.blt d n=true)
    (k:(g=true->res.wf)->Hd P n N H0 Q (.ops all rest) ks ⟨updp s.F d (.gv g res),s.L⟩):Hd P n N H0 Q (.ops all (⟨some d, .call ⟨.value x,xs,ats⟩,ty,pos,af,some (j,want)⟩::rest)) ks s:=by
  intro F H L hab
  obtain⟨c,b,hy,hge⟩:=Mv_ hab hg
  refine ow_gd hy hd (fun e=>?_) (fun e=>?_)
  · have hgt:=hge.trans e
    have hF:=h hgt
    obtain⟨vs,h1,h2⟩:=Gk_ (ats:=ats) (Lg_ hab.f (fun t ht c v e=>(Hc_ hc).2 t ht c v e hgt) (Gz_ hno)) ha hF.cb
    refine T5_ (hF.ph hab.g h1) h2 hd fun v H' hv hl=>?_
    refine k (fun _=>hv.wf) _ _ _ ((hab.mono hl).put d ?_)
    rw[hgt]
    exact Sim.gvt hv
  · have hgf:=hge.trans e
    refine k (fun e=>by rw[hgf] at e;cases e) _ _ _ (hab.put d ?_)
    rw[hgf]
    exact Sim.gvf
end Go.SW
namespace Go.SW.V
open Go.SW
variable {P:Program} {n:Nat} {N:Rest} {H0:Env} {fF:Nat->PV} {fL:Nat->Blk}
theorem callgF {all rest:List Oper} {Q:Qs} {ks:List Kt} {f:FuncId} {args:List PV} {res:PV} {x:Operand} {xs:Array Operand} {ats:Array TypeId} {ty d j:Nat} {want g:Bool} {pos:String} {af:Array Edge} (hg:gOp ⟨fF,fL⟩ all j want=some g) (h:g=true->Fn P H0.g f args res) (ha:argsP (strG (Gf_ (x::xs.toList)) fF) x xs.toList=some (f,args)) (hc:AllP (Iy_ fF g (Gf_ (x::xs.toList)) [])) (hno:Gi_ fF (Gf_ (x::xs.toList))=true) (hd:Nat.blt d n=true)
    (k:(g=true->res.wf)->Hd P n N H0 Q (.ops all rest) ks ⟨updp fF d (.gv g res),fL⟩):Hd P n N H0 Q (.ops all (⟨some d, .call ⟨.value x,xs,ats⟩,ty,pos,af,some (j,want)⟩::rest)) ks ⟨fF,fL⟩:=SW.callgF' (s:=⟨fF,fL⟩) hg h ha hc hno hd k
end Go.SW.V
namespace Go.SW
def MlOk (m:Mail):Prop:=m.head.length<=8/\0<=m.hops/\m.hops<=4/\m.key.length<=64
def Mr_ (l:List ItemR):Prop:=(l.map fun x=>x.mail.id).Pairwise (· < ·)
def LnOk (l:LineR):Prop:=l.items.length<=64/\(∀ x∈l.items,MlOk x.mail)/\Mr_ l.items
def RiOk (x:RiseR):Prop:=x.kept.length<=16/\∀ m∈x.kept,m.head.length<=8
def RwsOk (l:List RowR):Prop:=l.length<=8/\(∀ r∈l,LnOk r.l)/\(l.map (·.q.name)).Nodup
def StkOk (s:D_):Prop:=RwsOk s.rows/\(∀ i,i<16->RiOk (s.rises.get i))/\0<=s.bytes/\s.bytes<=1000000
def BkOk (b:BookR):Prop:=b.shops.length<=8/\b.binds.length<=32/\∀ y∈b.binds,y.key.length<=1000
def PoOk (p:PolicyR):Prop:=0<p.places.length/\p.places.length<=16/\0<p.slots.length/\p.slots.length<=32/\p.grants.length<=8/\(∀ g∈p.grants,0<=g.frm/\g.frm<p.places.length/\0<=g.to'/\g.to'<p.places.length/\0<=g.budget/\g.budget<=16)/\∀ x∈p.places,0<=x.bytes/\x.bytes<=65536
def PrOk (x:Ar_):Prop:=BkOk x.book/\StkOk x.stock/\x.notes.kept.length<=32/\∀ i,i<8->0<=(x.spent.get i).count/\(x.spent.get i).count<=16
def DdOk (d:DeedR):Prop:=d.bind.key.length<=1000/\d.bind.want.length<=1000/\d.mail.head.length<=1000/\d.mail.key.length<=1000
def StOk (s:B_):Prop:=PrOk s.x/\PoOk s.policy/\0<=s.place/\s.place<s.policy.places.length
theorem Ly_:LnOk ⟨[]⟩:=⟨Nat.zero_le _,(fun _ h=>by cases h),List.Pairwise.nil⟩
theorem LnOk.sub {l m:LineR} (h:LnOk l) (hs:m.items.Sublist l.items):LnOk m:=⟨Nat.le_trans hs.length_le h.1,fun x hx=>h.2.1 x (hs.subset hx),h.2.2.sublist (hs.map _)⟩
theorem RwsOk.at {l:List RowR} (h:RwsOk l) {k:Nat} {x:RowR} (hx:l[k]? = some x):LnOk x.l:=h.2.1 x (List.mem_of_getElem? hx)
theorem Jt_ {α β:Type} (f:α->β):∀ (l:List α) (k:Nat) (x y:α),l[k]? = some x->f y=f x->(l.set k y).map f=l.map f
  |[],_,_,_,h,_=>by cases h
  |a::r,0,x,y,h,e=>by simp at h;subst h;simp[e]
  |a::r,k+1,x,y,h,e=>by simpa using Jt_ f r k x y (by simpa using h) e
theorem RwsOk.set {l:List RowR} (h:RwsOk l) {k:Nat} {x y:RowR} (hx:l[k]? = some x) (hn:y.q.name=x.q.name) (hy:LnOk y.l):RwsOk (l.set k y):=by
  refine⟨by simpa using h.1,fun r hr=>?_,?_⟩
  · rcases List.mem_or_eq_of_mem_set hr with q|q
    · exact h.2.1 r q
    · exact q ▸ hy
  · rw[Jt_ (fun r:RowR=>r.q.name) l k x y hx hn];exact h.2.2
theorem RwsOk.sub {l m:List RowR} (h:RwsOk l) (hs:m.Sublist l):RwsOk m:=⟨Nat.le_trans hs.length_le h.1,fun r hr=>h.2.1 r (hs.subset hr),(hs.map _).nodup h.2.2⟩
theorem StkOk.set {s:D_} (h:StkOk s) {v:RiseR} (m:Nat) (hm:m<16) (hv:RiOk v):StkOk {s with rises:=s.rises.set v m}:=by
  refine⟨h.1,fun i hi=>?_,h.2.2⟩
  show RiOk ((s.rises.set v m).get i)
  rw[V.A16.get_set _ _ _ _ hm hi]
  split
  · exact hv
  · exact h.2.1 i hi
theorem StOk.stk {s:B_} (h:StOk s):StkOk s.x.stock:=h.1.2.1
end Go.SW
namespace Go.SW.V
open Go.SW
def Ez_ (l:List Bs) (s:Bs):(List Bs):=
 (bif decide (s∈l) then
 l
 else (l++[s]))
def B3_ (b:BookR) (x:ShopR):BookR×Int:=
 (bif !decide ((O5_ x)=0) then
 (b,O5_ x)
 else (bif (((Ej_ b.shops x.name).isSome)&&(decide (x=((Ej_ b.shops x.name).getD ShopR.zero)))) then
 (b,0)
 else (bif (Ej_ b.shops x.name).isSome then
 (b,9)
 else (bif decide (8<=(b.shops.length:Int)) then
 (b,12)
 else ((⟨[b.shops,[x]].flatten,b.binds⟩:BookR),0)))))
def Cf_ (b:BookR) (x:BindR):Int:=
 (idxP (fun z_4:BindR=>decide (x=z_4)) b.binds)
theorem put_len (l:List Bs) (s:Bs):(Ez_ l s).length<=l.length+1:=by
  unfold Ez_
  cases decide (s∈l)<;>simp
theorem there_r (b:BookR) (x:BindR):-1<=Cf_ b x/\Cf_ b x<b.binds.length:=F1_ _ _
def Av_ (b:BookR) (x:BindR):BookR×Int:=
 (bif !((Ej_ b.shops x.shop).isSome) then
 (b,10)
 else (bif decide ((((Ej_ b.shops x.shop).getD ShopR.zero).sort)=4) then
 (b,8)
 else (bif !decide ((D0_ x.to')=0) then
 (b,D0_ x.to')
 else (bif !decide ((Rx_ (H4_ x (((Ej_ b.shops x.shop).getD ShopR.zero).sort)))=0) then
 (b,Rx_ (H4_ x (((Ej_ b.shops x.shop).getD ShopR.zero).sort)))
 else lt (Cf_ b x) fun r=>
 (bif decide (0<=r) then
 (b,0)
 else (bif decide (32<=(b.binds.length:Int)) then
 (b,12)
 else ((⟨b.shops,[b.binds,[x]].flatten⟩:BookR),0)))))))
def Ab_ (b:BookR) (shop:Bs) (key:Bs) (h:List Pair):List BindR->List Bs->List Bs->(List Bs)×(List Bs)×Int
  |[],queues,places=>(queues,places,0)
  | x::t,queues,places=>(lt1 ((bif !decide ((x.shop)=shop) then
 (!decide ((x.shop)=shop))
 else (!(Md_ (H4_ x (((Ej_ b.shops shop).getD ShopR.zero).sort)) key h)))) (fun v=>
 (bif v then
 Ab_ b shop key h t queues places
 else (bif x.up then
 lt (Ez_ places (x.to')) fun r=>
 Ab_ b shop key h t queues r
 else lt (Ez_ queues (x.to')) fun r1=>
 Ab_ b shop key h t r1 places))))
def As_ (b:BookR) (shop:Bs) (key:Bs) (h:List Pair):(List Bs)×(List Bs)×Int:=
 (bif !((Ej_ b.shops shop).isSome) then
 ([],[],10)
 else (bif decide ((((Ej_ b.shops shop).getD ShopR.zero).sort)=4) then
 ([],[((Ej_ b.shops shop).getD ShopR.zero).to'],0)
 else Ab_ b shop key h b.binds [] []))
def C1_ (l:List DeedR):List DeedR->Bool
  |[]=>(decide ((l.length:Int)<=40))
  | x::t=>(bif !(Lr_ x) then
 false
 else C1_ l t)
def Hs_ (l:List DeedR):Bool:=
 C1_ l l
def Bz_ (n:Int) (least:Int) (most:Int):Bool:=
 ((decide (least<=n))&&(decide (n<=most)))
def Er_ (a:LabelR) (b:LabelR):Bool:=
 ((decide (a.level<=b.level))&&(decide ((IntKind.wrap .u32 ((BitVec.ofInt (IntKind.bits .u32) a.set_ &&& ~~~ BitVec.ofInt (IntKind.bits .u32) b.set_).toNat))=0)))
def Ah_ (p:PolicyR) (i:Int):Bool:=
 (Bz_ i 0 ((p.places.length:Int)-1))
def G2_ (x:PlaceR) (x1:Bs):Bool:=
 (decide (x.name=x1))
def Fe_ (x:GrantR) (x1:Int) (x2:Int):Bool:=
 ((decide (x.frm=x1))&&(decide (x.to'=x2)))
def Gp_ (n:Dk_):Int:=
 n.total
def K5_ (p:PolicyR) (tick:Int):Int:=
 (tick/(p.slots.length:Int))
def G_ (m:Mail):Mail:=
 m
def Cl_ (m:Mail):Int:=
 ((Dm_ m).length:Int)
def A3_ (x:ItemR):ItemR:=
 lt (G_ x.mail) fun r=>
 (⟨r,x.lent,x.again⟩:ItemR)
def Rm_ (x0:Mail):Bool:=
 true
def Lv_ (x:ItemR) (x1:Int):Bool:=
 (decide (x.mail.id=x1))
def I5_ (l:LineR):Int:=
 (l.items.length:Int)
def Mg_ (m:Mail) (x1:Int):Bool:=
 ((!decide (m.due=0))&&(decide (m.due<=x1)))
def E9_ (x:ItemR):Bool:=
 ((!x.lent)&&(Rm_ x.mail))
def Ex_ (x:ItemR) (x1:Int):Bool:=
 ((!x.lent)&&(Mg_ x.mail x1))
theorem Mz_ (m:Mail):0<=Cl_ m/\Cl_ m<=3000:=by
  have :=F9_ m
  simp only[Cl_];omega
def Ck_ (p:PolicyR) (from_:Int) (to_:Int):Bool:=
 ((((!decide (from_=to_))&&(Ah_ p from_))&&(Ah_ p to_))&&(Er_ ((gt p.places ((from_).toNat)).label) ((gt p.places ((to_).toNat)).label)))
def A4_ (p:PolicyR) (name:Bs):Int:=
 (idxP (fun z_4:PlaceR=>(G2_ z_4 name)) p.places)
def P_ (p:PolicyR) (from_:Int) (to_:Int):Int:=
 (idxP (fun z_5:GrantR=>(Fe_ z_5 from_ to_)) p.grants)
def Cu_ (n:Dk_) (x:NoteR):Dk_×Int:=
 (bif decide (64<(x.text.length:Int)) then
 (n,5)
 else (bif decide (n.total=18446744073709551615) then
 (n,18)
 else ((⟨(IntKind.wrap .u64 (n.total+1)),(([n.kept,[x]].flatten).drop ((max 0 ((([n.kept,[x]].flatten).length:Int)-32))).toNat)⟩:Dk_),0)))
def Ek_ (n:Dk_) (number:Int):NoteR×Bool:=
 (bif ((decide (number<=(IntKind.wrap .u64 (n.total-(n.kept.length:Int)))))||(decide (n.total<number))) then
 ((⟨0,0,[]⟩:NoteR),false)
 else ((gt n.kept (((IntKind.wrap .u64 ((IntKind.wrap .u64 (number-(IntKind.wrap .u64 (n.total-(n.kept.length:Int)))))-1))).toNat)),true))
def Bg_ (l:LineR) (id:Int):Int:=
 (idxP (fun z_4:ItemR=>(Lv_ z_4 id)) l.items)
def Dy_ (l:LineR) (m:Mail):Int:=
 (bif !decide ((Ga_ m)=0) then
 (Ga_ m)
 else (bif ((decide (0<(l.items.length:Int)))&&(decide (m.id<=((gt l.items ((((l.items.length:Int)-1)).toNat)).mail.id)))) then
 13
 else (bif decide (64<=(l.items.length:Int)) then
 12
 else 0)))
def Cs_ (l:LineR):Int:=
 (idxP (fun z_4:ItemR=>(E9_ z_4)) l.items)
def Dc_ (l:LineR) (so:Int):Int:=
 (idxP (fun z_4:ItemR=>(Ex_ z_4 so)) l.items)
theorem U7_ {α:Type} [Inhabited α] {p:α->Bool} {l:List α} (h:0<=idxP p l):p (gt l (idxP p l).toNat)=true:=by
  have hb:=F1_ p l
  exact (Wh_ (by omega) (getG (xs:=l) (k:=(idxP p l).toNat) (by omega))).1
theorem Wd_ (p:PolicyR) (n:Bs):-1<=A4_ p n/\A4_ p n<p.places.length:=F1_ _ _
theorem Q3_ (p:PolicyR) (a b:Int):-1<=P_ p a b/\P_ p a b<p.grants.length:=F1_ _ _
theorem grant_to {p:PolicyR} {a b:Int} (h:0<=P_ p a b):(gt p.grants (P_ p a b).toNat).frm=a/\(gt p.grants (P_ p a b).toNat).to'=b:=by
  have :=U7_ h
  simp only[Fe_,Bool.and_eq_true] at this
  exact⟨of_decide_eq_true this.1,of_decide_eq_true this.2⟩
theorem lof_b (l:LineR) (id:Int):-1<=Bg_ l id/\Bg_ l id<l.items.length:=F1_ _ _
theorem lof_at {l:LineR} {id:Int} (h:0<=Bg_ l id):(gt l.items (Bg_ l id).toNat).mail.id=id:=by
  have :=U7_ h
  exact of_decide_eq_true this
theorem Nh_ (l:LineR):-1<=Cs_ l/\Cs_ l<l.items.length:=F1_ _ _
theorem Ve_ (l:LineR) (t:Int):-1<=Dc_ l t/\Dc_ l t<l.items.length:=F1_ _ _
theorem Tq_ {l:LineR} {m:Mail} (h:Dy_ l m=0):Ga_ m=0/\l.items.length<64/\(l.items.length=0\/(gt l.items ((l.items.length:Int)-1).toNat).mail.id<m.id):=by
  unfold Dy_ at h
  cases e1:decide (Ga_ m=0) with
  |false=>rw[e1] at h;simp at h;simp[h] at e1
  |true=>
    rw[e1] at h
    simp only[Bool.not_true,cond_false] at h
    cases e2:((decide (0<(l.items.length:Int)))&&(decide (m.id<=((gt l.items ((((l.items.length:Int)-1)).toNat)).mail.id)))) with
    |true=>rw[e2] at h;cases h
    |false=>
      rw[e2] at h
      cases e3:decide (64<=(l.items.length:Int)) with
      |true=>rw[e3] at h;cases h
      |false=>
        simp only[Bool.and_eq_false_iff,decide_eq_false_iff_not] at e2
        simp at e3 e1
        exact⟨e1,by omega,by omega⟩
theorem mlOk_of {m:Mail} (h:Ga_ m=0) (h0:0<=m.hops):MlOk m:=by
  obtain⟨_,h2,h3,_,h5⟩:=Fx_ h
  exact⟨(Ln_ h3).1,h0,h5,h2⟩
theorem Rr_ {n:Dk_} {x:NoteR} (h:n.kept.length<=32):(Cu_ n x).1.kept.length<=32:=by
  unfold Cu_
  cases decide (64<(x.text.length:Int)) with
  |true=>exact h
  |false=>
    cases decide (n.total=18446744073709551615) with
    |true=>exact h
    |false=>simp;omega
end Go.SW.V
namespace Go.SW.V
open Go.SW
theorem Sx_ {α:Type} [Inhabited α] {xs:List α} {k:Nat} {y:α} (h:k<xs.length):gt (xs.set k y) k=y:=by
  simp[gt,h]
end Go.SW.V
namespace Go.SW.V
open Go.SW
theorem Q4_ {p:PolicyR} (h:PoOk p) (a b:Int):0<=P_ p a b->0<=b/\b<p.places.length/\0<=(gt p.grants (P_ p a b).toNat).budget/\(gt p.grants (P_ p a b).toNat).budget<=16:=fun h0=>by
  have hb:=Q3_ p a b
  have ht:=grant_to h0
  have hg:=h.2.2.2.2.2.1 _ (List.mem_of_getElem? (getG (xs:=p.grants) (k:=(P_ p a b).toNat) (by omega)))
  omega
def Dp_ (l:LineR) (x:ItemR):LineR×Int:=
 lt (Dy_ l x.mail) fun r=>
 (bif !decide (r=0) then
 (l,r)
 else lt (A3_ x) fun r1=>
 ((⟨[l.items,[r1]].flatten⟩:LineR),0))
def Ba_ (l:LineR) (m:Mail):LineR×Int:=
 lt (Dp_ l (⟨m,false,false⟩:ItemR)) fun r=>
 (r.1,r.2)
def U_ (l:LineR) (id:Int):LineR×ItemR×Int:=
 lt (Bg_ l id) fun r=>
 (bif decide (r<0) then
 (l,(⟨(⟨0,[],[],[],[],0,0⟩:Mail),false,false⟩:ItemR),10)
 else lt (A3_ (gt l.items ((r).toNat))) fun r1=>
 ((⟨[(l.items.take (r).toNat),(l.items.drop ((r+1)).toNat)].flatten⟩:LineR),r1,0))
def B6_ (l:LineR) (k:Int):Mail×Bool:=
 (bif decide (k<0) then
 ((⟨0,[],[],[],[],0,0⟩:Mail),false)
 else lt (G_ ((gt l.items ((k).toNat)).mail)) fun r=>
 (r,true))
def An_:List ItemR->Int->Int
  |[],n=>n
  |x::t,n=>lt (Cl_ (x.mail)) fun r=>
 An_ t (n+r)
def Cr_ (l:LineR):Int:=
 An_ l.items 0
def Bs_ (l:LineR):LineR×ItemR×Bool:=
 lt (Cs_ l) fun r=>
 (bif decide (r<0) then
 (l,(⟨(⟨0,[],[],[],[],0,0⟩:Mail),false,false⟩:ItemR),false)
 else lt (A3_ (gt (l.items.set ((r).toNat) (⟨(gt l.items ((r).toNat)).mail,true,(gt l.items ((r).toNat)).again⟩:ItemR)) ((r).toNat))) fun r1=>
 ((⟨(l.items.set ((r).toNat) (⟨(gt l.items ((r).toNat)).mail,true,(gt l.items ((r).toNat)).again⟩:ItemR))⟩:LineR),r1,true))
def Cq_ (l:LineR) (id:Int):LineR×Int:=
 lt (Bg_ l id) fun r=>
 (bif decide (r<0) then
 (l,10)
 else (bif !((gt l.items ((r).toNat)).lent) then
 (l,13)
 else ((⟨((l.items.set ((r).toNat) (⟨(gt l.items ((r).toNat)).mail,false,(gt l.items ((r).toNat)).again⟩:ItemR)).set ((r).toNat) (⟨(gt (l.items.set ((r).toNat) (⟨(gt l.items ((r).toNat)).mail,false,(gt l.items ((r).toNat)).again⟩:ItemR)) ((r).toNat)).mail,(gt (l.items.set ((r).toNat) (⟨(gt l.items ((r).toNat)).mail,false,(gt l.items ((r).toNat)).again⟩:ItemR)) ((r).toNat)).lent,true⟩:ItemR))⟩:LineR),0)))
def A0_:List ItemR->Nat->LineR->LineR
  |[],k,x=>x
  | x1::t,k,x=>(bif x1.lent then
 A0_ t (k+1) (⟨((x.items.set k (⟨(gt x.items k).mail,false,(gt x.items k).again⟩:ItemR)).set k (⟨(gt (x.items.set k (⟨(gt x.items k).mail,false,(gt x.items k).again⟩:ItemR)) k).mail,(gt (x.items.set k (⟨(gt x.items k).mail,false,(gt x.items k).again⟩:ItemR)) k).lent,true⟩:ItemR))⟩:LineR)
 else A0_ t (k+1) x)
def Du_ (l:LineR):LineR:=
 A0_ l.items 0 l
def Db_ (l:LineR):Mail×Bool:=
 lt (B6_ l (Cs_ l)) fun r=>
 (r.1,r.2)
def Dt_ (l:LineR) (tick:Int):Mail×Bool:=
 lt (B6_ l (Dc_ l tick)) fun r=>
 (r.1,r.2)
def Bm_:List ItemR->List ItemR->(List ItemR)
  |[],out=>out
  |x::t,out=>lt (A3_ x) fun r=>
 Bm_ t (out++[r])
def Es_ (l:LineR):(List ItemR):=
 Bm_ l.items []
def A5_ (x:RiseR) (m:Mail):RiseR×Int:=
 (bif !decide ((Ga_ m)=0) then
 (x,Ga_ m)
 else (bif decide (x.total=18446744073709551615) then
 (x,18)
 else lt (G_ m) fun r=>
 ((⟨(IntKind.wrap .u64 (x.total+1)),(([x.kept,[r]].flatten).drop ((max 0 ((([x.kept,[r]].flatten).length:Int)-16))).toNat)⟩:RiseR),0)))
def D2_ (x:RiseR) (number:Int):Int×Mail×Bool:=
 (bif decide (x.total<=number) then
 (0,(⟨0,[],[],[],[],0,0⟩:Mail),false)
 else lt (G_ (gt x.kept (((IntKind.wrap .u64 ((max (IntKind.wrap .u64 ((IntKind.wrap .u64 (x.total-(x.kept.length:Int)))+1)) (IntKind.wrap .u64 (number+1)))-(IntKind.wrap .u64 ((IntKind.wrap .u64 (x.total-(x.kept.length:Int)))+1))))).toNat))) fun r=>
 ((max (IntKind.wrap .u64 ((IntKind.wrap .u64 (x.total-(x.kept.length:Int)))+1)) (IntKind.wrap .u64 (number+1))),r,true))
def Bc_:List Mail->Int->Int
  |[],n=>n
  |x1::t,n=>lt (Cl_ x1) fun r=>
 Bc_ t (n+r)
def Be_ (x:RiseR):Int:=
 Bc_ x.kept 0
def Dn_ (base:Int) (bytes:Int):D_:=
 (⟨base,(max 0 bytes),[],(⟨(⟨0,[]⟩:RiseR),(⟨0,[]⟩:RiseR),(⟨0,[]⟩:RiseR),(⟨0,[]⟩:RiseR),(⟨0,[]⟩:RiseR),(⟨0,[]⟩:RiseR),(⟨0,[]⟩:RiseR),(⟨0,[]⟩:RiseR),(⟨0,[]⟩:RiseR),(⟨0,[]⟩:RiseR),(⟨0,[]⟩:RiseR),(⟨0,[]⟩:RiseR),(⟨0,[]⟩:RiseR),(⟨0,[]⟩:RiseR),(⟨0,[]⟩:RiseR),(⟨0,[]⟩:RiseR)⟩:A16_RiseR)⟩:D_)
def Fg_ (q:QueueR):Int:=
 (bif !decide ((D0_ q.name)=0) then
 (D0_ q.name)
 else (bif ((decide (q.most<1))||(decide (64<q.most))) then
 7
 else (bif !decide (q.dead=[]) then
 (D0_ q.dead)
 else 0)))
def J2_ (x:RowR) (x1:Bs):Bool:=
 (decide (x.q.name=x1))
def I_ (s:D_) (name:Bs):Int:=
 (idxP (fun z_4:RowR=>(J2_ z_4 name)) s.rows)
theorem bt {α:Type} {b:Bool} {x y:α} {P:α->Prop} (h1:b=true->P x) (h2:b=false->P y):P (bif b then x else y):=by
  cases b
  · exact h2 rfl
  · exact h1 rfl
theorem O3_ {l:List ItemR} (h:Mr_ l) {i j:Nat} {x y:ItemR} (hi:l[i]? = some x) (hj:l[j]? = some y) (hij:i<j):x.mail.id<y.mail.id:=by
  have h1:=List.pairwise_iff_getElem.1 h i j
  obtain⟨a,rfl⟩:=List.getElem?_eq_some_iff.1 hi
  obtain⟨b,rfl⟩:=List.getElem?_eq_some_iff.1 hj
  have h2:=h1 (by simpa using a) (by simpa using b) hij
  rw[List.getElem_map,List.getElem_map] at h2
  exact h2
theorem Yb_ {l:List ItemR} {x:ItemR} (h:Mr_ l) (hx:∀ y,l[l.length-1]? = some y->y.mail.id<x.mail.id):Mr_ (l++[x]):=by
  unfold Mr_
  rw[List.map_append,List.pairwise_append]
  refine⟨h,by simp,fun a ha b hb=>?_⟩
  obtain⟨y,hy,rfl⟩:=List.mem_map.1 ha
  simp at hb;subst hb
  obtain⟨i,hi⟩:=List.getElem?_of_mem hy
  have hil:=(List.getElem?_eq_some_iff.1 hi).1
  have hl:=List.getElem?_eq_getElem (l:=l) (i:=l.length-1) (by omega)
  have h1:=hx _ hl
  by_cases e:i=l.length-1
  · subst e;rw[hl] at hi;cases hi;exact h1
  · exact Int.lt_trans (O3_ h hi hl (by omega)) h1
theorem lput_ok {l:LineR} {x:ItemR} (h:LnOk l) (h0:0<=x.mail.hops):LnOk (Dp_ l x).1:=by
  unfold Dp_ lt
  refine bt (P:=fun r:LineR×Int=>LnOk r.1) (fun _=>h) fun e=>?_
  simp only[Bool.not_eq_eq_eq_not,Bool.not_false,decide_eq_true_eq] at e
  obtain⟨h1,h2,h3⟩:=Tq_ e
  refine⟨by simp;omega,fun y hy=>?_,?_⟩
  · simp[A3_,lt,G_] at hy
    rcases hy with hy|rfl
    · exact h.2.1 y hy
    · exact mlOk_of h1 h0
  · show Mr_ ([l.items,[A3_ x]].flatten)
    simp only[List.flatten_cons,List.flatten_nil,List.append_nil]
    refine Yb_ h.2.2 fun y hy=>?_
    have hl:=(List.getElem?_eq_some_iff.1 hy).1
    rcases h3 with q|q
    · omega
    · have :((l.items.length:Int)-1).toNat=l.items.length-1:=by omega
      rw[this] at q
      rw[getG (xs:=l.items) (k:=l.items.length-1) (by omega)] at hy
      cases hy
      exact q
theorem Ri_ {l:LineR} {m:Mail} (h:LnOk l) (h0:0<=m.hops):LnOk (Ba_ l m).1:=lput_ok (x:=⟨m,false,false⟩) h h0
theorem Fu_:MlOk ⟨0,[],[],[],[],0,0⟩:=⟨by simp,by simp,by simp,by simp⟩
theorem Je_ {α:Type} [Inhabited α] {xs:List α} {k:Nat} (h:k<xs.length):gt xs k∈xs:=List.mem_of_getElem? (getG h)
theorem Qj_ {α:Type} (l:List α) (k:Nat):([l.take k,l.drop (k+1)].flatten).Sublist l:=by
  simp only[List.flatten_cons,List.flatten_nil,List.append_nil]
  have h:l=l.take k++l.drop k:=(List.take_append_drop k l).symm
  conv=>rhs;rw[h]
  refine List.Sublist.append (List.Sublist.refl _) ?_
  rw[<- List.drop_drop]
  exact List.drop_sublist 1 _
theorem Kf_ {l:LineR} {id:Int} (h:LnOk l):LnOk (U_ l id).1/\MlOk (U_ l id).2.1.mail:=by
  unfold U_ lt
  refine bt (P:=fun r:LineR×ItemR×Int=>LnOk r.1/\MlOk r.2.1.mail) (fun _=>⟨h,Fu_⟩) fun e=>?_
  simp only[decide_eq_false_iff_not] at e
  have hb:=lof_b l id
  refine⟨h.sub ?_,?_⟩
  · have :(Bg_ l id+1).toNat=(Bg_ l id).toNat+1:=by omega
    rw[this];exact Qj_ _ _
  · exact h.2.1 _ (Je_ (by omega))
theorem Oq_ {l:LineR} {k:Nat} {y:ItemR} (h:LnOk l) (hk:k<l.items.length) (he:y.mail=(gt l.items k).mail):LnOk ⟨l.items.set k y⟩:=by
  have hm:=h.2.1 _ (Je_ hk)
  refine⟨by simpa using h.1,fun x hx=>?_,?_⟩
  · rcases List.mem_or_eq_of_mem_set hx with q|q
    · exact h.2.1 x q
    · subst q;rw[he];exact hm
  · show Mr_ (l.items.set k y)
    unfold Mr_
    rw[Jt_ (fun x:ItemR=>x.mail.id) l.items k _ y (getG hk) (by rw[he])]
    exact h.2.2
theorem Nf_ {l:LineR} (h:LnOk l):LnOk (Bs_ l).1/\MlOk (Bs_ l).2.1.mail:=by
  unfold Bs_ lt
  refine bt (P:=fun r:LineR×ItemR×Bool=>LnOk r.1/\MlOk r.2.1.mail) (fun _=>⟨h,Fu_⟩) fun e=>?_
  simp only[decide_eq_false_iff_not] at e
  have hb:=Nh_ l
  have hm:=h.2.1 _ (Je_ (xs:=l.items) (k:=(Cs_ l).toNat) (by omega))
  refine⟨Oq_ h (by omega) rfl,?_⟩
  simp only[A3_,lt,G_]
  rw[Sx_ (by omega)]
  exact hm
theorem Rj_ {l:LineR} {id:Int} (h:LnOk l):LnOk (Cq_ l id).1:=by
  unfold Cq_ lt
  refine bt (P:=fun r:LineR×Int=>LnOk r.1) (fun _=>h) fun e=>?_
  refine bt (P:=fun r:LineR×Int=>LnOk r.1) (fun _=>h) fun _=>?_
  simp only[decide_eq_false_iff_not] at e
  have hb:=lof_b l id
  exact Oq_ (l:=⟨_⟩) (Oq_ h (by omega) rfl) (by simp;omega) rfl
theorem Ot_:∀ (t:List ItemR) (k:Nat) (l:LineR),LnOk l->k+t.length<=l.items.length->LnOk (A0_ t k l)
  |[],_,_,h,_=>h
  |x::t,k,l,h,hk=>by
    simp only[List.length_cons] at hk
    unfold A0_
    refine bt (P:=LnOk) (fun _=>Ot_ t (k+1) _ ?_ (by simp;omega)) (fun _=>Ot_ t (k+1) l h (by omega))
    exact Oq_ (l:=⟨_⟩) (Oq_ h (by omega) rfl) (by simp;omega) rfl
theorem Wt_ {l:LineR} (h:LnOk l):LnOk (Du_ l):=Ot_ l.items 0 l h (by omega)
theorem ltold_ok {l:LineR} {k:Int} (h:LnOk l) (hk:k<l.items.length):MlOk (B6_ l k).1:=by
  unfold B6_ lt
  refine bt (P:=fun r:Mail×Bool=>MlOk r.1) (fun _=>Fu_) fun e=>?_
  simp only[decide_eq_false_iff_not] at e
  exact h.2.1 _ (Je_ (by omega))
theorem llate_ok {l:LineR} {t:Int} (h:LnOk l):MlOk (Dt_ l t).1:=ltold_ok h (Ve_ l t).2
theorem Wr_:∀ (t:List ItemR) (n:Int),n<=An_ t n/\An_ t n<=n+3000*t.length
  |[],n=>⟨Int.le_refl _,by simp[An_]⟩
  |x::t,n=>by
    have h:=Mz_ x.mail
    have hi:=Wr_ t (n+Cl_ x.mail)
    simp only[An_,lt,List.length_cons]
    omega
theorem lsize_r (l:LineR):0<=Cr_ l/\Cr_ l<=3000*l.items.length:=by
  have :=Wr_ l.items 0
  simp only[Cr_];omega
theorem Xc_:∀ (t:List Mail) (n:Int),n<=Bc_ t n/\Bc_ t n<=n+3000*t.length
  |[],n=>⟨Int.le_refl _,by simp[Bc_]⟩
  |x::t,n=>by
    have h:=Mz_ x
    have hi:=Xc_ t (n+Cl_ x)
    simp only[Bc_,lt,List.length_cons]
    omega
theorem Rw_ (x:RiseR):0<=Be_ x/\Be_ x<=3000*x.kept.length:=by
  have :=Xc_ x.kept 0
  simp only[Be_];omega
theorem Vo_ {x:RiseR} {m:Mail} (h:RiOk x):RiOk (A5_ x m).1:=by
  unfold A5_ lt
  refine bt (P:=fun r:RiseR×Int=>RiOk r.1) (fun _=>h) fun e=>?_
  refine bt (P:=fun r:RiseR×Int=>RiOk r.1) (fun _=>h) fun _=>?_
  simp only[Bool.not_eq_eq_eq_not,Bool.not_false,decide_eq_true_eq] at e
  have hm:=(Ln_ (Fx_ e).2.2.1).1
  refine⟨by simp;omega,fun y hy=>?_⟩
  have hy:=List.mem_of_mem_drop hy
  simp[G_] at hy
  rcases hy with hy|rfl
  · exact h.2 y hy
  · exact hm
theorem at_b (s:D_) (n:Bs):-1<=I_ s n/\I_ s n<s.rows.length:=F1_ _ _
theorem at_n {s:D_} {n:Bs} (h:0<=I_ s n):(gt s.rows (I_ s n).toNat).q.name=n:=by
  have :=U7_ h
  exact of_decide_eq_true this
def B7_ (s:D_) (q:QueueR):D_×Int:=
 lt (Fg_ q) fun r=>
 (bif !decide (r=0) then
 (s,r)
 else lt (I_ s q.name) fun r1=>
 (bif ((decide (0<=r1))&&(decide ((gt s.rows ((r1).toNat)).q=q))) then
 (s,0)
 else (bif decide (0<=r1) then
 (s,9)
 else (bif decide (8<=(s.rows.length:Int)) then
 (s,12)
 else ((⟨s.next,s.bytes,[s.rows,[(⟨q,(⟨[]⟩:LineR)⟩:RowR)]].flatten,s.rises⟩:D_),0)))))
def Ch_ (s:D_) (name:Bs):D_×Int:=
 lt (I_ s name) fun r=>
 (bif decide (r<0) then
 (s,10)
 else ((⟨s.next,s.bytes,[(s.rows.take (r).toNat),(s.rows.drop ((r+1)).toNat)].flatten,s.rises⟩:D_),0))
def Ad_ (s:D_) (name:Bs):QueueR×Bool:=
 lt (I_ s name) fun r=>
 (bif decide (r<0) then
 ((⟨[],0,0,[]⟩:QueueR),false)
 else ((gt s.rows ((r).toNat)).q,true))
def A7_:List RowR->List QueueR->(List QueueR)
  |[],out=>out
  |x::t,out=>A7_ t (out++[x.q])
def Cb_ (s:D_):(List QueueR):=
 A7_ s.rows []
def Di_ (s:D_) (name:Bs):LineR:=
 lt (I_ s name) fun r=>
 (bif decide (r<0) then
 (⟨[]⟩:LineR)
 else ((gt s.rows ((r).toNat)).l))
def Y_ (s:D_) (k:Int) (l:LineR):D_:=
 (⟨s.next,s.bytes,(s.rows.set ((k).toNat) (⟨(gt s.rows ((k).toNat)).q,l⟩:RowR)),s.rises⟩:D_)
def A8_ (s:D_):Nat->Int->Nat->Int
  |0,_,_=>default
  | f2+1,n1,v=>(bif decide ((v:Int)<16) then
 lt (Be_ (A16.get s.rises v)) fun r1=>
 A8_ s f2 (n1+r1) (v+1)
 else n1)
def Ac_ (s:D_):List RowR->Int->Int
  |[],n=>A8_ s (16-0+1) n 0
  |x::t,n=>lt (Cr_ (x.l)) fun r=>
 Ac_ s t (n+r)
def Ae_ (s:D_):Int:=
 Ac_ s s.rows 0
theorem ksize1 {s:D_} (h:∀ i,i<16->RiOk (s.rises.get i)):∀ (f:Nat) (n:Int) (v:Nat),16<f+v->v<=16->n<=A8_ s f n v/\A8_ s f n v<=n+48000*(16-v)
  |0,n,v,h1,h2=>by omega
  |f+1,n,v,h1,h2=>by
    unfold A8_ lt
    refine bt (P:=fun r:Int=>n<=r/\r<=n+48000*(16-(v:Int))) (fun e=>?_) fun e=>⟨Int.le_refl _,by omega⟩
    simp only[decide_eq_true_eq] at e
    have hr:=Rw_ (s.rises.get v)
    have hk:=(h v (by omega)).1
    have hi:=ksize1 h f (n+Be_ (s.rises.get v)) (v+1) (by omega) (by omega)
    dsimp only
    omega
theorem ksize0 {s:D_} (h:∀ i,i<16->RiOk (s.rises.get i)):∀ (t:List RowR) (n:Int),(∀ r∈t,LnOk r.l)->n<=Ac_ s t n/\Ac_ s t n<=n+192000*t.length+768000
  |[],n,_=>by
    have :=ksize1 h (16-0+1) n 0 (by omega) (by omega)
    simp only[Ac_,List.length_nil];omega
  |x::t,n,hl=>by
    have hr:=lsize_r x.l
    have hk:=(hl x (List.mem_cons_self ..)).1
    have hi:=ksize0 h t (n+Cr_ x.l) fun r hr=>hl r (List.mem_cons_of_mem _ hr)
    simp only[Ac_,lt,List.length_cons]
    omega
theorem U9_ (s:D_) (h:StkOk s):0<=Ae_ s/\Ae_ s<=2304000:=by
  have :=ksize0 h.2.1 s.rows 0 h.1.2.1
  have :=h.1.1
  simp only[Ae_];omega
theorem at_neg {s:D_} {n:Bs} (h:I_ s n<0):∀ x∈s.rows,x.q.name≠n:=fun x hx e=>by
  have :=Q7_ h
  rw[List.find?_eq_none] at this
  exact this x hx (decide_eq_true e)
theorem Re_ {s:D_} {q:QueueR} (h:StkOk s):StkOk (B7_ s q).1:=by
  unfold B7_ lt
  refine bt (P:=fun r:D_×Int=>StkOk r.1) (fun _=>h) fun _=>?_
  refine bt (P:=fun r:D_×Int=>StkOk r.1) (fun _=>h) fun _=>?_
  refine bt (P:=fun r:D_×Int=>StkOk r.1) (fun _=>h) fun e=>?_
  refine bt (P:=fun r:D_×Int=>StkOk r.1) (fun _=>h) fun e1=>?_
  simp only[decide_eq_false_iff_not] at e e1
  have hn:=at_neg (s:=s) (n:=q.name) (by omega)
  refine⟨⟨by simp;omega,fun r hr=>?_,?_⟩,h.2⟩
  · simp at hr
    rcases hr with hr|rfl
    · exact h.1.2.1 r hr
    · exact Ly_
  · simp only[List.flatten_cons,List.flatten_nil,List.append_nil,List.map_append,List.map_cons,List.map_nil]
    rw[List.nodup_append]
    refine⟨h.1.2.2,by simp,fun a ha b hb=>?_⟩
    obtain⟨x,hx,rfl⟩:=List.mem_map.1 ha
    rw[List.mem_singleton.1 hb]
    exact hn x hx
theorem Rb_ {s:D_} {n:Bs} (h:StkOk s):StkOk (Ch_ s n).1:=by
  unfold Ch_ lt
  refine bt (P:=fun r:D_×Int=>StkOk r.1) (fun _=>h) fun e=>?_
  simp only[decide_eq_false_iff_not] at e
  have :(I_ s n+1).toNat=(I_ s n).toNat+1:=by omega
  refine⟨h.1.sub ?_,h.2⟩
  show List.Sublist [s.rows.take _,s.rows.drop _].flatten _
  rw[this];exact Qj_ _ _
theorem Lo_ {s:D_} {k:Int} {l:LineR} (h:StkOk s) (hl:LnOk l) (hk:0<=k/\k<s.rows.length):StkOk (Y_ s k l):=
  ⟨h.1.set (getG (by omega)) rfl hl,h.2⟩
theorem kroom_r0 {s:D_} (h:StkOk s):-2304000<=s.bytes-Ae_ s/\s.bytes-Ae_ s<=1000000:=by
  have :=U9_ s h
  have :=h.2.2
  omega
end Go.SW.V
namespace Go.SW.V
open Go.SW
theorem Gx_ (s:D_) (k:Int) (l:LineR):(Y_ s k l).rows.length=s.rows.length:=by simp[Y_]
def D9_ (s:D_):Int:=
 (s.bytes-(Ae_ s))
theorem kroom_r (s:D_) (h:StkOk s):-2304000<=D9_ s/\D9_ s<=1000000:=kroom_r0 h
def Am_ (s:D_) (name:Bs) (m:Mail):D_×Int×Mail×Int:=
 lt (I_ s name) fun r=>
 (bif decide (r<0) then
 (s,0,(⟨0,[],[],[],[],0,0⟩:Mail),10)
 else (bif !decide ((Ga_ m)=0) then
 (s,0,(⟨0,[],[],[],[],0,0⟩:Mail),Ga_ m)
 else (bif decide (s.next = 0) then
 (s,0,(⟨0,[],[],[],[],0,0⟩:Mail),18)
 else (lp2 ((bif decide (((gt s.rows ((r).toNat)).q.most)<=(IntKind.wrap .u64 (I5_ ((gt s.rows ((r).toNat)).l)))) then
 lt (Db_ ((gt s.rows ((r).toNat)).l)) fun r1=>
 (bif !r1.2 then
 .ret (s,0,(⟨0,[],[],[],[],0,0⟩:Mail),12)
 else lt (U_ ((gt s.rows ((r).toNat)).l) r1.1.id) fun r2=>
 .fin (r2.1,r1.1))
 else .fin ((gt s.rows ((r).toNat)).l,(⟨0,[],[],[],[],0,0⟩:Mail)))) (fun x x1=>
 (bif decide (((D9_ s)+(Cl_ x1))<(Cl_ (⟨s.next,m.shop,m.key,m.head,m.body,m.due,m.hops⟩:Mail))) then
 (s,0,(⟨0,[],[],[],[],0,0⟩:Mail),12)
 else lt (Ba_ x (⟨s.next,m.shop,m.key,m.head,m.body,m.due,m.hops⟩:Mail)) fun r3=>
 (bif !decide (r3.2=0) then
 (s,0,(⟨0,[],[],[],[],0,0⟩:Mail),r3.2)
 else lt (Y_ s r r3.1) fun r4=>
 ((⟨(IntKind.wrap .u64 (r4.next + 1)),r4.bytes,r4.rows,r4.rises⟩:D_),s.next,x1,0)))) (fun r=>r)))))
def Bo_ (s:D_) (name:Bs):D_×ItemR×Bool:=
 lt (I_ s name) fun r=>
 (bif decide (r<0) then
 (s,(⟨(⟨0,[],[],[],[],0,0⟩:Mail),false,false⟩:ItemR),false)
 else lt (Bs_ ((gt s.rows ((r).toNat)).l)) fun r1=>
 lt (Y_ s r r1.1) fun r2=>
 (r2,r1.2.1,r1.2.2))
def Cg_ (s:D_) (name:Bs) (id:Int):D_×Int:=
 lt (I_ s name) fun r=>
 (bif decide (r<0) then
 (s,10)
 else lt (Cq_ ((gt s.rows ((r).toNat)).l) id) fun r1=>
 lt (Y_ s r r1.1) fun r2=>
 (r2,r1.2))
def X_ (s:D_) (name:Bs) (id:Int):D_×ItemR×Int:=
 lt (I_ s name) fun r=>
 (bif decide (r<0) then
 (s,(⟨(⟨0,[],[],[],[],0,0⟩:Mail),false,false⟩:ItemR),10)
 else lt (U_ ((gt s.rows ((r).toNat)).l) id) fun r1=>
 lt (Y_ s r r1.1) fun r2=>
 (r2,r1.2.1,r1.2.2))
def A1_ (s:D_) (place:Int) (m:Mail):D_×Int:=
 (bif ((decide (place<0))||(decide (16<=place))) then
 (s,7)
 else lt (A5_ (A16.get s.rises ((place).toNat)) m) fun r=>
 (bif !decide (r.2=0) then
 (s,r.2)
 else (bif decide (s.bytes<(((Ae_ s)-(Be_ (A16.get s.rises ((place).toNat))))+(Be_ (r.1)))) then
 (s,12)
 else ((⟨s.next,s.bytes,s.rows,(A16.set s.rises (r.1) ((place).toNat))⟩:D_),0))))
def Ai_ (tick:Int):List RowR->Bs×Mail×Bool
  |[]=>([],(⟨0,[],[],[],[],0,0⟩:Mail),false)
  |x::t=>lt (Dt_ (x.l) tick) fun r=>
 (bif r.2 then
 (x.q.name,r.1,true)
 else Ai_ tick t)
def R_ (s:D_) (tick:Int):Bs×Mail×Bool:=
 Ai_ tick s.rows
def Aw_:List RowR->Nat->D_->D_
  |[],k,x=>x
  |x1::t,k,x=>lt (Du_ (x1.l)) fun r=>
 lt (Y_ x (k:Int) r) fun r1=>
 Aw_ t (k+1) r1
def Ea_ (s:D_):D_:=
 Aw_ s.rows 0 s
def LoP {σ ρ:Type} (I:σ->Prop) (R:ρ->Prop):Lo σ ρ->Prop
  | .fin s=>I s
  | .ret r=>R r
theorem lp0E {ρ β:Type} {P:β->Prop} {o:Lo Unit ρ} {f:β} {g:ρ->β} (I:Unit->Prop) (ho:LoP I (fun r=>P (g r)) o) (hf:I ()->P f):P (lp0 o f g):=by
  cases o with
  |fin s=>exact hf ho
  |ret r=>exact ho
theorem lp1E {σ ρ β:Type} {P:β->Prop} {o:Lo σ ρ} {f:σ->β} {g:ρ->β} (I:σ->Prop) (ho:LoP I (fun r=>P (g r)) o) (hf:∀ a,I a->P (f a)):P (lp1 o f g):=by
  cases o with
  |fin s=>exact hf _ ho
  |ret r=>exact ho
theorem lp2E {σ τ ρ β:Type} {P:β->Prop} {o:Lo (σ×τ) ρ} {f:σ->τ->β} {g:ρ->β} (I:σ×τ->Prop) (ho:LoP I (fun r=>P (g r)) o) (hf:∀ a b,I (a,b)->P (f a b)):P (lp2 o f g):=by
  cases o with
  |fin s=>exact hf _ _ ho
  |ret r=>exact ho
def wtm (m:Mail):Nat:=33 ^ (5-m.hops.toNat)
def wtl (l:List ItemR):Nat:=(l.map fun x=>wtm x.mail).sum
def wtk (s:D_):Nat:=(s.rows.map fun r=>wtl r.l.items).sum
def wto (l:List OutR):Nat:=(l.map fun x=>wtm x.mail).sum
def wt1 (m:Mail):Nat:=bif decide (m.shop=[]) then 0 else wtm m
theorem sum_cut {α:Type} [Inhabited α] (f:α->Nat) (l:List α) (k:Nat) (h:k<l.length):(([l.take k,l.drop (k+1)].flatten).map f).sum+f (gt l k)=(l.map f).sum:=by
  have e:l=l.take k++(gt l k::l.drop (k+1)):=by
    conv=>lhs;rw[<- List.take_append_drop k l]
    congr 1
    rw[List.drop_eq_getElem_cons h]
    congr 1
    simp[gt,h]
  have e2:(l.map f).sum=((l.take k++(gt l k::l.drop (k+1))).map f).sum:=by rw[<- e]
  rw[e2]
  simp only[List.flatten_cons,List.flatten_nil,List.append_nil,List.map_append,List.map_cons,List.sum_append,List.sum_cons]
  omega
theorem Vu_ {α:Type} [Inhabited α] (f:α->Nat):∀ (l:List α) (k:Nat) (y:α),k<l.length->((l.set k y).map f).sum+f (gt l k)=(l.map f).sum+f y
  |[],k,y,h=>by cases h
  |a::r,0,y,h=>by simp[gt];omega
  |a::r,k+1,y,h=>by
    have :=Vu_ f r k y (by simpa using h)
    simp only[List.set_cons_succ,List.map_cons,List.sum_cons]
    have e:gt (a::r) (k+1)=gt r k:=by simp[gt]
    rw[e];omega
theorem Rp_ {l:LineR} (h:LnOk l) {k:Nat} (hk:k<l.items.length):Bg_ l (gt l.items k).mail.id=k:=by
  have h0:0<=Bg_ l (gt l.items k).mail.id:=by
    refine Int.not_lt.1 fun q=>?_
    have :=Q7_ q
    rw[List.find?_eq_none] at this
    exact this _ (Je_ hk) (decide_eq_true rfl)
  have hb:=lof_b l (gt l.items k).mail.id
  have ha:=lof_at h0
  obtain⟨j,hj⟩:∃ j:Nat,Bg_ l (gt l.items k).mail.id=j:=⟨_,(Int.toNat_of_nonneg h0).symm⟩
  rw[hj] at ha hb ⊢
  simp only[Int.toNat_natCast] at ha
  have hjl:j<l.items.length:=by omega
  rcases Nat.lt_trichotomy j k with q|q|q
  · have :=O3_ h.2.2 (getG hjl) (getG hk) q;omega
  · rw[q]
  · have :=O3_ h.2.2 (getG hk) (getG hjl) q;omega
theorem Tr_ {l:LineR} (h:(Db_ l).2=true):∃ k:Nat,k<l.items.length/\(Db_ l).1=(gt l.items k).mail:=by
  have hb:=Nh_ l
  unfold Db_ lt B6_ lt at h ⊢
  dsimp only at h ⊢
  cases e:decide (Cs_ l<0) with
  |true=>rw[e] at h;cases h
  |false=>
    simp only[decide_eq_false_iff_not] at e
    exact⟨(Cs_ l).toNat,by omega,rfl⟩
theorem lremove_w {l:LineR} (h:LnOk l) {k:Nat} (hk:k<l.items.length):wtl (U_ l (gt l.items k).mail.id).1.items+wtm (gt l.items k).mail=wtl l.items:=by
  unfold U_ lt
  dsimp only
  rw[Rp_ h hk]
  have e:decide ((k:Int)<0)=false:=by simp
  rw[e]
  have :=sum_cut (fun x:ItemR=>wtm x.mail) l.items k hk
  exact this
theorem ladd_w {l:LineR} {m:Mail} (h:(Ba_ l m).2=0):wtl (Ba_ l m).1.items=wtl l.items+wtm m:=by
  unfold Ba_ Dp_ lt at h ⊢
  dsimp only at h ⊢
  cases e:decide (Dy_ l m=0) with
  |false=>rw[e] at h;simp at h;simp[h] at e
  |true=>
    simp[wtl,A3_,lt,G_]
theorem kwith_w {s:D_} {k:Int} {l:LineR} (hk:0<=k/\k<s.rows.length):wtk (Y_ s k l)+wtl (gt s.rows k.toNat).l.items=wtk s+wtl l.items:=
  Vu_ (fun r:RowR=>wtl r.l.items) s.rows k.toNat ⟨(gt s.rows k.toNat).q,l⟩ (by omega)
theorem Rf_ {s:D_} {n:Bs} {m:Mail} (h:StkOk s) (h0:0<=m.hops):StkOk (Am_ s n m).1/\MlOk (Am_ s n m).2.2.1/\((Am_ s n m).2.2.2=0->Ga_ m=0/\wtk (Am_ s n m).1+wt1 (Am_ s n m).2.2.1<=wtk s+wtm m):=by
  unfold Am_ lt
  let Q:D_×Int×Mail×Int->Prop:=fun r=>StkOk r.1/\MlOk r.2.2.1/\(r.2.2.2=0->Ga_ m=0/\wtk r.1+wt1 r.2.2.1<=wtk s+wtm m)
  have hno:∀ e:Int,e≠0->Q (s,0,⟨0,[],[],[],[],0,0⟩,e):=fun e he=>⟨h,Fu_,fun q=>(he q).elim⟩
  refine bt (P:=Q) (fun _=>hno _ (by decide)) fun e=>?_
  refine bt (P:=Q) (fun e=>hno _ (by simpa using e)) fun ec=>?_
  refine bt (P:=Q) (fun _=>hno _ (by decide)) fun _=>?_
  simp only[decide_eq_false_iff_not] at e
  have ec':Ga_ m=0:=by simpa using ec
  have hb:=at_b s n
  obtain⟨k,hk⟩:∃ k:Nat,I_ s n=k:=⟨_,(Int.toNat_of_nonneg (by omega)).symm⟩
  rw[hk] at hb ⊢
  simp only[Int.toNat_natCast]
  have hl:LnOk (gt s.rows k).l:=RwsOk.at h.1 (getG (by omega))
  refine lp2E (P:=Q) (fun q=>LnOk q.1/\MlOk q.2/\wtl q.1.items+wt1 q.2<=wtl (gt s.rows k).l.items) ?_ fun x x1 hx=>?_
  · refine bt (P:=LoP _ _) (fun _=>?_) fun _=>⟨hl,Fu_,by simp[wt1]⟩
    refine bt (P:=LoP _ _) (fun _=>hno _ (by decide)) fun e2=>?_
    obtain⟨j,hj,he⟩:=Tr_ (l:=(gt s.rows k).l) (by simpa using e2)
    have hw:=lremove_w hl hj
    show LnOk _/\MlOk _/\_
    rw[he]
    refine⟨(Kf_ hl).1,hl.2.1 _ (Je_ hj),?_⟩
    have :wt1 (gt (gt s.rows k).l.items j).mail<=wtm (gt (gt s.rows k).l.items j).mail:=by
      unfold wt1
      cases decide ((gt (gt s.rows k).l.items j).mail.shop=[])<;>simp
    simp only
    omega
  · obtain⟨hx1,hx2,hx3⟩:=hx
    refine bt (P:=Q) (fun _=>hno _ (by decide)) fun _=>?_
    refine bt (P:=Q) (fun e3=>hno _ (by simpa using e3)) fun e3=>?_
    have e3':(Ba_ x ⟨s.next,m.shop,m.key,m.head,m.body,m.due,m.hops⟩).2=0:=by simpa using e3
    have ha:=ladd_w e3'
    have hok:=Ri_ (l:=x) (m:=⟨s.next,m.shop,m.key,m.head,m.body,m.due,m.hops⟩) hx1 h0
    have hw:=kwith_w (s:=s) (k:=(k:Int)) (l:=(Ba_ x ⟨s.next,m.shop,m.key,m.head,m.body,m.due,m.hops⟩).1) (by omega)
    have hs:=Lo_ (k:=(k:Int)) h hok (by omega)
    refine⟨hs,hx2,fun _=>⟨ec',?_⟩⟩
    simp only[Int.toNat_natCast] at hw
    show wtk (Y_ s k _)+wt1 x1<=_
    have he:wtm ⟨s.next,m.shop,m.key,m.head,m.body,m.due,m.hops⟩=wtm m:=rfl
    rw[he] at ha
    have hx4:wtl x.items+wt1 x1<=wtl (gt s.rows k).l.items:=hx3
    rw[ha] at hw
    omega
theorem Wk_ {s:D_} {n:Bs} (h:StkOk s):StkOk (Bo_ s n).1/\MlOk (Bo_ s n).2.1.mail:=by
  unfold Bo_ lt
  refine bt (P:=fun r:D_×ItemR×Bool=>StkOk r.1/\MlOk r.2.1.mail) (fun _=>⟨h,Fu_⟩) fun e=>?_
  simp only[decide_eq_false_iff_not] at e
  have hb:=at_b s n
  have hl:=Nf_ (RwsOk.at h.1 (getG (xs:=s.rows) (k:=(I_ s n).toNat) (by omega)))
  exact⟨Lo_ h hl.1 (by omega),hl.2⟩
theorem Wj_ {s:D_} {n:Bs} {id:Int} (h:StkOk s):StkOk (Cg_ s n id).1:=by
  unfold Cg_ lt
  refine bt (P:=fun r:D_×Int=>StkOk r.1) (fun _=>h) fun e=>?_
  simp only[decide_eq_false_iff_not] at e
  have hb:=at_b s n
  exact Lo_ h (Rj_ (RwsOk.at h.1 (getG (xs:=s.rows) (k:=(I_ s n).toNat) (by omega)))) (by omega)
theorem Hj_ {s:D_} {n:Bs} {id:Int} (h:StkOk s):StkOk (X_ s n id).1/\MlOk (X_ s n id).2.1.mail:=by
  unfold X_ lt
  refine bt (P:=fun r:D_×ItemR×Int=>StkOk r.1/\MlOk r.2.1.mail) (fun _=>⟨h,Fu_⟩) fun e=>?_
  simp only[decide_eq_false_iff_not] at e
  have hb:=at_b s n
  have hl:=Kf_ (id:=id) (RwsOk.at h.1 (getG (xs:=s.rows) (k:=(I_ s n).toNat) (by omega)))
  exact⟨Lo_ h hl.1 (by omega),hl.2⟩
theorem S5_ {s:D_} {p:Int} {m:Mail} (h:StkOk s):StkOk (A1_ s p m).1/\(A1_ s p m).1.rows=s.rows:=by
  unfold A1_ lt
  let Q:D_×Int->Prop:=fun r=>StkOk r.1/\r.1.rows=s.rows
  refine bt (P:=Q) (fun _=>⟨h,rfl⟩) fun e=>?_
  refine bt (P:=Q) (fun _=>⟨h,rfl⟩) fun _=>?_
  refine bt (P:=Q) (fun _=>⟨h,rfl⟩) fun _=>?_
  simp only[Bool.or_eq_false_iff,decide_eq_false_iff_not] at e
  exact⟨h.set p.toNat (by omega) (Vo_ (h.2.1 _ (by omega))),rfl⟩
theorem S8_:∀ (t:List RowR) (k:Nat) (s:D_),StkOk s->(∀ r∈t,LnOk r.l)->k+t.length<=s.rows.length->StkOk (Aw_ t k s)
  |[],_,_,h,_,_=>h
  |x::t,k,s,h,hl,hk=>by
    simp only[List.length_cons] at hk
    unfold Aw_ lt
    refine S8_ t (k+1) _ (Lo_ h (Wt_ (hl x (List.mem_cons_self ..))) (by omega)) (fun r hr=>hl r (List.mem_cons_of_mem _ hr)) ?_
    simp[Y_];omega
theorem Wm_ {s:D_} (h:StkOk s):StkOk (Ea_ s):=S8_ s.rows 0 s h h.1.2.1 (by omega)
theorem S4_ {t:Int}:∀ (l:List RowR),(∀ r∈l,LnOk r.l)->MlOk (Ai_ t l).2.1
  |[],_=>Fu_
  |x::l,h=>by
    unfold Ai_ lt
    refine bt (P:=fun r:Bs×Mail×Bool=>MlOk r.2.1) (fun _=>llate_ok (h x (List.mem_cons_self ..))) (fun _=>S4_ l fun r hr=>h r (List.mem_cons_of_mem _ hr))
theorem Rd_ {s:D_} {t:Int} (h:StkOk s):MlOk (R_ s t).2.1:=S4_ s.rows h.1.2.1
def A6_ (so_p:BindR->Bool):List BindR->List BindR->(List BindR)
  |[],out=>out
  | x::t,out=>(bif so_p x then
 A6_ so_p t (out++[x])
 else A6_ so_p t out)
def D4_ (b:BookR) (so_p:BindR->Bool):(List BindR):=
 A6_ so_p b.binds []
def H5_ (x:BindR) (x1:Bs):Bool:=
 (x.up||(!decide (x.to'=x1)))
def El_ (b:BookR) (queue:Bs):BookR:=
 lt (D4_ b (fun z_5:BindR=>(H5_ z_5 queue))) fun r=>
 (⟨b.shops,r⟩:BookR)
def Bi_ (x:ShopR) (x1:Bs):Bool:=
 (decide (x.name=x1))
def J7_ (x:BindR) (x1:Bs):Bool:=
 (!decide (x.shop=x1))
def D3_ (b:BookR) (name:Bs):BookR×Int:=
 (bif decide ((idxP (fun z_5:ShopR=>(Bi_ z_5 name)) b.shops)<0) then
 (b,10)
 else lt (D4_ (⟨[(b.shops.take (idxP (fun z_5:ShopR=>(Bi_ z_5 name)) b.shops).toNat),(b.shops.drop (((idxP (fun z_5:ShopR=>(Bi_ z_5 name)) b.shops)+1)).toNat)].flatten,b.binds⟩:BookR) (fun z_18:BindR=>(J7_ z_18 name))) fun r=>
 ((⟨[(b.shops.take (idxP (fun z_5:ShopR=>(Bi_ z_5 name)) b.shops).toNat),(b.shops.drop (((idxP (fun z_5:ShopR=>(Bi_ z_5 name)) b.shops)+1)).toNat)].flatten,r⟩:BookR),0))
def C8_ (b:BookR) (x:BindR):BookR×Int:=
 lt (Cf_ b x) fun r=>
 (bif decide (r<0) then
 (b,10)
 else ((⟨b.shops,[(b.binds.take (r).toNat),(b.binds.drop ((r+1)).toNat)].flatten⟩:BookR),0))
def Dx_ (p:PolicyR) (place:Int) (x:Ar_):B_:=
 (⟨x,p,place⟩:B_)
def Cv_ (p:PolicyR) (place:Int):B_:=
 lt (Dn_ ((gt p.places ((place).toNat)).base) ((gt p.places ((place).toNat)).bytes)) fun r=>
 lt (Dx_ p place (⟨(⟨[],[]⟩:BookR),r,(⟨0,[]⟩:Dk_),(⟨0,0,0,0,0,0,0,0,0,0,0,0,0,0,0,0⟩:A16_u64),(⟨(⟨0,0⟩:C0_),(⟨0,0⟩:C0_),(⟨0,0⟩:C0_),(⟨0,0⟩:C0_),(⟨0,0⟩:C0_),(⟨0,0⟩:C0_),(⟨0,0⟩:C0_),(⟨0,0⟩:C0_)⟩:A8_SpentR)⟩:Ar_)) fun r1=>
 r1
def Iw_ (own:Int) (tick:Int) (life:Int):Int:=
 (bif ((decide (life=0))||(decide ((IntKind.wrap .u64 (18446744073709551615-tick))<life))) then
 own
 else (bif decide (own=0) then
 (IntKind.wrap .u64 (tick+life))
 else (min own (IntKind.wrap .u64 (tick+life)))))
def H_ (s:B_):Ar_:=
 s.x
def A2_ (s:B_) (tick:Int) (kind:Int) (text:Bs):B_:=
 lt (Cu_ s.x.notes (⟨tick,kind,text⟩:NoteR)) fun r=>
 (⟨(⟨s.x.book,s.x.stock,r.1,s.x.seen,s.x.spent⟩:Ar_),s.policy,s.place⟩:B_)
theorem Rc_ (p:BindR->Bool):∀ (t out:List BindR),A6_ p t out=out++t.filter p
  |[],out=>by simp[A6_]
  |x::t,out=>by
    unfold A6_
    cases e:p x with
    |true=>simp[Rc_ p t,e]
    |false=>simp[Rc_ p t,e]
theorem Z2_ (b:BookR) (p:BindR->Bool):D4_ b p=b.binds.filter p:=by simp[D4_,Rc_]
theorem Sj_ {b:BookR} (h:BkOk b) (p:BindR->Bool) (l:List ShopR) (hl:l.length<=8):BkOk ⟨l,b.binds.filter p⟩:=
  ⟨hl,Nat.le_trans (List.length_filter_le ..) h.2.1,fun y hy=>h.2.2 y (List.mem_filter.1 hy).1⟩
theorem Xm_ {b:BookR} {q:Bs} (h:BkOk b):BkOk (El_ b q):=by
  unfold El_ lt
  rw[Z2_]
  exact Sj_ h _ _ h.1
theorem bdrop_ok {b:BookR} {n:Bs} (h:BkOk b):BkOk (D3_ b n).1:=by
  unfold D3_ lt
  refine bt (P:=fun r:BookR×Int=>BkOk r.1) (fun _=>h) fun e=>?_
  simp only[decide_eq_false_iff_not] at e
  dsimp only
  rw[Z2_]
  refine Sj_ h _ _ ?_
  have hs:=h.1
  have hc:=(Qj_ b.shops (idxP (fun z_5:ShopR=>Bi_ z_5 n) b.shops).toNat).length_le
  have :(idxP (fun z_5:ShopR=>Bi_ z_5 n) b.shops+1).toNat=(idxP (fun z_5:ShopR=>Bi_ z_5 n) b.shops).toNat+1:=by omega
  rw[this];omega
theorem Xo_ {b:BookR} {x:BindR} (h:BkOk b):BkOk (C8_ b x).1:=by
  unfold C8_ lt
  refine bt (P:=fun r:BookR×Int=>BkOk r.1) (fun _=>h) fun e=>?_
  simp only[decide_eq_false_iff_not] at e
  have hc:=Qj_ b.binds (Cf_ b x).toNat
  have :(Cf_ b x+1).toNat=(Cf_ b x).toNat+1:=by omega
  dsimp only
  rw[this]
  exact⟨h.1,Nat.le_trans hc.length_le h.2.1,fun y hy=>h.2.2 y (hc.subset hy)⟩
theorem bmake_ok {b:BookR} {x:ShopR} (h:BkOk b):BkOk (B3_ b x).1:=by
  unfold B3_
  refine bt (P:=fun r:BookR×Int=>BkOk r.1) (fun _=>h) fun _=>?_
  refine bt (P:=fun r:BookR×Int=>BkOk r.1) (fun _=>h) fun _=>?_
  refine bt (P:=fun r:BookR×Int=>BkOk r.1) (fun _=>h) fun _=>?_
  refine bt (P:=fun r:BookR×Int=>BkOk r.1) (fun _=>h) fun e=>?_
  simp only[decide_eq_false_iff_not] at e
  exact⟨by simp;omega,h.2⟩
theorem bbind_ok {b:BookR} {x:BindR} (h:BkOk b) (hx:x.key.length<=1000):BkOk (Av_ b x).1:=by
  unfold Av_ lt
  refine bt (P:=fun r:BookR×Int=>BkOk r.1) (fun _=>h) fun _=>?_
  refine bt (P:=fun r:BookR×Int=>BkOk r.1) (fun _=>h) fun _=>?_
  refine bt (P:=fun r:BookR×Int=>BkOk r.1) (fun _=>h) fun _=>?_
  refine bt (P:=fun r:BookR×Int=>BkOk r.1) (fun _=>h) fun _=>?_
  refine bt (P:=fun r:BookR×Int=>BkOk r.1) (fun _=>h) fun _=>?_
  refine bt (P:=fun r:BookR×Int=>BkOk r.1) (fun _=>h) fun e=>?_
  simp only[decide_eq_false_iff_not] at e
  refine⟨h.1,by simp;omega,fun y hy=>?_⟩
  simp at hy
  rcases hy with hy|rfl
  · exact h.2.2 y hy
  · exact hx
theorem Ha_ {s:B_} {t k:Int} {x:Bs} (h:StOk s):StOk (A2_ s t k x)/\(A2_ s t k x).x.stock=s.x.stock:=
  ⟨⟨⟨h.1.1,h.1.2.1,Rr_ h.1.2.2.1,h.1.2.2.2⟩,h.2⟩,rfl⟩
theorem new_ok {p:PolicyR} {k:Int} (h:PoOk p) (hk:0<=k/\k<p.places.length):StOk (Cv_ p k):=by
  have hb:=h.2.2.2.2.2.2 _ (Je_ (xs:=p.places) (k:=k.toNat) (by omega))
  refine⟨⟨⟨by simp[Cv_,lt,Dx_],by simp[Cv_,lt,Dx_],by simp[Cv_,lt,Dx_]⟩,⟨⟨by simp[Cv_,lt,Dx_,Dn_],by simp[Cv_,lt,Dx_,Dn_],by simp[Cv_,lt,Dx_,Dn_]⟩,fun i hi=>?_,?_,?_⟩,by simp[Cv_,lt,Dx_],fun i hi=>?_⟩,h,hk⟩
  · have :(Cv_ p k).x.stock.rises.get i=⟨0,[]⟩:=by
      unfold Cv_ lt Dx_ Dn_
      unfold A16.get
      repeat' split
      all_goals rfl
    rw[this];exact⟨by simp,by simp⟩
  · show 0<=max 0 _
    omega
  · show max 0 (gt p.places k.toNat).bytes<=_
    omega
  · have :(Cv_ p k).x.spent.get i=⟨0,0⟩:=by
      unfold Cv_ lt Dx_ Dn_
      unfold A8.get
      repeat' split
      all_goals rfl
    rw[this];simp
theorem Xb_ (l:List Bs) (s:Bs):(Ez_ l s).length<=l.length+1:=by
  unfold Ez_
  cases decide (s∈l)<;>simp
theorem Kd_ (b:BookR) (n k:Bs) (h:List Pair):∀ (t:List BindR) (q p:List Bs),(Ab_ b n k h t q p).1.length<=q.length+t.length/\(Ab_ b n k h t q p).2.1.length<=p.length+t.length
  |[],q,p=>⟨by simp[Ab_],by simp[Ab_]⟩
  |x::t,q,p=>by
    unfold Ab_ lt lt1
    let Q:List Bs×List Bs×Int->Prop:=fun r=>r.1.length<=q.length+(x::t).length/\r.2.1.length<=p.length+(x::t).length
    have h0:=Kd_ b n k h t q p
    have h1:=Kd_ b n k h t q (Ez_ p x.to')
    have h2:=Kd_ b n k h t (Ez_ q x.to') p
    have h3:=Xb_ p x.to'
    have h4:=Xb_ q x.to'
    refine bt (P:=Q) (fun _=>?_) fun _=>bt (P:=Q) (fun _=>?_) fun _=>?_
    all_goals (show _/\_;simp only[List.length_cons];omega)
theorem Oj_ {b:BookR} (n k:Bs) (h:List Pair) (hb:BkOk b):(As_ b n k h).1.length<=32/\(As_ b n k h).2.1.length<=33:=by
  unfold As_
  let Q:List Bs×List Bs×Int->Prop:=fun r=>r.1.length<=32/\r.2.1.length<=33
  refine bt (P:=Q) (fun _=>⟨by simp,by simp⟩) fun _=>bt (P:=Q) (fun _=>⟨by simp,by simp⟩) fun _=>?_
  have h0:=Kd_ b n k h b.binds [] []
  have :=hb.2.1
  simp only[List.length_nil] at h0
  exact⟨by omega,by omega⟩
def Bu_ (s:B_) (to_:Int) (tick:Int):B_×Int:=
 lt (P_ s.policy s.place to_) fun r=>
 (bif decide (r<0) then
 (s,19)
 else (lt1 (lt (K5_ s.policy tick) fun r1=>
 (bif !decide (((A8.get s.x.spent ((r).toNat)).round)=r1) then
 (⟨r1,0⟩:C0_)
 else (A8.get s.x.spent ((r).toNat)))) (fun x=>
 (bif decide (((gt s.policy.grants ((r).toNat)).budget)<=x.count) then
 (s,19)
 else lt (A2_ (⟨(⟨s.x.book,s.x.stock,s.x.notes,s.x.seen,(A8.set s.x.spent (⟨x.round,(x.count+1)⟩:C0_) ((r).toNat))⟩:Ar_),s.policy,s.place⟩:B_) tick 2 ((gt s.policy.places ((to_).toNat)).name)) fun r2=>
 (r2,0)))))
def B0_ (s:B_) (d:DeedR):B_×Int:=
 (bif decide (d.kind=2) then
 lt (B7_ s.x.stock d.queue) fun r=>
 ((⟨(⟨s.x.book,r.1,s.x.notes,s.x.seen,s.x.spent⟩:Ar_),s.policy,s.place⟩:B_),r.2)
 else lt (Ch_ s.x.stock d.name) fun r1=>
 (bif decide (r1.2=0) then
 lt (El_ s.x.book d.name) fun r2=>
 ((⟨(⟨r2,r1.1,s.x.notes,s.x.seen,s.x.spent⟩:Ar_),s.policy,s.place⟩:B_),r1.2)
 else ((⟨(⟨s.x.book,r1.1,s.x.notes,s.x.seen,s.x.spent⟩:Ar_),s.policy,s.place⟩:B_),r1.2)))
def Bp_ (s:B_) (d:DeedR):B_×Q_×Int:=
 lt (Ad_ s.x.stock d.name) fun r=>
 (bif !r.2 then
 (s,(⟨(⟨(⟨0,[],[],[],[],0,0⟩:Mail),false,false⟩:ItemR),0,0⟩:Q_),10)
 else lt (Bo_ s.x.stock d.name) fun r1=>
 (bif !r1.2.2 then
 (s,(⟨(⟨(⟨0,[],[],[],[],0,0⟩:Mail),false,false⟩:ItemR),0,0⟩:Q_),15)
 else ((⟨(⟨s.x.book,r1.1,s.x.notes,s.x.seen,s.x.spent⟩:Ar_),s.policy,s.place⟩:B_),(⟨r1.2.1,0,0⟩:Q_),0)))
def B9_ (s:B_) (d:DeedR):B_×Int:=
 (bif decide (d.kind=0) then
 (lp0 (lt (A4_ s.policy d.shop.to') fun r=>
 (bif decide (d.shop.sort=4) then
 (bif decide (r<0) then
 .ret (s,10)
 else lt (P_ s.policy s.place r) fun r1=>
 (bif decide (r1<0) then
 .ret (s,11)
 else .fin ()))
 else .fin ())) (
 lt (B3_ s.x.book d.shop) fun r2=>
 ((⟨(⟨r2.1,s.x.stock,s.x.notes,s.x.seen,s.x.spent⟩:Ar_),s.policy,s.place⟩:B_),r2.2)) (fun r=>r))
 else (bif decide (d.kind=1) then
 lt (D3_ s.x.book d.name) fun r3=>
 ((⟨(⟨r3.1,s.x.stock,s.x.notes,s.x.seen,s.x.spent⟩:Ar_),s.policy,s.place⟩:B_),r3.2)
 else (bif decide (d.kind=5) then
 lt (C8_ s.x.book d.bind) fun r4=>
 ((⟨(⟨r4.1,s.x.stock,s.x.notes,s.x.seen,s.x.spent⟩:Ar_),s.policy,s.place⟩:B_),r4.2)
 else lt (Ad_ s.x.stock d.bind.to') fun r5=>
 (lp0 (lt (A4_ s.policy d.bind.to') fun r6=>
 (lt1 ((bif (d.bind.up&&(decide (r6<0))) then
 (d.bind.up&&(decide (r6<0)))
 else ((!d.bind.up)&&(!r5.2)))) (fun v=>
 (bif v then
 .ret (s,10)
 else (bif (d.bind.up&&(!(Ck_ s.policy s.place r6))) then
 .ret (s,11)
 else .fin ()))))) (
 lt (Av_ s.x.book d.bind) fun r7=>
 ((⟨(⟨r7.1,s.x.stock,s.x.notes,s.x.seen,s.x.spent⟩:Ar_),s.policy,s.place⟩:B_),r7.2)) (fun r=>r)))))
theorem lt1E {σ β:Type} {P:β->Prop} {o:σ} {f:σ->β} (I:σ->Prop) (ho:I o) (hf:∀ a,I a->P (f a)):P (lt1 o f):=hf _ ho
theorem Xi_ {s:B_} {to' t:Int} (h:StOk s):StOk (Bu_ s to' t).1/\(Bu_ s to' t).1.x.stock=s.x.stock:=by
  unfold Bu_ lt
  let Q:B_×Int->Prop:=fun r=>StOk r.1/\r.1.x.stock=s.x.stock
  have hn:∀ e,Q (s,e):=fun e=>⟨h,rfl⟩
  refine bt (P:=Q) (fun _=>hn _) fun e=>?_
  simp only[decide_eq_false_iff_not] at e
  have hg:=Q4_ h.2.1 s.place to' (by omega)
  have hb:=Q3_ s.policy s.place to'
  have hl:=h.2.1.2.2.2.2.1
  have hu:=h.1.2.2.2
  refine lt1E (P:=Q) (fun x:C0_=>0<=x.count) ?_ fun x hx=>?_
  · refine bt (P:=fun x:C0_=>0<=x.count) (fun _=>?_) fun _=>?_
    · exact Int.le_refl _
    · exact (hu _ (by omega)).1
  · refine bt (P:=Q) (fun _=>hn _) fun e2=>?_
    simp only[decide_eq_false_iff_not] at e2
    refine Ha_ (s:=⟨⟨s.x.book,s.x.stock,s.x.notes,s.x.seen,_⟩,s.policy,s.place⟩) ⟨⟨h.1.1,h.1.2.1,h.1.2.2.1,fun i hi=>?_⟩,h.2⟩
    show 0<=((s.x.spent.set _ _).get i).count/\_
    dsimp only
    rw[A8.get_set _ _ _ _ (by omega) hi]
    split
    · exact⟨by show 0<=x.count+1;omega,by show x.count+1<=16;omega⟩
    · exact hu i hi
theorem Iv_ {s:B_} {b:BookR} (h:StOk s) (hb:BkOk b):StOk ⟨⟨b,s.x.stock,s.x.notes,s.x.seen,s.x.spent⟩,s.policy,s.place⟩:=⟨⟨hb,h.1.2⟩,h.2⟩
theorem Ay_ {s:B_} {k:D_} (h:StOk s) (hk:StkOk k):StOk ⟨⟨s.x.book,k,s.x.notes,s.x.seen,s.x.spent⟩,s.policy,s.place⟩:=⟨⟨h.1.1,hk,h.1.2.2⟩,h.2⟩
theorem queues_ok {s:B_} {d:DeedR} (h:StOk s):StOk (B0_ s d).1:=by
  unfold B0_ lt
  let Q:B_×Int->Prop:=fun r=>StOk r.1
  refine bt (P:=Q) (fun _=>Ay_ h (Re_ h.1.2.1)) fun _=>?_
  refine bt (P:=Q) (fun _=>?_) fun _=>Ay_ h (Rb_ h.1.2.1)
  exact Iv_ (s:=⟨⟨s.x.book,_,s.x.notes,s.x.seen,s.x.spent⟩,s.policy,s.place⟩) (Ay_ h (Rb_ h.1.2.1)) (Xm_ h.1.1)
theorem lend_ok {s:B_} {d:DeedR} (h:StOk s):StOk (Bp_ s d).1/\MlOk (Bp_ s d).2.1.item.mail:=by
  unfold Bp_ lt
  let Q:B_×Q_×Int->Prop:=fun r=>StOk r.1/\MlOk r.2.1.item.mail
  refine bt (P:=Q) (fun _=>⟨h,Fu_⟩) fun _=>?_
  refine bt (P:=Q) (fun _=>⟨h,Fu_⟩) fun _=>?_
  have :=Wk_ (n:=d.name) h.1.2.1
  exact⟨Ay_ h this.1,this.2⟩
theorem shops_ok {s:B_} {d:DeedR} (h:StOk s) (hd:DdOk d):StOk (B9_ s d).1:=by
  unfold B9_ lt
  let Q:B_×Int->Prop:=fun r=>StOk r.1
  have hn:∀ e,Q (s,e):=fun e=>h
  refine bt (P:=Q) (fun _=>?_) fun _=>?_
  · refine lp0E (P:=Q) (fun _=>True) ?_ fun _=>Iv_ h (bmake_ok h.1.1)
    refine bt (P:=LoP _ _) (fun _=>?_) fun _=>trivial
    refine bt (P:=LoP _ _) (fun _=>hn _) fun _=>?_
    exact bt (P:=LoP _ _) (fun _=>hn _) fun _=>trivial
  · refine bt (P:=Q) (fun _=>Iv_ h (bdrop_ok h.1.1)) fun _=>?_
    refine bt (P:=Q) (fun _=>Iv_ h (Xo_ h.1.1)) fun _=>?_
    refine lp0E (P:=Q) (fun _=>True) ?_ fun _=>Iv_ h (bbind_ok h.1.1 hd.1)
    refine lt1E (P:=LoP _ _) (fun _=>True) trivial fun v _=>?_
    refine bt (P:=LoP _ _) (fun _=>hn _) fun _=>?_
    exact bt (P:=LoP _ _) (fun _=>hn _) fun _=>trivial
end Go.SW.V
namespace Go.SW.V
open Go.SW
theorem Jb_ (n:Int):0<=IntKind.wrap .u8 n:=by
  simp only[IntKind.wrap,IntKind.bits,IntKind.signed];simp;omega
def Aj_ (s:B_) (m:Mail) (tick:Int) (r:(List Bs)×(List Bs)×Int) (gone:List OutR):List Bs->Int->B_->B_×(List OutR)×Int×Int
  |[],n1,x1=>(x1,gone,n1,0)
  |x3::t,n1,x1=>lt (A4_ x1.policy x3) fun r4=>
 (lp1 ((bif decide ((((Ej_ s.x.book.shops m.shop).getD ShopR.zero).sort)=4) then
 lt (Bu_ x1 r4 tick) fun r5=>
 (bif !decide (r5.2=0) then
 .ret (s,[],0,r5.2)
 else .fin r5.1)
 else .fin x1)) (fun x2=>
 lt (A1_ x2.x.stock r4 (⟨0,m.shop,m.key,m.head,m.body,m.due,m.hops⟩:Mail)) fun r6=>
 (bif !decide (r6.2=0) then
 (s,[],0,r6.2)
 else Aj_ s m tick r gone t (n1+1) (⟨(⟨x2.x.book,r6.1,x2.x.notes,x2.x.seen,x2.x.spent⟩:Ar_),x2.policy,x2.place⟩:B_))) (fun r=>r))
def O_ (s:B_) (m:Mail) (tick:Int) (r:(List Bs)×(List Bs)×Int):List Bs->List OutR->Int->B_->B_×(List OutR)×Int×Int
  |[],gone,n,x=>Aj_ s m tick r gone r.2.1 n x
  |x4::t1,gone,n,x=>lt (Ad_ x.x.stock x4) fun r1=>
 (bif !r1.2 then
 O_ s m tick r t1 gone n x
 else lt (Iw_ m.due tick r1.1.life) fun r2=>
 lt (Am_ x.x.stock x4 (⟨0,m.shop,m.key,m.head,m.body,r2,m.hops⟩:Mail)) fun r3=>
 (bif !decide (r3.2.2.2=0) then
 (s,[],0,r3.2.2.2)
 else (bif !decide (r3.2.2.1.shop=[]) then
 O_ s m tick r t1 (gone++[(⟨x4,r3.2.2.1⟩:OutR)]) (n+1) (⟨(⟨x.x.book,r3.1,x.x.notes,x.x.seen,x.x.spent⟩:Ar_),x.policy,x.place⟩:B_)
 else O_ s m tick r t1 gone (n+1) (⟨(⟨x.x.book,r3.1,x.x.notes,x.x.seen,x.x.spent⟩:Ar_),x.policy,x.place⟩:B_))))
def J_ (s:B_) (m:Mail) (tick:Int):B_×(List OutR)×Int×Int:=
 lt (As_ s.x.book m.shop m.key m.head) fun r=>
 (bif !decide (r.2.2=0) then
 (s,[],0,r.2.2)
 else O_ s m tick r r.1 [] 0 s)
def M2_ (W:Nat) (r:B_×List OutR×Int×Int):Prop:=StOk r.1/\(∀ g∈r.2.1,MlOk g.mail)/\(r.2.2.2=0->wtk r.1.x.stock+wto r.2.1<=W)
theorem Nj_ {W:Nat} {s:B_} {e:Int} (h:StOk s) (he:e≠0):M2_ W (s,[],0,e):=⟨h,(fun _ hg=>by cases hg),fun q=>(he q).elim⟩
theorem send1 {s:B_} {m:Mail} {tick:Int} {r:List Bs×List Bs×Int} {gone:List OutR} {W:Nat} (hs:StOk s) (hg:∀ g∈gone,MlOk g.mail):∀ (t:List Bs) (n:Int) (x:B_),StOk x->wtk x.x.stock+wto gone<=W->M2_ W (Aj_ s m tick r gone t n x)
  |[],n,x,hx,hw=>⟨hx,hg,fun _=>hw⟩
  |q::t,n,x,hx,hw=>by
    unfold Aj_ lt
    refine lp1E (P:=M2_ W) (fun y:B_=>StOk y/\y.x.stock=x.x.stock) ?_ fun y hy=>?_
    · refine bt (P:=LoP _ _) (fun _=>?_) fun _=>⟨hx,rfl⟩
      refine bt (P:=LoP _ _) (fun e=>Nj_ hs ?_) fun _=>Xi_ hx
      simpa using e
    · have hr:=S5_ (p:=A4_ x.policy q) (m:=⟨0,m.shop,m.key,m.head,m.body,m.due,m.hops⟩) hy.1.stk
      refine bt (P:=M2_ W) (fun e=>Nj_ hs (by simpa using e)) fun _=>?_
      refine send1 hs hg t _ _ (Ay_ hy.1 hr.1) ?_
      have :wtk (A1_ y.x.stock (A4_ x.policy q) ⟨0,m.shop,m.key,m.head,m.body,m.due,m.hops⟩).1=wtk x.x.stock:=by
        unfold wtk;rw[hr.2,hy.2]
      show wtk (A1_ y.x.stock (A4_ x.policy q) ⟨0,m.shop,m.key,m.head,m.body,m.due,m.hops⟩).1+_<=W
      omega
theorem wto_app (a b:List OutR):wto (a++b)=wto a+wto b:=by simp[wto]
theorem send0 {s:B_} {m:Mail} {tick:Int} {r:List Bs×List Bs×Int} (hs:StOk s) (h0:0<=m.hops):∀ (t:List Bs) (gone:List OutR) (n:Int) (x:B_),StOk x->(∀ g∈gone,MlOk g.mail)->M2_ (wtk x.x.stock+wto gone+t.length*wtm m) (O_ s m tick r t gone n x)
  |[],gone,n,x,hx,hg=>by
    unfold O_
    exact send1 hs hg r.2.1 n x hx (by simp)
  |q::t,gone,n,x,hx,hg=>by
    unfold O_ lt
    have hmono:∀ {W W':Nat} {r:B_×List OutR×Int×Int},W<=W'->M2_ W r->M2_ W' r:=fun hw h=>⟨h.1,h.2.1,fun e=>Nat.le_trans (h.2.2 e) hw⟩
    have hl:(q::t).length*wtm m=t.length*wtm m+wtm m:=by rw[List.length_cons,Nat.succ_mul]
    refine bt (P:=M2_ _) (fun _=>hmono (by omega) (send0 hs h0 t gone n x hx hg)) fun _=>?_
    generalize hd:Iw_ m.due tick (Ad_ x.x.stock q).1.life=due
    have hp:=Rf_ (s:=x.x.stock) (n:=q) (m:=⟨0,m.shop,m.key,m.head,m.body,due,m.hops⟩) hx.stk h0
    dsimp only
    generalize hv:Am_ x.x.stock q ⟨0,m.shop,m.key,m.head,m.body,due,m.hops⟩=v at hp ⊢
    obtain⟨p1,p2,p3⟩:=hp
    have he:wtm ⟨0,m.shop,m.key,m.head,m.body,due,m.hops⟩=wtm m:=rfl
    rw[he] at p3
    refine bt (P:=M2_ _) (fun e=>Nj_ hs (by simpa using e)) fun e=>?_
    have hw:=(p3 (by simpa using e)).2
    refine bt (P:=M2_ _) (fun e2=>?_) fun e2=>?_
    · refine hmono ?_ (send0 hs h0 t (gone++[⟨q,v.2.2.1⟩]) (n+1) ⟨⟨x.x.book,v.1,x.x.notes,x.x.seen,x.x.spent⟩,x.policy,x.place⟩ (Ay_ hx p1) ?_)
      · rw[wto_app]
        have :wt1 v.2.2.1=wto [(⟨q,v.2.2.1⟩:OutR)]:=by
          have :decide (v.2.2.1.shop=[])=false:=by simpa using e2
          simp[wt1,wto,this]
        show wtk v.1+_+_<=_
        omega
      · intro g hg'
        rcases List.mem_append.1 hg' with q|q
        · exact hg g q
        · rw[List.mem_singleton.1 q];exact p2
    · refine hmono ?_ (send0 hs h0 t gone (n+1) ⟨⟨x.x.book,v.1,x.x.notes,x.x.seen,x.x.spent⟩,x.policy,x.place⟩ (Ay_ hx p1) hg)
      show wtk v.1+_+_<=_
      omega
theorem I9_ {s:B_} {m:Mail} {tick:Int} (hs:StOk s) (h0:0<=m.hops):M2_ (wtk s.x.stock+32*wtm m) (J_ s m tick):=by
  unfold J_ lt
  refine bt (P:=M2_ _) (fun e=>Nj_ hs (by simpa using e)) fun _=>?_
  have hl:=(Oj_ m.shop m.key m.head hs.1.1).1
  have h:=send0 (tick:=tick) (r:=As_ s.x.book m.shop m.key m.head) hs h0 (As_ s.x.book m.shop m.key m.head).1 [] 0 s hs (fun _ hg=>by cases hg)
  refine⟨h.1,h.2.1,fun e=>Nat.le_trans (h.2.2 e) ?_⟩
  have :=Nat.mul_le_mul_right (wtm m) hl
  simp only[wto,List.map_nil,List.sum_nil]
  omega
theorem Ue_ {s:B_} {m:Mail} {tick:Int} {r:List Bs×List Bs×Int} {gone:List OutR} {k:Nat} (hk:gone.length<=k):∀ (t:List Bs) (n:Int) (x:B_),(Aj_ s m tick r gone t n x).2.1.length<=k
  |[],n,x=>hk
  |q::t,n,x=>by
    unfold Aj_ lt
    let Q:B_×List OutR×Int×Int->Prop:=fun r=>r.2.1.length<=k
    refine lp1E (P:=Q) (fun _=>True) ?_ fun y _=>?_
    · refine bt (P:=LoP _ _) (fun _=>?_) fun _=>trivial
      exact bt (P:=LoP _ _) (fun _=>Nat.zero_le _) fun _=>trivial
    · exact bt (P:=Q) (fun _=>Nat.zero_le _) fun _=>Ue_ hk t _ _
theorem L6_ {s:B_} {m:Mail} {tick:Int} {r:List Bs×List Bs×Int} {k:Nat}:∀ (t:List Bs) (gone:List OutR) (n:Int) (x:B_),gone.length+t.length<=k->(O_ s m tick r t gone n x).2.1.length<=k
  |[],gone,n,x,hk=>by
    unfold O_
    exact Ue_ (by simpa using hk) _ _ _
  |q::t,gone,n,x,hk=>by
    simp only[List.length_cons] at hk
    unfold O_ lt
    let Q:B_×List OutR×Int×Int->Prop:=fun r=>r.2.1.length<=k
    refine bt (P:=Q) (fun _=>L6_ t _ _ _ (by omega)) fun _=>?_
    refine bt (P:=Q) (fun _=>Nat.zero_le _) fun _=>?_
    exact bt (P:=Q) (fun _=>L6_ t _ _ _ (by simp;omega)) fun _=>L6_ t _ _ _ (by omega)
theorem I8_ {s:B_} {m:Mail} {tick:Int} (hs:StOk s):(J_ s m tick).2.1.length<=32:=by
  unfold J_ lt
  let Q:B_×List OutR×Int×Int->Prop:=fun r=>r.2.1.length<=32
  refine bt (P:=Q) (fun _=>Nat.zero_le _) fun _=>?_
  have hl:=(Oj_ m.shop m.key m.head hs.1.1).1
  exact L6_ _ _ _ _ (by simpa using hl)
theorem Yl_ (m:Mail):1<=wtm m/\wtm m<=39135393:=by
  unfold wtm
  refine⟨Nat.one_le_pow _ _ (by decide),?_⟩
  have :33 ^ (5-m.hops.toNat)<=33 ^ 5:=Nat.pow_le_pow_right (by decide) (by omega)
  simpa using this
theorem wto_r:∀ l:List OutR,l.length<=wto l/\wto l<=39135393*l.length
  |[]=>⟨Nat.zero_le _,by simp[wto]⟩
  |x::l=>by
    have h:=wto_r l
    have hx:=Yl_ x.mail
    simp only[wto,List.map_cons,List.sum_cons,List.length_cons] at h ⊢
    omega
theorem wtl_r:∀ l:List ItemR,wtl l<=39135393*l.length
  |[]=>by simp[wtl]
  |x::l=>by
    have h:=wtl_r l
    have hx:=Yl_ x.mail
    simp only[wtl,List.map_cons,List.sum_cons,List.length_cons] at h ⊢
    omega
theorem wtr_r:∀ l:List RowR,(∀ r∈l,LnOk r.l)->(l.map fun r=>wtl r.l.items).sum<=2504665152*l.length
  |[],_=>by simp
  |x::l,h=>by
    have h1:=wtr_r l fun r hr=>h r (List.mem_cons_of_mem _ hr)
    have h2:=wtl_r x.l.items
    have h3:=(h x (List.mem_cons_self ..)).1
    simp only[List.map_cons,List.sum_cons,List.length_cons]
    omega
theorem wtk_r {s:D_} (h:StkOk s):wtk s<=20037321216:=by
  have h1:=wtr_r s.rows h.1.2.1
  have h2:=h.1.1
  unfold wtk;omega
theorem Nm_ {l:List OutR} (h:0<l.length):wto (l.drop 1)+wtm (gt l 0).mail=wto l:=by
  cases l with
  |nil=>cases h
  |cons a r=>simp[wto,gt];omega
def Nn_ (gone:List OutR) (lost:Int) (x:B_):Prop:=StOk x/\(∀ g∈gone,MlOk g.mail)/\0<=lost/\lost+((wtk x.x.stock+wto gone:Nat):Int)<=50000000000
theorem Yv_ {gone:List OutR} {x:B_} (h:StOk x) (hg:gone.length<=600/\∀ g∈gone,MlOk g.mail):Nn_ gone 0 x:=by
  have h1:=wtk_r h.stk
  have h2:=(wto_r gone).2
  refine⟨h,hg.2,Int.le_refl _,?_⟩
  have :=hg.1
  omega
section
variable {gone more:List OutR} {lost:Int} {x y:B_} {f:Nat} {m:Mail} {e:Int}
theorem Pn_ (hn:0<gone.length) (h:wtk x.x.stock+wto gone<f+1):wtk x.x.stock+wto (gone.drop 1)<f:=by
  have :=Nm_ hn;have :=(Yl_ (gt gone 0).mail).1;omega
theorem Nq_ (h:Nn_ gone lost x) (hn:0<gone.length):Nn_ (gone.drop 1) lost x:=by
  have h1:=Nm_ hn
  exact⟨h.1,fun g hg=>h.2.1 g (List.mem_of_mem_drop hg),h.2.2.1,by have :=h.2.2.2;omega⟩
theorem Sk_ (hs:y.x.stock=x.x.stock) (hn:0<gone.length) (h:wtk x.x.stock+wto gone<f+1):wtk y.x.stock+wto (gone.drop 1)<f:=by
  rw[hs];exact Pn_ hn h
theorem Nr_ (h:Nn_ gone lost x) (hy:StOk y) (hs:y.x.stock=x.x.stock) (hn:0<gone.length):Nn_ (gone.drop 1) (lost+1) y:=by
  have h1:=Nm_ hn
  have h2:=(Yl_ (gt gone 0).mail).1
  have h3:=h.2.2.2
  exact⟨hy,fun g hg=>h.2.1 g (List.mem_of_mem_drop hg),by have :=h.2.2.1;omega,by rw[hs];omega⟩
theorem bury_w {r:Mail} (hr:r=G_ (gt gone 0).mail) (hm:MlOk (gt gone 0).mail) (h4:¬4<IntKind.wrap .u8 (r.hops+1)) (hmm:m.hops=IntKind.wrap .u8 (r.hops+1)):33*wtm m=wtm (gt gone 0).mail:=by
  subst hr
  have h1:=hm.2.1
  have h2:=hm.2.2.1
  have hw:IntKind.wrap .u8 ((gt gone 0).mail.hops+1)=(gt gone 0).mail.hops+1:=by
    simp only[IntKind.wrap,IntKind.bits,IntKind.signed];simp;omega
  simp only[G_] at h4 hmm
  rw[hw] at h4 hmm
  unfold wtm
  rw[hmm]
  have :5-(gt gone 0).mail.hops.toNat=(5-((gt gone 0).mail.hops+1).toNat)+1:=by omega
  rw[this,Nat.pow_succ,Nat.mul_comm]
theorem Po_ {r:Mail} (hn:0<gone.length) (h:wtk x.x.stock+wto gone<f+1) (hr:r=G_ (gt gone 0).mail) (hm:MlOk (gt gone 0).mail) (h4:¬4<IntKind.wrap .u8 (r.hops+1)) (hw:e=0->wtk y.x.stock+wto more<=wtk x.x.stock+32*wtm m) (hmm:m.hops=IntKind.wrap .u8 (r.hops+1)) (he:e=0):wtk y.x.stock+wto ((gone++more).drop 1)<f:=by
  have h1:=Nm_ hn
  have h2:=bury_w (m:=m) hr hm h4 hmm
  have h3:=hw he
  have h5:(gone++more).drop 1=gone.drop 1++more:=by cases gone with
    |nil=>cases hn
    |cons a r=>simp
  have h6:=(Yl_ m).1
  rw[h5,wto_app];omega
theorem Ns_ {r:Mail} (h:Nn_ gone lost x) (hy:StOk y) (hg:∀ g∈more,MlOk g.mail) (hn:0<gone.length) (hr:r=G_ (gt gone 0).mail) (hm:MlOk (gt gone 0).mail) (h4:¬4<IntKind.wrap .u8 (r.hops+1)) (hw:e=0->wtk y.x.stock+wto more<=wtk x.x.stock+32*wtm m) (hmm:m.hops=IntKind.wrap .u8 (r.hops+1)) (he:e=0):Nn_ ((gone++more).drop 1) lost y:=by
  have h1:=Po_ (f:=wtk x.x.stock+wto gone) hn (by omega) hr hm h4 hw hmm he
  refine⟨hy,fun g hg'=>?_,h.2.2.1,by have :=h.2.2.2;omega⟩
  rcases List.mem_append.1 (List.mem_of_mem_drop hg') with q|q
  · exact h.2.1 g q
  · exact hg g q
theorem app_fit (h:Nn_ gone lost x) (hw:e=0->wtk y.x.stock+wto more<=wtk x.x.stock+32*wtm m) (he:e=0):gone.length+more.length<=200000000000:=by
  have h1:=(wto_r gone).1
  have h2:=(wto_r more).1
  have h3:=(Yl_ m).2
  have h4:=hw he
  have h5:=h.2.2.2
  have h6:=h.2.2.1
  omega
end
def nik (s:D_):Nat:=(s.rows.map fun r=>r.l.items.length).sum
theorem at_self {s:D_} (h:StkOk s) {k:Nat} (hk:k<s.rows.length):I_ s (gt s.rows k).q.name=k:=by
  have h0:0<=I_ s (gt s.rows k).q.name:=Int.not_lt.1 fun q=>at_neg q _ (Je_ hk) rfl
  have hb:=at_b s (gt s.rows k).q.name
  have ha:=at_n h0
  obtain⟨j,hj⟩:∃ j:Nat,I_ s (gt s.rows k).q.name=j:=⟨_,(Int.toNat_of_nonneg h0).symm⟩
  rw[hj] at ha hb ⊢
  simp only[Int.toNat_natCast] at ha
  have hjl:j<s.rows.length:=by omega
  have hnd:∀ i q:Nat,(hi:i<s.rows.length)->(hq:q<s.rows.length)->i<q->(gt s.rows i).q.name≠(gt s.rows q).q.name:=fun i q hi hq hiq=>by
    have h1:=List.pairwise_iff_getElem.1 h.1.2.2 i q (by simpa using hi) (by simpa using hq) hiq
    rw[List.getElem_map,List.getElem_map] at h1
    have e1:gt s.rows i=s.rows[i]:=by simp[gt,hi]
    have e2:gt s.rows q=s.rows[q]:=by simp[gt,hq]
    rw[e1,e2];exact h1
  rcases Nat.lt_trichotomy j k with q|q|q
  · exact absurd ha (hnd j k hjl hk q)
  · rw[q]
  · exact absurd ha.symm (hnd k j hk hjl q)
theorem S3_ {t:Int}:∀ (l:List RowR),(Ai_ t l).2.2=true->∃ k j,k<l.length/\j<(gt l k).l.items.length/\(Ai_ t l).1=(gt l k).q.name/\(Ai_ t l).2.1=(gt (gt l k).l.items j).mail
  |[],h=>by cases h
  |x::l,h=>by
    unfold Ai_ lt at h ⊢
    dsimp only at h ⊢
    cases e:(Dt_ x.l t).2 with
    |true=>
      have hb:=Ve_ x.l t
      have hl:∃ j:Nat,j<x.l.items.length/\(Dt_ x.l t).1=(gt x.l.items j).mail:=by
        unfold Dt_ lt B6_ lt at e ⊢
        dsimp only at e ⊢
        cases e1:decide (Dc_ x.l t<0) with
        |true=>rw[e1] at e;cases e
        |false=>
          simp only[decide_eq_false_iff_not] at e1
          exact⟨(Dc_ x.l t).toNat,by omega,rfl⟩
      obtain⟨j,hj,he⟩:=hl
      exact⟨0,j,by simp,hj,rfl,he⟩
    |false=>
      rw[e] at h
      obtain⟨k,j,h1,h2,h3,h4⟩:=S3_ l h
      have hg:gt (x::l) (k+1)=gt l k:=by simp[gt]
      exact⟨k+1,j,by simpa using h1,by rw[hg];exact h2,by rw[hg];exact h3,by rw[hg];exact h4⟩
theorem late_n {s:D_} {t:Int} (h:StkOk s) (hl:(R_ s t).2.2=true):nik (X_ s (R_ s t).1 (R_ s t).2.1.id).1+1=nik s:=by
  obtain⟨k,j,h1,h2,h3,h4⟩:=S3_ s.rows hl
  have h3':(R_ s t).1=_:=h3
  have h4':(R_ s t).2.1=_:=h4
  rw[h3',h4']
  unfold X_ lt
  rw[at_self h h1]
  have hk:decide ((k:Int)<0)=false:=by simp
  have hln:=RwsOk.at h.1 (getG h1)
  have hrm:(U_ (gt s.rows k).l (gt (gt s.rows k).l.items j).mail.id).1.items.length+1=(gt s.rows k).l.items.length:=by
    unfold U_ lt
    rw[Rp_ hln h2]
    dsimp only
    have hj:decide ((j:Int)<0)=false:=by simp
    rw[hj]
    simp only[cond_false,List.flatten_cons,List.flatten_nil,List.append_nil,List.length_append,List.length_take,List.length_drop]
    omega
  have hs:=Vu_ (fun r:RowR=>r.l.items.length) s.rows k ⟨(gt s.rows k).q,(U_ (gt s.rows k).l (gt (gt s.rows k).l.items j).mail.id).1⟩ h1
  dsimp only at hs ⊢
  rw[hk]
  unfold nik
  simp only[cond_false,Int.toNat_natCast,Y_]
  omega
theorem nik_r0:∀ l:List RowR,(∀ r∈l,LnOk r.l)->(l.map fun r=>r.l.items.length).sum<=64*l.length
  |[],_=>by simp
  |x::l,h=>by
    have h1:=nik_r0 l fun r hr=>h r (List.mem_cons_of_mem _ hr)
    have h3:=(h x (List.mem_cons_self ..)).1
    simp only[List.map_cons,List.sum_cons,List.length_cons]
    omega
theorem nik_r {s:D_} (h:StkOk s):nik s<=512:=by
  have h1:=nik_r0 s.rows h.1.2.1
  have h2:=h.1.1
  unfold nik;omega
theorem Bt_ {s:B_} {a:A16_u64} (h:StOk s):StOk ⟨⟨s.x.book,s.x.stock,s.x.notes,a,s.x.spent⟩,s.policy,s.place⟩:=h
theorem Sn_ (m:Mail):(G_ m).head.length=m.head.length/\(G_ m).key.length=m.key.length/\(G_ m).hops=m.hops:=⟨rfl,rfl,rfl⟩
theorem st_nts {s:B_} (h:StOk s):s.x.notes.kept.length<=1000:=Nat.le_trans h.1.2.2.1 (by decide)
theorem Vb_ {k:D_} {t:Int} {r:Bs×Mail×Bool} {r1:D_×ItemR×Int} {f:Nat} (h:StkOk k) (hr:R_ k t=r) (h2:r.2.2=true) (hr1:X_ k r.1 r.2.1.id=r1) (hf:nik k<f+1):nik r1.1<f:=by
  subst hr;subst hr1
  have :=late_n h h2;omega
theorem Va_ {k:D_} {t:Int} {r:Bs×Mail×Bool} {r1:D_×ItemR×Int} {gone:List OutR} {g:OutR} (h:StkOk k) (hr:R_ k t=r) (h2:r.2.2=true) (hr1:X_ k r.1 r.2.1.id=r1) (hf:gone.length+nik k<=512):(gone++[g]).length+nik r1.1<=512:=by
  subst hr;subst hr1
  have :=late_n h h2
  simp only[List.length_append,List.length_cons,List.length_nil];omega
def A9_ (tick:Int):Nat->List OutR->Int->B_->B_×Int
  |0,_,_,_=>default
  | f2+1,gone1,lost,x=>(bif decide (0<(gone1.length:Int)) then
 lt (Ad_ x.x.stock ((gt gone1 0).queue)) fun r=>
 (bif decide (((r.1).dead)=[]) then
 A9_ tick f2 (gone1.drop 1) lost x
 else lt (G_ ((gt gone1 0).mail)) fun r1=>
 lt (J_ x (⟨r1.id,(r.1).dead,r1.key,r1.head,r1.body,0,(IntKind.wrap .u8 (r1.hops+1))⟩:Mail) tick) fun r2=>
 (bif ((decide (4<(IntKind.wrap .u8 (r1.hops+1))))||(!decide (r2.2.2.2=0))) then
 lt (A2_ x tick 1 ((gt gone1 0).queue)) fun r3=>
 A9_ tick f2 (gone1.drop 1) (lost+1) r3
 else A9_ tick f2 ((gone1++r2.2.1).drop 1) lost r2.1))
 else (x,lost))
def At_ (s:B_) (gone:List OutR) (tick:Int):B_×Int:=
 A9_ tick (wtk s.x.stock+wto gone+1) gone 0 s
def Bf_ (s:B_) (d:DeedR):B_×Q_×Int:=
 lt (Cg_ s.x.stock d.name d.id) fun r=>
 (bif !decide (r.2=0) then
 (s,(⟨(⟨(⟨0,[],[],[],[],0,0⟩:Mail),false,false⟩:ItemR),0,0⟩:Q_),r.2)
 else (bif decide (d.how=2) then
 ((⟨(⟨s.x.book,r.1,s.x.notes,s.x.seen,s.x.spent⟩:Ar_),s.policy,s.place⟩:B_),(⟨(⟨(⟨0,[],[],[],[],0,0⟩:Mail),false,false⟩:ItemR),0,0⟩:Q_),0)
 else lt (X_ s.x.stock d.name d.id) fun r1=>
 (bif decide (d.how=1) then
 (((At_ (⟨(⟨s.x.book,r1.1,s.x.notes,s.x.seen,s.x.spent⟩:Ar_),s.policy,s.place⟩:B_) [(⟨d.name,r1.2.1.mail⟩:OutR)] d.tick).1),(⟨(⟨(⟨0,[],[],[],[],0,0⟩:Mail),false,false⟩:ItemR),0,(At_ (⟨(⟨s.x.book,r1.1,s.x.notes,s.x.seen,s.x.spent⟩:Ar_),s.policy,s.place⟩:B_) [(⟨d.name,r1.2.1.mail⟩:OutR)] d.tick).2⟩:Q_),0)
 else ((⟨(⟨s.x.book,r1.1,s.x.notes,s.x.seen,s.x.spent⟩:Ar_),s.policy,s.place⟩:B_),(⟨(⟨(⟨0,[],[],[],[],0,0⟩:Mail),false,false⟩:ItemR),0,0⟩:Q_),0))))
def B4_ (tick:Int):Nat->List OutR->B_->B_×Q_
  |0,_,_=>default
  |f2+1,gone,x=>lt (R_ x.x.stock tick) fun r=>
 (bif !r.2.2 then
 (((At_ x gone tick).1),(⟨(⟨(⟨0,[],[],[],[],0,0⟩:Mail),false,false⟩:ItemR),(gone.length:Int),(At_ x gone tick).2⟩:Q_))
 else lt (X_ x.x.stock r.1 r.2.1.id) fun r1=>
 B4_ tick f2 (gone++[(⟨r.1,r.2.1⟩:OutR)]) (⟨(⟨x.x.book,r1.1,x.x.notes,x.x.seen,x.x.spent⟩:Ar_),x.policy,x.place⟩:B_))
def Dj_ (s:B_) (tick:Int):B_×Q_:=
 B4_ tick (nik s.x.stock+1) [] s
def Ap_ (s:B_) (d:DeedR):B_×Q_×Int:=
 (bif decide ((s.policy.places.length:Int)<=d.frm) then
 (s,(⟨(⟨(⟨0,[],[],[],[],0,0⟩:Mail),false,false⟩:ItemR),0,0⟩:Q_),10)
 else (bif ((!(Ck_ s.policy d.frm s.place))&&(decide ((P_ s.policy d.frm s.place)<0))) then
 (s,(⟨(⟨(⟨0,[],[],[],[],0,0⟩:Mail),false,false⟩:ItemR),0,0⟩:Q_),11)
 else (bif decide (d.number<=(A16.get s.x.seen ((d.frm).toNat))) then
 (s,(⟨(⟨(⟨0,[],[],[],[],0,0⟩:Mail),false,false⟩:ItemR),0,0⟩:Q_),13)
 else (lt1 ((bif !(Ck_ s.policy d.frm s.place) then
 lt (A2_ (⟨(⟨s.x.book,s.x.stock,s.x.notes,(A16.set s.x.seen d.number ((d.frm).toNat)),s.x.spent⟩:Ar_),s.policy,s.place⟩:B_) d.tick 2 ((gt s.policy.places ((d.frm).toNat)).name)) fun r=>
 r
 else (⟨(⟨s.x.book,s.x.stock,s.x.notes,(A16.set s.x.seen d.number ((d.frm).toNat)),s.x.spent⟩:Ar_),s.policy,s.place⟩:B_))) (fun x=>
 lt (G_ d.mail) fun r1=>
 lt (J_ x (⟨r1.id,r1.shop,r1.key,r1.head,r1.body,r1.due,(IntKind.wrap .u8 (r1.hops+1))⟩:Mail) d.tick) fun r2=>
 (bif ((decide (4<(IntKind.wrap .u8 (r1.hops+1))))||(!decide (r2.2.2.2=0))) then
 lt (A2_ x d.tick 1 r1.shop) fun r3=>
 (r3,(⟨(⟨(⟨0,[],[],[],[],0,0⟩:Mail),false,false⟩:ItemR),0,1⟩:Q_),0)
 else (((At_ r2.1 r2.2.1 d.tick).1),(⟨(⟨(⟨0,[],[],[],[],0,0⟩:Mail),false,false⟩:ItemR),r2.2.2.1,(At_ r2.1 r2.2.1 d.tick).2⟩:Q_),0)))))))
def Ce_ (s:B_) (d:DeedR):B_×Q_×Int:=
 lt (G_ d.mail) fun r=>
 lt (J_ s r d.tick) fun r1=>
 (bif !decide (r1.2.2.2=0) then
 (s,(⟨(⟨(⟨0,[],[],[],[],0,0⟩:Mail),false,false⟩:ItemR),0,0⟩:Q_),r1.2.2.2)
 else (((At_ (r1.1) r1.2.1 d.tick).1),(⟨(⟨(⟨0,[],[],[],[],0,0⟩:Mail),false,false⟩:ItemR),r1.2.2.1,(At_ (r1.1) r1.2.1 d.tick).2⟩:Q_),0))
def K_ (s:B_) (d:DeedR):B_×Q_×Int:=
 (bif !decide ((Ec_ d)=0) then
 (s,(⟨(⟨(⟨0,[],[],[],[],0,0⟩:Mail),false,false⟩:ItemR),0,0⟩:Q_),Ec_ d)
 else (lt3 ((lt1 ((bif decide (d.kind=2) then
 (decide (d.kind=2))
 else (decide (d.kind=3)))) (fun v=>
 (bif v then
 lt (B0_ s d) fun r=>
 (r.2,r.1,(⟨(⟨(⟨0,[],[],[],[],0,0⟩:Mail),false,false⟩:ItemR),0,0⟩:Q_))
 else (bif decide (d.kind=6) then
 lt (Ce_ s d) fun r1=>
 (r1.2.2,r1.1,r1.2.1)
 else (bif decide (d.kind=7) then
 lt (Bp_ s d) fun r2=>
 (r2.2.2,r2.1,r2.2.1)
 else (bif decide (d.kind=8) then
 lt (Bf_ s d) fun r3=>
 (r3.2.2,r3.1,r3.2.1)
 else (bif decide (d.kind=9) then
 lt (Dj_ s d.tick) fun r4=>
 (0,r4.1,r4.2)
 else (bif decide (d.kind=10) then
 lt (Ap_ s d) fun r5=>
 (r5.2.2,r5.1,r5.2.1)
 else (bif decide (d.kind=11) then
 lt (Ea_ s.x.stock) fun r6=>
 lt (A2_ (⟨(⟨s.x.book,r6,s.x.notes,s.x.seen,s.x.spent⟩:Ar_),s.policy,s.place⟩:B_) d.tick 3 []) fun r7=>
 (0,r7,(⟨(⟨(⟨0,[],[],[],[],0,0⟩:Mail),false,false⟩:ItemR),0,0⟩:Q_))
 else (bif decide (d.kind=12) then
 lt (Cu_ s.x.notes (⟨d.tick,d.code,d.text⟩:NoteR)) fun r8=>
 (r8.2,(⟨(⟨s.x.book,s.x.stock,r8.1,s.x.seen,s.x.spent⟩:Ar_),s.policy,s.place⟩:B_),(⟨(⟨(⟨0,[],[],[],[],0,0⟩:Mail),false,false⟩:ItemR),0,0⟩:Q_))
 else lt (B9_ s d) fun r9=>
 (r9.2,r9.1,(⟨(⟨(⟨0,[],[],[],[],0,0⟩:Mail),false,false⟩:ItemR),0,0⟩:Q_))))))))))))) (fun e_1 x x1=>
 (bif !decide (e_1=0) then
 (s,(⟨(⟨(⟨0,[],[],[],[],0,0⟩:Mail),false,false⟩:ItemR),0,0⟩:Q_),e_1)
 else (x,x1,0)))))
theorem Nb_ (tick:Int):∀ (f:Nat) (gone:List OutR) (lost:Int) (x:B_),Nn_ gone lost x->wtk x.x.stock+wto gone<f->StOk (A9_ tick f gone lost x).1
  |0,_,_,_,_,h=>by omega
  |f+1,gone,lost,x,hI,hf=>by
    unfold A9_ lt
    let Q:B_×Int->Prop:=fun r=>StOk r.1
    refine bt (P:=Q) (fun e=>?_) fun _=>hI.1
    have hn:0<gone.length:=by simpa using e
    refine bt (P:=Q) (fun _=>Nb_ tick f _ _ _ (Nq_ hI hn) (Pn_ hn hf)) fun _=>?_
    have hm:MlOk (gt gone 0).mail:=hI.2.1 _ (Je_ hn)
    refine bt (P:=Q) (fun _=>?_) fun e4=>?_
    · have h:=Ha_ (s:=x) (t:=tick) (k:=1) (x:=(gt gone 0).queue) hI.1
      exact Nb_ tick f _ _ _ (Nr_ hI h.1 h.2 hn) (Sk_ h.2 hn hf)
    · simp only[Bool.or_eq_false_iff,decide_eq_false_iff_not,Bool.not_eq_false',decide_eq_true_eq] at e4
      have hs:=I9_ (s:=x) (m:=⟨(G_ (gt gone 0).mail).id,(Ad_ x.x.stock (gt gone 0).queue).1.dead,(G_ (gt gone 0).mail).key,(G_ (gt gone 0).mail).head,(G_ (gt gone 0).mail).body,0,IntKind.wrap .u8 ((G_ (gt gone 0).mail).hops+1)⟩) (tick:=tick) hI.1 (Jb_ _)
      exact Nb_ tick f _ _ _ (Ns_ hI hs.1 hs.2.1 hn rfl hm e4.1 hs.2.2 rfl e4.2) (Po_ hn hf rfl hm e4.1 hs.2.2 rfl e4.2)
theorem Qi_ {s:B_} {gone:List OutR} {tick:Int} (h:StOk s) (hg:gone.length<=600/\∀ g∈gone,MlOk g.mail):StOk (At_ s gone tick).1:=
  Nb_ tick _ gone 0 s (Yv_ h hg) (Nat.lt_succ_self _)
theorem settle_ok {s:B_} {d:DeedR} (h:StOk s):StOk (Bf_ s d).1:=by
  unfold Bf_ lt
  let Q:B_×Q_×Int->Prop:=fun r=>StOk r.1
  refine bt (P:=Q) (fun _=>h) fun _=>?_
  refine bt (P:=Q) (fun _=>Ay_ h (Wj_ h.stk)) fun _=>?_
  have hr:=Hj_ (n:=d.name) (id:=d.id) h.stk
  refine bt (P:=Q) (fun _=>Qi_ (Ay_ h hr.1) ⟨by simp,fun g hg=>?_⟩) fun _=>Ay_ h hr.1
  rw[List.mem_singleton.1 hg];exact hr.2
theorem Wn_ (t:Int):∀ (f:Nat) (gone:List OutR) (x:B_),StOk x->(∀ g∈gone,MlOk g.mail)->gone.length+nik x.x.stock<=512->nik x.x.stock<f->StOk (B4_ t f gone x).1
  |0,_,_,_,_,_,h=>by omega
  |f+1,gone,x,h,hg,hl,hf=>by
    unfold B4_ lt
    let Q:B_×Q_->Prop:=fun r=>StOk r.1
    refine bt (P:=Q) (fun _=>Qi_ h ⟨by omega,hg⟩) fun e=>?_
    have e':(R_ x.x.stock t).2.2=true:=by simpa using e
    have hr:=Hj_ (n:=(R_ x.x.stock t).1) (id:=(R_ x.x.stock t).2.1.id) h.stk
    refine Wn_ t f _ _ (Ay_ h hr.1) (fun g q=>?_) (Va_ h.stk rfl e' rfl hl) (Vb_ h.stk rfl e' rfl hf)
    rcases List.mem_append.1 q with q|q
    · exact hg g q
    · rw[List.mem_singleton.1 q];exact Rd_ h.stk
theorem late_ok {s:B_} {t:Int} (h:StOk s):StOk (Dj_ s t).1:=
  Wn_ t _ [] s h (fun _ h=>by cases h) (by have :=nik_r h.stk;simpa using this) (Nat.lt_succ_self _)
theorem put_ok {s:B_} {d:DeedR} (h:StOk s) (hd:DdOk d) (h0:0<=d.mail.hops):StOk (Ce_ s d).1:=by
  unfold Ce_ lt
  let Q:B_×Q_×Int->Prop:=fun r=>StOk r.1
  have hs:=I9_ (s:=s) (m:=G_ d.mail) (tick:=d.tick) h h0
  have hl:=I8_ (s:=s) (m:=G_ d.mail) (tick:=d.tick) h
  exact bt (P:=Q) (fun _=>h) fun _=>Qi_ hs.1 ⟨by omega,hs.2.1⟩
theorem pull_ok {s:B_} {d:DeedR} (h:StOk s) (hd:DdOk d):StOk (Ap_ s d).1:=by
  unfold Ap_ lt
  let Q:B_×Q_×Int->Prop:=fun r=>StOk r.1
  refine bt (P:=Q) (fun _=>h) fun _=>?_
  refine bt (P:=Q) (fun _=>h) fun _=>?_
  refine bt (P:=Q) (fun _=>h) fun _=>?_
  refine lt1E (P:=Q) StOk ?_ fun x hx=>?_
  · exact bt (P:=StOk) (fun _=>(Ha_ (Bt_ h)).1) fun _=>Bt_ h
  · refine bt (P:=Q) (fun _=>(Ha_ hx).1) fun _=>?_
    have hs:=I9_ (s:=x) (m:=⟨(G_ d.mail).id,(G_ d.mail).shop,(G_ d.mail).key,(G_ d.mail).head,(G_ d.mail).body,(G_ d.mail).due,IntKind.wrap .u8 ((G_ d.mail).hops+1)⟩) (tick:=d.tick) hx (Jb_ _)
    have hl:=I8_ (s:=x) (m:=⟨(G_ d.mail).id,(G_ d.mail).shop,(G_ d.mail).key,(G_ d.mail).head,(G_ d.mail).body,(G_ d.mail).due,IntKind.wrap .u8 ((G_ d.mail).hops+1)⟩) (tick:=d.tick) hx
    exact Qi_ hs.1 ⟨by omega,hs.2.1⟩
theorem lt3E {σ τ ρ β:Type} {P:β->Prop} {o:σ×τ×ρ} {f:σ->τ->ρ->β} (I:σ×τ×ρ->Prop) (ho:I o) (hf:∀ a b c,I (a,b,c)->P (f a b c)):P (lt3 o f):=hf _ _ _ ho
theorem Xq_ {s:B_} {d:DeedR} (h:StOk s) (hd:DdOk d) (h0:0<=d.mail.hops):StOk (K_ s d).1:=by
  unfold K_ lt
  let Q:B_×Q_×Int->Prop:=fun r=>StOk r.1
  refine bt (P:=Q) (fun _=>h) fun _=>?_
  let I:Int×B_×Q_->Prop:=fun r=>StOk r.2.1
  refine lt3E (P:=Q) I ?_ fun a b c hb=>bt (P:=Q) (fun _=>h) fun _=>hb
  refine lt1E (P:=I) (fun _=>True) trivial fun v _=>?_
  refine bt (P:=I) (fun _=>queues_ok h) fun _=>?_
  refine bt (P:=I) (fun _=>put_ok h hd h0) fun _=>?_
  refine bt (P:=I) (fun _=>(lend_ok h).1) fun _=>?_
  refine bt (P:=I) (fun _=>settle_ok h) fun _=>?_
  refine bt (P:=I) (fun _=>late_ok h) fun _=>?_
  refine bt (P:=I) (fun _=>pull_ok h hd) fun _=>?_
  refine bt (P:=I) (fun _=>(Ha_ (Ay_ h (Wm_ h.stk))).1) fun _=>?_
  refine bt (P:=I) (fun _=>⟨⟨h.1.1,h.1.2.1,Rr_ h.1.2.2.1,h.1.2.2.2⟩,h.2⟩) fun _=>?_
  exact shops_ok h hd
instance {σ ρ:Type} [Inhabited ρ]:Inhabited (Lo σ ρ):=⟨.ret default⟩
theorem has_fd (a:LabelR) (i:Int) (h:0<=a.set_):0<=a.set_.fdiv (2 ^ min i.toNat IntKind.u32.bits):=
  Int.fdiv_nonneg h (Int.le_of_lt (Int.pow_pos (by decide)))
theorem poOk_l {p:PolicyR} (h:PoOk p):p.places.length<=100000/\p.slots.length<=100000/\p.grants.length<=100000:=by
  obtain⟨_,h2,_,h4,h5,_⟩:=h
  omega
def Ru_ (a:LabelR) (i:Int):Bool:=
 (decide (((Int.fdiv a.set_ (2 ^ (min (i:Int).toNat (IntKind.bits .u32))))%2)=1))
def Ic_ (a:LabelR) (b:LabelR):Nat->Nat->Bool
  |0,_=>default
  | f2+1,i=>(bif decide ((i:Int)<32) then
 (bif ((Ru_ a (i:Int))&&(!(Ru_ b (i:Int)))) then
 false
 else Ic_ a b f2 (i+1))
 else true)
def L4_ (a:LabelR) (b:LabelR):Bool:=
 (bif decide (b.level<a.level) then
 false
 else Ic_ a b (32-0+1) 0)
def Eg_ (y:PlaceR):List PlaceR->Lo Unit Int
  |[]=> .fin ()
  | x::t=>(bif ((decide ((x.name)=(y.name)))||(decide (x.label=y.label))) then
 .ret 9
 else Eg_ y t)
def Eh_ (y1:GrantR):List GrantR->Lo Unit Int
  |[]=> .fin ()
  | x1::t1=>(bif ((decide ((x1.frm)=(y1.frm)))&&(decide ((x1.to')=(y1.to')))) then
 .ret 9
 else Eh_ y1 t1)
def Fa_ (i:Nat):List Int->Bool->Lo Unit Int
  | [],has=>(bif !has then
 .ret 15
 else .fin ())
  |x2::t2,has=>Fa_ i t2 (has||(decide (x2=(i:Int))))
def Id_ (p:PolicyR):Nat->Nat->Int
  |0,_=>default
  | f2+1,i=>(bif decide ((i:Int)<(p.places.length:Int)) then
 (lp0 (Fa_ i p.slots false) (
 Id_ p f2 (i+1)) (fun r=>r))
 else 0)
def Dw_ (p:PolicyR):List GrantR->Nat->Int
  |[],k3=>Id_ p (p.places.length-0+1) 0
  | x3::t3,k3=>(lp0 ((bif ((((decide ((x3.frm)<0))||(decide ((p.places.length:Int)<=(x3.frm))))||(decide ((x3.to')<0)))||(decide ((p.places.length:Int)<=(x3.to')))) then
 .ret 10
 else (bif (L4_ ((gt p.places ((x3.frm).toNat)).label) ((gt p.places ((x3.to').toNat)).label)) then
 .ret 11
 else (bif ((decide ((x3.budget)<0))||(decide (16<(x3.budget)))) then
 .ret 7
 else Eh_ x3 (p.grants.take k3))))) (
 Dw_ p t3 (k3+1)) (fun r=>r))
def Df_ (p:PolicyR):List Int->Int
  | []=>(bif decide (8<(p.grants.length:Int)) then
 6
 else Dw_ p p.grants 0)
  | x4::t4=>(bif ((decide (x4<0))||(decide ((p.places.length:Int)<=x4))) then
 10
 else Df_ p t4)
def Dv_ (p:PolicyR):List PlaceR->Nat->Int
  | [],k=>(bif decide ((p.slots.length:Int)=0) then
 15
 else (bif decide (32<(p.slots.length:Int)) then
 6
 else Df_ p p.slots))
  | x5::t5,k=>(lp0 ((bif !decide ((D0_ (x5.name))=0) then
 .ret (D0_ (x5.name))
 else (bif ((((decide (15<(x5.label.level)))||(decide ((x5.bytes)<0)))||(decide (65536<(x5.bytes))))||(decide ((x5.base)=0))) then
 .ret 7
 else Eg_ x5 (p.places.take k)))) (
 Dv_ p t5 (k+1)) (fun r=>r))
def Jy_ (p:PolicyR):Int:=
 (bif ((((decide (p.work<1))||(decide (16<p.work)))||(decide (p.give<1)))||(decide (16<p.give))) then
 7
 else (bif decide ((p.places.length:Int)=0) then
 15
 else (bif decide (16<(p.places.length:Int)) then
 6
 else Dv_ p p.places 0)))
def Jo_ (p:PolicyR) (n:Int):Int:=
 (n%(p.places.length:Int))
def E8_:List PlaceR->Bool
  |[]=>true
  | x::t=>(bif decide (40<((x.name).length:Int)) then
 false
 else E8_ t)
def In_ (p:PolicyR):Bool:=
 (bif (((decide (20<(p.places.length:Int)))||(decide (40<(p.slots.length:Int))))||(decide (10<(p.grants.length:Int)))) then
 false
 else E8_ p.places)
def Ft_:List GrantR->Int->Int->List PlaceR->List Int->List GrantR->PolicyR
  |[],work1,give_1,places1,slots1,grants1=>(⟨work1,give_1,places1,slots1,grants1⟩:PolicyR)
  |x::t,work1,give_1,places1,slots1,grants1=>Ft_ t work1 give_1 places1 slots1 (grants1++[x])
def Fs_ (p:PolicyR):List PlaceR->Int->Int->List PlaceR->List Int->List GrantR->PolicyR
  |[],work,give_,places,slots,grants=>Ft_ p.grants work give_ places (slots++p.slots) grants
  |x1::t1,work,give_,places,slots,grants=>Fs_ p t1 work give_ (places++[x1]) slots grants
def Oa_ (p:PolicyR):PolicyR:=
 Fs_ p p.places p.work p.give [] [] []
theorem Z7_ {p:PolicyR} (h:In_ p=true):p.places.length<=100000/\p.slots.length<=100000/\p.grants.length<=100000:=by
  unfold In_ at h
  cases e:(decide (20<(p.places.length:Int)) || decide (40<(p.slots.length:Int)) || decide (10<(p.grants.length:Int))) with
  |true=>rw[e] at h;cases h
  |false=>
    simp only[Bool.or_eq_false_iff,decide_eq_false_iff_not] at e
    omega
def Ky_ (p:PolicyR):Bool:=
 ((In_ p)&&(decide ((Jy_ (Oa_ p))=0)))
end Go.SW.V
namespace Go.SW
open Go.RowKit
def cuts (p:UInt8):Bs->List Bs
  |[]=>[[]]
  |c::r=>if c=p then []::cuts p r else match cuts p r with
    |[]=>[[c]]
    |w::t=>(c::w)::t
theorem O8_ (p:UInt8):∀ s:Bs,Lib.splitK [p] 0 (Lib.count s [p]) s=cuts p s
  |[]=>by rw[Lib.count_miss (by simp[Lib.index])];rfl
  |b::l=>by
    have ih:=O8_ p l
    by_cases hb:b=p
    · subst hb
      rw[Lib.count_cons_eq,Nat.add_comm]
      have hix:Lib.index (b::l) [b]=0:=by rw[Lib.index];simp[List.isPrefixOf]
      unfold Lib.splitK cuts
      rw[hix]
      simp[ih]
    · rw[Lib.count_cons_ne _ _ _ hb]
      have hp:([p]:List UInt8).isPrefixOf (b::l)=false:=by simp[List.isPrefixOf,Ne.symm hb]
      have hix:Lib.index (b::l) [p] = if Lib.index l [p] == -1 then -1 else Lib.index l [p]+1:=by rw[Lib.index,hp];simp
      unfold cuts
      rw[if_neg hb,<- ih]
      cases hc:Lib.count l [p] with
      |zero=>rfl
      |succ k=>
        unfold Lib.splitK
        rw[hix]
        by_cases hm:Lib.index l [p] = -1
        · rw[Lib.count_miss hm] at hc;cases hc
        · have hge:=Lib.index_ge l [p]
          obtain⟨j,hj⟩:∃ j:Nat,Lib.index l [p]=j:=⟨(Lib.index l [p]).toNat,by omega⟩
          rw[hj]
          have e1:¬(((j:Nat):Int) == -1)=true:=by simp<;>omega
          have e2:¬(((j:Nat):Int)+1 == -1)=true:=by simp<;>omega
          rw[if_neg e1,if_neg e1,if_neg e2]
          have e3:(((j:Nat):Int)+1).toNat=j+1:=by omega
          rw[e3,Int.toNat_natCast]
          simp
theorem O6_ (p:UInt8) (s:Bs):(Lib.splitB ⟨#[p]⟩ 0 (Lib.countB ⟨s.toArray⟩ ⟨#[p]⟩) ⟨s.toArray⟩).map Value.string=(cuts p s).map str:=by
  have h:=Lib.splitB_data ⟨#[p]⟩ 0 (Lib.countB ⟨s.toArray⟩ ⟨#[p]⟩) ⟨s.toArray⟩
  have hc:Lib.countB ⟨s.toArray⟩ ⟨#[p]⟩=Lib.count s [p]:=by simp[Lib.countB]
  rw[hc] at h ⊢
  have e:=O8_ p s
  simp only at h
  rw[e] at h
  rw[<- h,List.map_map]
  congr 1
theorem Vt_ (p:UInt8) (s:Bs):Lib.countB ⟨s.toArray⟩ ⟨#[p]⟩+1=(cuts p s).length:=by
  have h:=congrArg List.length (O6_ p s)
  rw[List.length_map,List.length_map,Lib.splitB_all ⟨#[p]⟩ (by simp[ByteArray.size]) 0 _ _ rfl] at h
  exact h
theorem L9_ (p:UInt8):∀ (s w:Bs),w∈cuts p s->w.length<=s.length
  |[],w,h=>by simp[cuts] at h;simp[h]
  |c::r,w,h=>by
    unfold cuts at h
    split at h
    · rcases List.mem_cons.1 h with rfl|h
      · simp
      · have :=L9_ p r w h;simp;omega
    · split at h
      · simp at h;subst h;simp
      · rename_i x t e
        have ih:=L9_ p r
        rw[e] at ih
        rcases List.mem_cons.1 h with rfl|h
        · have :=ih x (by simp);simp;omega
        · have :=ih w (by simp[h]);simp;omega
theorem Uv_ (p:UInt8):∀ s:Bs,(cuts p s).length<=s.length+1
  |[]=>by simp[cuts]
  |c::r=>by
    have ih:=Uv_ p r
    unfold cuts
    split
    · simp;omega
    · split
      · simp
      · rename_i e;rw[e] at ih;simp at ih ⊢;omega
theorem Mem.addH {N:Rest} {H:Hp} {L:Ls} {w w':World} (h:Mem N H L w) (hb:Below w.heap.size w w') {g:Nat} {o:Obj} (hg:w.heap.size<=g) (ho:w'.heap[g]? = some o):Mem N (hadd H g o) L w'/\HLe H (hadd H g o):=by
  have hs:∀ (b:Nat) o',w.heap[b]? = some o'->b<w.heap.size:=fun b o' x=>by
    by_cases q:b<w.heap.size
    · exact q
    · rw[Array.getElem?_eq_none (by omega)] at x;cases x
  have hk:∀ (b:Nat) o',w.heap[b]? = some o'->w'.heap[b]? = some o':=fun b o' x=>by rw[hb.block b (hs b o' x)];exact x
  have hH:H g=none:=by
    cases q:H g with
    |none=>rfl
    |some o1=>have :=hs _ _ (h.h _ _ q);omega
  refine⟨⟨hb.os.trans h.os,hb.tape.trans h.tape,hb.output.trans h.output,fun b o' x=>hk _ _ (h.n b o' x),fun b o' x=>?_,fun i b o' x=>hk _ _ (h.l i b o' x),fun b o' x=>?_,fun i b o' x=>⟨(h.nl i b o' x).1,?_⟩,h.ll⟩,Q5_ hH⟩
  · by_cases e:b=g
    · subst e;simp[hadd] at x;subst x;exact ho
    · simp[hadd,e] at x;exact hk _ _ (h.h b o' x)
  · have :=hs b o' (h.n b o' x)
    have e:b≠g:=by omega
    simp[hadd,e];exact h.nh b o' x
  · have :=hs b o' (h.l i b o' x)
    have e:b≠g:=by omega
    simp[hadd,e];exact (h.nl i b o' x).2
theorem ph_rowB {P:Program} {f:FuncId} {args:Array Value} {H:Hp} {T:TypeId} {xs:List Bs} {ys:List Value} (hy:ys=xs.map str) (hx:∀ s∈xs,s.length<=9223372036854775807)
    (h:∀ N L w,Mem N H L w->Calls P f args w fun e w'=>∃ A,e = .returned (.slice (some ⟨A,0,none⟩) ys.length ys.length)/\w.heap.size<=A/\w'.ownsRow w.heap.size T 1 (.slice (some ⟨A,0,none⟩) ys.length ys.length) ys.length ys/\Below w.heap.size w w') :
    Ph P f args H (fun v H'=>∃ (a:Option Addr) (c:Nat),v = .slice a xs.length c/\SlH strE 1 H' (.slice a xs.length c) xs):=by
  subst hy
  intro N L w hm
  refine (h N L w hm).mono fun e w' ⟨A,he,hA,hr,hb⟩=>?_
  simp only[List.length_map] at he hr
  rcases hr.2 with ⟨h0,_⟩|⟨g,cap,cur,hv,hg,ho,hn,_,hc,ht⟩
  · cases h0
  · cases hv
    obtain⟨hm',hl⟩:=hm.addH hb hA ho
    have hcur:cur=(xs.map str).toArray:=by
      apply Array.ext'
      rw[<- ht]
      have :cur.toList.length=xs.length*1:=by simpa using hc
      rw[List.take_of_length_le (by omega)]
    refine⟨_,_,he,⟨_,_,rfl,⟨_,_,rfl,Nat.le_refl _⟩,fun m hmm=>⟨[str xs[m]],⟨rfl,hx _ (List.getElem_mem hmm)⟩,A,0,xs.length,xs.length,cur,T,(0,0),rfl,?_,rfl,fun j hj=>?_⟩⟩,hl,hm'⟩
    · simp[hadd]
    · obtain rfl :j=0:=by simpa using hj
      subst hcur
      simp[hmm]
def flds (s:Bs):List Bs:=(Lib.goFieldsP (fun x=>decide ((x:Int)=32)) ⟨s.toArray⟩).map fun b=>b.data.toList
theorem flds_str (s:Bs):(Lib.goFieldsP (fun x=>decide ((x:Int)=32)) ⟨s.toArray⟩).map Value.string=(flds s).map str:=by
  unfold flds
  rw[List.map_map]
  congr 1
theorem Xs_ (s w:Bs) (h:w∈flds s):w.length<=s.length:=by
  simp only[flds,Lib.goFieldsP,List.map_map,List.mem_map,Function.comp] at h
  obtain⟨x,_,rfl⟩:=h
  simp only[Array.length_toList]
  show ((⟨s.toArray⟩:ByteArray).extract x.1 x.2).size<=s.length
  rw[ByteArray.size_extract]
  have :(⟨s.toArray⟩:ByteArray).size=s.length:=by simp[ByteArray.size]
  omega
def plen (s:Bs):Bool:=decide (s.length<=65536)&&(cuts 10 s).all fun l=>decide (l.length<=65536) && decide ((flds l).length<=65536)&&(flds l).all fun w=>decide (0<w.length) && decide (w.length<=19)
theorem plen_ok {s:Bs} (h:plen s=true):s.length<=65536/\∀ l∈cuts 10 s,l.length<=65536/\(flds l).length<=65536/\∀ w∈flds l,0<w.length/\w.length<=19:=by
  simp only[plen,Bool.and_eq_true,decide_eq_true_eq,List.all_eq_true] at h
  exact⟨h.1,fun l hl=>⟨(h.2 l hl).1.1,(h.2 l hl).1.2,(h.2 l hl).2⟩⟩
def dec (s:Bs):Nat:=match Lib.parseUintB 64 s with| .ok n=>n|_=>0
def E6_ (s:Bs):Bool:=s.all fun c=>decide (48<=c.toNat) && decide (c.toNat<=57)
theorem pu_ok:∀ (s:Bs) (a k:Nat),a<10 ^ k->k+s.length<=19->E6_ s=true->∃ n,Lib.parseUintM 18446744073709551615 a s = .ok n/\n<10 ^ 19
  |[],a,k,ha,hk,_=>⟨a,rfl,Nat.lt_of_lt_of_le ha (Nat.pow_le_pow_right (by decide) (by simpa using hk))⟩
  |c::r,a,k,ha,hk,hd=>by
    simp only[E6_,List.all_cons,Bool.and_eq_true,decide_eq_true_eq,List.length_cons] at hd hk
    have h18:10 ^ k<=10 ^ 18:=Nat.pow_le_pow_right (by decide) (by omega)
    have h19:a*10+(c.toNat-48)<10 ^ (k+1):=by rw[Nat.pow_succ];omega
    have e18:(10:Nat) ^ 18=1000000000000000000:=by decide
    unfold Lib.parseUintM
    rw[if_pos hd.1,if_neg (by omega),if_neg (by omega)]
    exact pu_ok r _ (k+1) h19 (by omega) hd.2
theorem dec_ok {s:Bs} (hl:s.length<=19) (h0:0<s.length) (hd:E6_ s=true):Lib.parseUintB 64 s = .ok (dec s)/\(dec s:Int)<=18446744073709551615:=by
  obtain⟨n,h,hn⟩:=pu_ok s 0 0 (by decide) (by simpa using hl) hd
  have h:Lib.parseUintB 64 s = .ok n:=by
    unfold Lib.parseUintB
    rw[if_neg (by intro q;subst q;cases h0)]
    exact h
  have e19:(10:Nat) ^ 19=10000000000000000000:=by decide
  have e:dec s=n:=by unfold dec;rw[h]
  rw[e];exact⟨h,by omega⟩
theorem Mem.below {N:Rest} {H:Hp} {L:Ls} {w w':World} (hm:Mem N H L w) (hb:Below w.heap.size w w'):Mem N H L w':=
  hm.of_same hb.os hb.tape hb.output fun c o ho=>by
    rw[hb.block c (by by_cases q:c<w.heap.size;exact q;rw[Array.getElem?_eq_none (by omega)] at ho;cases ho)]
    exact ho
theorem dig_step {s:Bs} {k:Nat} (h:E6_ (s.take k)=true) (hk:k<s.length) (hc:(decide (((s.getD k 0).toNat:Int)<48) || decide (57<((s.getD k 0).toNat:Int)))=false):E6_ (s.take (k+1))=true:=by
  have e:s.take (k+1)=s.take k++[s.getD k 0]:=by
    rw[List.take_add_one,List.getElem?_eq_getElem hk,List.getD_eq_getElem?_getD,List.getElem?_eq_getElem hk];rfl
  rw[e]
  simp only[Bool.or_eq_false_iff,decide_eq_false_iff_not] at hc
  simp only[E6_,List.all_append,Bool.and_eq_true,List.all_cons,List.all_nil,decide_eq_true_eq,Bool.and_true]
  exact⟨h,by omega,by omega⟩
theorem dig_all {s:Bs} {k:Nat} (h:E6_ (s.take k)=true) (hk:s.length<=k):E6_ s=true:=by
  rwa [List.take_of_length_le hk] at h
end Go.SW
namespace Go.SW.V
open Go.SW
theorem W9_:RiOk ⟨0,[]⟩:=⟨Nat.zero_le _,fun _ h=>by cases h⟩
theorem plen05:plen [119,111,114,107,32,52,10,103,105,118,101,32,49,10,108,97,98,101,108,32,108,111,119,32,48,32,53,49,50,32,49,10,115,108,111,116,32,108,111,119]=true:=by decide +kernel
theorem rput_ne {x:RiseR} {m:Mail} (h:x.total=0\/0<x.kept.length):(A5_ x m).1.total=0\/0<(A5_ x m).1.kept.length:=by
  unfold A5_ lt
  let Q:RiseR×Int->Prop:=fun r=>r.1.total=0\/0<r.1.kept.length
  refine bt (P:=Q) (fun _=>h) fun _=>?_
  refine bt (P:=Q) (fun _=>h) fun _=> .inr ?_
  simp only[List.flatten_cons,List.flatten_nil,List.append_nil,List.length_drop,List.length_append,List.length_cons,List.length_nil]
  omega
theorem knew_ok (b n:Int) (h:n<=1000000):StkOk (Dn_ b n):=by
  refine⟨⟨by simp[Dn_],by simp[Dn_],by simp[Dn_]⟩,fun i hi=>?_,?_,?_⟩
  · have :(Dn_ b n).rises.get i=⟨0,[]⟩:=by
      unfold Dn_ A16.get
      repeat' split
      all_goals rfl
    rw[this];exact W9_
  · show 0<=max 0 n
    omega
  · show max 0 n<=1000000
    omega
def poB (p:PolicyR):Bool:=decide (0<p.places.length) && decide (p.places.length<=16) && decide (0<p.slots.length) && decide (p.slots.length<=32) && decide (p.grants.length<=8)&&(p.grants.all fun g=>decide (0<=g.frm) && decide (g.frm<p.places.length) && decide (0<=g.to') && decide (g.to'<p.places.length) && decide (0<=g.budget) && decide (g.budget<=16))&&p.places.all fun x=>decide (0<=x.bytes) && decide (x.bytes<=65536)
theorem W4_ {p:PolicyR} (h:poB p=true):PoOk p:=by
  simp only[poB,List.all_eq_true,Bool.and_eq_true,decide_eq_true_eq] at h
  obtain⟨⟨⟨⟨⟨⟨h1,h2⟩,h3⟩,h4⟩,h5⟩,h6⟩,h7⟩:=h
  exact⟨h1,h2,h3,h4,h5,fun g hg=>by have :=h6 g hg;omega,h7⟩
def ddB (l:List DeedR):Bool:=l.all fun d=>decide (d.bind.key.length<=1000) && decide (d.bind.want.length<=1000) && decide (d.mail.head.length<=1000) && decide (d.mail.key.length<=1000) && decide (0<=d.mail.hops)
theorem ddB_ok {l:List DeedR} (h:ddB l=true):∀ d∈l,DdOk d/\0<=d.mail.hops:=fun d hd=>by
  simp only[ddB,List.all_eq_true,Bool.and_eq_true,decide_eq_true_eq] at h
  have :=h d hd
  exact⟨⟨this.1.1.1.1,this.1.1.1.2,this.1.1.2,this.1.2⟩,this.2⟩
theorem dd1 {d:DeedR} (h:ddB [d]=true):DdOk d:=(ddB_ok h d List.mem_cons_self).1
theorem Xf_ (l0:List DeedR):∀ {l:List DeedR} {d:DeedR},C1_ l0 l=true->d∈l->Lr_ d=true
  |[],d,_,hd=>by simp at hd
  |x::l,d,h,hd=>by
    simp only[C1_] at h
    cases e:Lr_ x with
    |false=>rw[e] at h;cases h
    |true=>
      rw[e] at h
      rcases List.mem_cons.1 hd with rfl|q
      · exact e
      · exact Xf_ l0 h q
theorem Xe_ (l0:List DeedR):∀ {l:List DeedR},C1_ l0 l=true->l0.length<=40
  |[],h=>by simp[C1_] at h;omega
  |x::l,h=>by
    simp only[C1_] at h
    cases e:Lr_ x with
    |false=>rw[e] at h;cases h
    |true=>rw[e] at h;exact Xe_ l0 h
def DdA (l:List DeedR):Prop:=(∀ d∈l,DdOk d)/\l.length<=40
theorem l23_dd {l:List DeedR} (h:Hs_ l=true):DdA l:=⟨fun d hd=>by
  have e:=Xf_ _ h hd
  have h1:=P0_ d e
  simp only[Lr_,Bool.and_eq_true,decide_eq_true_eq] at e
  have h2:=Ok_ _ h1.2.2.2
  refine⟨by omega,by omega,by omega,by omega⟩,Xe_ _ h⟩
theorem dd_mem {l:List DeedR} {k:Nat} {d:DeedR} (h:DdA l) (hd:l[k]? = some d):DdOk d:=h.1 d (List.mem_of_getElem? hd)
theorem at_r (p:PolicyR) (n:Int) (h:0<p.places.length):0<=Jo_ p n/\Jo_ p n<p.places.length:=
  ⟨Int.emod_nonneg _ (by omega),Int.emod_lt_of_pos _ (by omega)⟩
theorem to_eq1:∀ (l:List GrantR) (w g:Int) (p:List PlaceR) (s:List Int) (o:List GrantR),Ft_ l w g p s o=⟨w,g,p,s,o++l⟩
  |[],w,g,p,s,o=>by simp[Ft_]
  |x::l,w,g,p,s,o=>by simp[Ft_,to_eq1 l]
theorem to_eq0 (q:PolicyR):∀ (l:List PlaceR) (w g:Int) (p:List PlaceR) (s:List Int) (o:List GrantR),Fs_ q l w g p s o=⟨w,g,p++l,s++q.slots,o++q.grants⟩
  |[],w,g,p,s,o=>by simp[Fs_,to_eq1]
  |x::l,w,g,p,s,o=>by simp[Fs_,to_eq0 q l]
theorem to_eq (p:PolicyR):Oa_ p=p:=by simp[Oa_,to_eq0]
theorem chk1 (y:PlaceR):∀ l:List PlaceR,LoP (fun _=>True) (fun r:Int=>r≠0) (Eg_ y l)
  |[]=>trivial
  |x::l=>by
    unfold Eg_
    exact bt (P:=LoP _ _) (fun _=>by show (9:Int)≠0;decide) fun _=>chk1 y l
theorem chk4 (y:GrantR):∀ l:List GrantR,LoP (fun _=>True) (fun r:Int=>r≠0) (Eh_ y l)
  |[]=>trivial
  |x::l=>by
    unfold Eh_
    exact bt (P:=LoP _ _) (fun _=>by show (9:Int)≠0;decide) fun _=>chk4 y l
theorem lp0Z {σ:Type} {I:Prop} {o:Lo Unit Int} {f:Int} (h:lp0 o f (fun r=>r)=0) (ho:LoP (fun _=>I) (fun r:Int=>r≠0) o):I/\f=0:=by
  cases o with
  |fin u=>exact⟨ho,h⟩
  |ret r=>exact absurd h ho
theorem LoP.imp {σ ρ:Type} {I J:σ->Prop} {R:ρ->Prop} {o:Lo σ ρ} (h:LoP I R o) (k:∀ s,I s->J s):LoP J R o:=by
  cases o with
  |fin s=>exact k s h
  |ret r=>exact h
theorem chk3 (p:PolicyR):∀ (l:List GrantR) (k:Nat),Dw_ p l k=0->∀ g∈l,0<=g.frm/\g.frm<p.places.length/\0<=g.to'/\g.to'<p.places.length/\0<=g.budget/\g.budget<=16
  |[],_,_,_,h=>by cases h
  |x::l,k,h,g,hg=>by
    unfold Dw_ at h
    obtain ⟨hx,h2⟩:=lp0Z (σ:=Unit) (I:=0<=x.frm/\x.frm<p.places.length/\0<=x.to'/\x.to'<p.places.length/\0<=x.budget/\x.budget<=16) h (by
      refine bt (P:=LoP _ _) (fun _=>by show (10:Int)≠0;decide) fun e=>?_
      refine bt (P:=LoP _ _) (fun _=>by show (11:Int)≠0;decide) fun _=>?_
      refine bt (P:=LoP _ _) (fun _=>by show (7:Int)≠0;decide) fun e2=>?_
      simp only[Bool.or_eq_false_iff,decide_eq_false_iff_not] at e e2
      exact (chk4 x _).imp fun _ _=>⟨by omega,by omega,by omega,by omega,by omega,by omega⟩)
    rcases List.mem_cons.1 hg with rfl|q
    · exact hx
    · exact chk3 p l (k+1) h2 g q
theorem chk2 (p:PolicyR):∀ l:List Int,Df_ p l=0->p.grants.length<=8/\Dw_ p p.grants 0=0
  |[],h=>by
    unfold Df_ at h
    cases e:decide (8<(p.grants.length:Int)) with
    |true=>rw[e] at h;cases h
    |false=>rw[e] at h;simp only[decide_eq_false_iff_not] at e;exact⟨by omega,h⟩
  |x::l,h=>by
    unfold Df_ at h
    cases e:(decide (x<0) || decide ((p.places.length:Int)<=x)) with
    |true=>rw[e] at h;cases h
    |false=>rw[e] at h;exact chk2 p l h
theorem chk0 (p:PolicyR):∀ (l:List PlaceR) (k:Nat),Dv_ p l k=0->(∀ x∈l,0<=x.bytes/\x.bytes<=65536)/\0<p.slots.length/\p.slots.length<=32/\Df_ p p.slots=0
  |[],k,h=>by
    unfold Dv_ at h
    cases e:decide ((p.slots.length:Int)=0) with
    |true=>rw[e] at h;cases h
    |false=>
      rw[e] at h
      cases e2:decide (32<(p.slots.length:Int)) with
      |true=>rw[e2] at h;cases h
      |false=>
        rw[e2] at h
        simp only[decide_eq_false_iff_not] at e e2
        exact⟨fun _ hx=>by (cases hx),by omega,by omega,h⟩
  |x::l,k,h=>by
    unfold Dv_ at h
    obtain ⟨hx,h2⟩:=lp0Z (σ:=Unit) (I:=0<=x.bytes/\x.bytes<=65536) h (by
      refine bt (P:=LoP _ _) (fun e=>?_) fun _=>?_
      · show D0_ x.name≠0
        simpa using e
      refine bt (P:=LoP _ _) (fun _=>by show (7:Int)≠0;decide) fun e=>?_
      simp only[Bool.or_eq_false_iff,decide_eq_false_iff_not] at e
      exact (chk1 x _).imp fun _ _=>⟨by omega,by omega⟩)
    obtain⟨h3,h4⟩:=chk0 p l (k+1) h2
    exact⟨fun y hy=>by rcases List.mem_cons.1 hy with rfl|q;exact hx;exact h3 y q,h4⟩
theorem l05_ok {p:PolicyR} (h:Ky_ p=true):PoOk p:=by
  simp only[Ky_,Bool.and_eq_true,decide_eq_true_eq,to_eq] at h
  have h1:=h.2
  unfold Jy_ at h1
  cases e0:(decide (p.work<1) || decide (16<p.work) || decide (p.give<1) || decide (16<p.give)) with
  |true=>rw[e0] at h1;cases h1
  |false=>
    rw[e0] at h1
    cases e1:decide ((p.places.length:Int)=0) with
    |true=>rw[e1] at h1;cases h1
    |false=>
      rw[e1] at h1
      cases e2:decide (16<(p.places.length:Int)) with
      |true=>rw[e2] at h1;cases h1
      |false=>
        rw[e2] at h1
        simp only[decide_eq_false_iff_not] at e1 e2
        obtain⟨a1,a2,a3,a4⟩:=chk0 p p.places 0 h1
        obtain⟨b1,b2⟩:=chk2 p p.slots a4
        exact⟨by omega,by omega,a2,a3,b1,chk3 p p.grants 0 b2,a1⟩
theorem Z8_ {p:PolicyR} (h:Ky_ p=true):PoOk p/\0<p.places.length/\p.places.length<=16/\0<p.slots.length/\p.slots.length<=32/\p.grants.length<=8:=by
  have q:=l05_ok h
  obtain⟨h1,h2,h3,h4,h5,_⟩:=id q
  exact⟨q,h1,h2,h3,h4,h5⟩
theorem l23_ddl {l:List DeedR} (h:Hs_ l=true):DdA l/\l.length<=40:=⟨l23_dd h,(l23_dd h).2⟩
variable {P:Program} {n:Nat} {N:Rest} {H0:Env} {all rest:List Oper} {Q:Qs} {ks:List Kt} {fF:Nat->PV} {fL:Nat->Blk} {T ty d:Nat} {pos:String} {af:Array Edge} {x y z:Operand} {K:St->Prop}
noncomputable def allH (H:Hp) (L:Ls):Hp:=fun b=>open Classical in if h:∃ o i,L i=some (b,o) then some h.choose else H b
theorem V1_ {N:Rest} {H:Hp} {L:Ls} {w:World} (hm:Mem N H L w) {i b:Nat} {o:Obj} (h:L i=some (b,o)):allH H L b=some o:=by
  have he:∃ o i,L i=some (b,o):=⟨o,i,h⟩
  unfold allH
  rw[dif_pos he]
  obtain⟨j,hj⟩:=he.choose_spec
  have :=hm.ll i j b o _ h hj
  subst this
  rw[h] at hj
  cases hj
  simp
theorem Yo_ {N:Rest} {H:Hp} {L:Ls} {w:World} (hm:Mem N H L w):HLe H (allH H L):=fun b o h=>by
  unfold allH
  split
  · rename_i he
    obtain⟨o',i,hi⟩:=he
    have :=(hm.nl i b o' hi).2
    rw[h] at this;cases this
  · exact h
theorem mem_lend {N:Rest} {H:Hp} {L:Ls} {w:World} (hm:Mem N H L w):Mem N (allH H L) (fun _=>none) w:=by
  refine⟨hm.os,hm.tape,hm.output,hm.n,fun b o h=>?_,(fun _ _ _ h=>by cases h),fun b o h=>?_,(fun _ _ _ h=>by cases h),(fun _ _ _ _ _ h=>by cases h)⟩
  · unfold allH at h
    split at h
    · rename_i he
      cases h
      obtain⟨j,hj⟩:=he.choose_spec
      exact hm.l _ _ _ hj
    · exact hm.h b o h
  · unfold allH
    split
    · rename_i he
      obtain⟨o',i,hi⟩:=he
      have :=(hm.nl i b o' hi).1
      rw[h] at this;cases this
    · exact hm.nh b o h
theorem mem_lent {N:Rest} {H H':Hp} {L:Ls} {w w':World} (hm:Mem N H L w) (hl:HLe (allH H L) H') (hm':Mem N H' (fun _=>none) w'):Mem N H L w':=
  ⟨hm'.os,hm'.tape,hm'.output,hm'.n,fun b o h=>hm'.h b o (hl b o (Yo_ hm b o h)),fun i b o h=>hm'.h b o (hl b o (V1_ hm h)),hm.nh,hm.nl,hm.ll⟩
inductive LentL (sL:Nat->Blk):List PV->List PV->Prop
  |nil:LentL sL [] []
  |same (p:PV) {ps qs:List PV} (h:LentL sL ps qs):LentL sL (p::ps) (p::qs)
  |lend (j:Nat) {α:Type} {u:Value} {k e:Nat} {enc:α->List PV} {xs:List α} {ps qs:List PV} (hj:sL j = .arr u k e enc xs) (h:LentL sL ps qs):LentL sL (.usl u::ps) (.sl enc xs::qs)
  |agg {ps qs rs ss:List PV} (h1:LentL sL ps qs) (h:LentL sL rs ss):LentL sL (.agg ps::rs) (.agg qs::ss)
theorem LentL.sims {sL:Nat->Blk} {H H':Hp} {L:Ls} (hl:HLe H H') (ho:∀ i b o,L i=some (b,o)->H' b=some o) (hb:∀ i,SimB sL H (sL i) (L i)) {ps qs:List PV} (h:LentL sL ps qs):∀ {vs:List Value},Sims H ps vs->Sims H' qs vs:=by
  induction h with
  |nil=>intro vs hs;cases hs.inv_nil;exact Sims.nil
  |same p _ ih=>
    intro vs hs
    obtain⟨v,us,rfl,h1,h2⟩:=hs.inv_cons
    exact (ih h2).cons (h1.mono hl)
  |lend j hj _ ih=>
    intro vs hs
    obtain⟨v,us,rfl,h1,h2⟩:=hs.inv_cons
    have e:=h1.inv_usl.1
    subst e
    have hi:=hb j
    rw[hj] at hi
    obtain⟨cs,h3,h4,h5⟩:=hi
    exact (ih h2).cons (Sim.of_slh (Xh_ G5_ h3 (h4.mono J0_ hl) fun b o q=>ho j b o q) h5)
  |agg _ _ ih1 ih=>
    intro vs hs
    obtain⟨v,us,rfl,h1,h2⟩:=hs.inv_cons
    obtain⟨zs,rfl,h3⟩:=h1.inv_agg
    exact (ih h2).cons (Sim.toAgg (ih1 h3))
theorem Sr_ {f:FuncId} {args args':List PV} {res:PV} {as0:Array Operand} {ats:Array TypeId} (h:Fn P H0.g f args' res) (hf:res.flat=true) (ha:argsP fF x as0.toList=some (f,args)) (hl:LentL fL args args') (hd:Nat.blt d n=true)
    (k:res.wf->K ⟨updp fF d res,fL⟩):E1 P n N H0 all ⟨some d, .call ⟨.value x,as0,ats⟩,ty,pos,af,none⟩ none ⟨fF,fL⟩ K:=by
  intro F H L hab a w hA hm
  obtain⟨vs,h1,h2⟩:=Gk_ (ats:=ats) hab.f ha h.cb
  have hle:=Yo_ hm
  have hs:=hl.sims hle (fun i b o q=>V1_ hm q) hab.l h1
  rw[if_pos (by simp[Region.wanted])]
  unfold Oper.wp
  rw[hA.eval,h2]
  refine (h.run N (allH H L) _ w vs (H0.g.mono _ _ hle hab.g) hs (mem_lend hm)).mono fun e' w' ⟨v,H',he,hv,hl',hm'⟩=>?_
  subst he
  exact⟨_,H,L,hA.put (by simpa using hd) v,mem_lent hm hl' hm', .refl H,fun _ _=>rfl,_,hab.put d (Sim.simT (Sim.flat_any hf hv) h.no),k hv.wf⟩
end Go.SW.V
namespace Go.SW.V
open Go.SW
variable {P:Program} {N:Rest} {H0:Env} {s:St} {T T' ty:TypeId} {x:Operand}
theorem qnilN {q:Array (String×TypeId)} (hx:evP s.F x = .val .nilIface) (hT:P.underlying T=some (.interface q)):Qy P N H0 s (.binOp .neq T x (.const .nilIface) T') ty (.bool false):=fun F H L ha=>by
  have h1:=Bv_ ha.f x
  unfold Ok1 at h1
  rw[hx] at h1
  have h2:=h1.sim.inv_val
  have h:∀ d w,(Op.equalIn (d+1) T .nilIface .nilIface).run P w = .ok true w:=fun d w=>by simp[Op.equalIn,run_underlying hT]
  exact⟨_,Sim.bool,fun _ _ _=>Dz_ (b:= .nilIface) h2 rfl (fun w=>by simp[eqGuard]) fun w=>by simp[binOp,I1_ (h · w)]⟩
theorem qfA {cs ps:List PV} {fs:Array Field} {f:Field} {i k:Nat} (hx:evP s.F x = .agg cs) (hT:P.underlying T=some (.struct fs)) (hf:fs[i]? = some f) (ha:Ag P f.type true) (hz:Sz P f.type k) (hc:(cs.drop f.offset).take k=ps):Qy P N H0 s (.field T x i) ty (.agg ps):=fun F H L hab=>by
  have h1:=Bv_ hab.f x
  unfold Ok1 at h1
  rw[hx] at h1
  obtain⟨vs,hv,hs⟩:=h1.sim.inv_agg
  refine⟨.agg ((vs.drop f.offset).take k).toArray,hc ▸ Sim.toAgg ((hs.drop f.offset).take k),fun H' L' _ d pos af g w _=>?_⟩
  have :=ha w
  have :=hz w
  simp[execOp,hv,Instr.field,run_underlying hT,hf,part,asAgg, *]
theorem inv_fn0 {H:Hp} {f:FuncId} {v:Value} (h:Sim H (.fn f [] []) v):v = .func (.func f) #[] #[]:=by
  obtain⟨vs,us,rfl,h1,h2⟩:=h.inv_fn
  cases h1.inv_nil;cases h2.inv_nil
  rfl
end Go.SW.V
namespace Go.SW.V
open Go.SW
def G4_ (s:Bs):(List Bs):=
 (flds s)
def F4_ (n:Int) (least:Int) (most:Int):Int:=
 (bif decide (n<least) then
 15
 else (bif decide (most<n) then
 6
 else 0))
def Hf_ (y:PlaceR) (x1:PlaceR):Bool:=
 ((decide (y.name=x1.name))||(decide (y.label=x1.label)))
def He_ (y:GrantR) (x1:GrantR):Bool:=
 ((decide (y.frm=x1.frm))&&(decide (y.to'=x1.to')))
def Jm_ (s:List Int) (v:Int):Bool:=
 lt (idxP (fun y=>decide (v=y)) s) fun r=>
 (decide (0<=r))
def Hp_:List Int->Int
  |[]=>0
  | x::t=>(bif !decide (x=0) then
 x
 else Hp_ t)
def Sl_ (vals:List Int):Int:=
 Hp_ vals
def F7_ (a:LabelR):Bool:=
 (decide (a.level<=15))
def B8_ (s:Bs) (most:Int):Nat->Nat->Int->Int×Int
  |0,_,_=>default
  | f2+1,k1,n1=>(bif decide ((k1:Int)<(s.length:Int)) then
 (bif ((decide (((s.getD k1 0).toNat:Int)<48))||(decide (57<((s.getD k1 0).toNat:Int)))) then
 ((k1:Int),n1)
 else (bif decide (n1<=most) then
 B8_ s most f2 (k1+1) ((10*n1)+(IntKind.wrap .u8 (((s.getD k1 0).toNat:Int)-48)))
 else B8_ s most f2 (k1+1) n1))
 else ((k1:Int),n1))
def Cd_ (s:Bs) (most:Int):Int×Bs×Int:=
 (lt2 (B8_ s most (s.length-0+1) 0 0) (fun k n=>
 (bif ((decide (k=0))&&(decide ((s.length:Int)=0))) then
 (0,[],3)
 else (lt1 ((bif decide (k=0) then
 (decide (k=0))
 else ((decide (1<k))&&(decide (((s.getD 0 0).toNat:Int)=48))))) (fun v=>
 (bif v then
 (0,[],4)
 else (bif decide (most<n) then
 (0,[],7)
 else (n,(s.drop (k).toNat),0))))))))
theorem plen_w {s l:Bs} {r:List Bs} (h:plen s=true) (hr:G4_ l=r) (hz:l.length<=65536/\(flds l).length<=65536/\∀ w∈flds l,0<w.length/\w.length<=19):∀ w∈r,0<w.length/\w.length<=19:=by
  subst hr;exact hz.2.2
theorem Xj_ {p:PolicyR} {i:Int} (h:Ah_ p i=true):0<=i/\i<p.places.length:=by
  simp only[Ah_,Bz_,Bool.and_eq_true,decide_eq_true_eq] at h
  omega
theorem wrap8_r (z:Int):0<=IntKind.wrap .u8 z/\IntKind.wrap .u8 z<=255:=Hb_ .u8 z
theorem lnum_l (s:Bs) (most:Int):∀ (f k:Nat) (n:Int),0<=n->0<=(B8_ s most f k n).2
  |0,_,_,_=>by simp[B8_,default]
  |f+1,k,n,hn=>by
    unfold B8_
    let Q:Int×Int->Prop:=fun r=>0<=r.2
    refine bt (P:=Q) (fun _=>?_) fun _=>hn
    refine bt (P:=Q) (fun _=>hn) fun _=>?_
    refine bt (P:=Q) (fun _=>lnum_l s most f _ _ ?_) fun _=>lnum_l s most f _ _ hn
    have :=(wrap8_r (((s.getD k 0).toNat:Int)-48)).1
    omega
theorem lnum_r (s:Bs) (most:Int) (hm:0<=most/\most<=1000):0<=(Cd_ s most).1/\(Cd_ s most).1<=1000/\(Cd_ s most).2.1.length<=s.length:=by
  unfold Cd_
  have h:=lnum_l s most (s.length-0+1) 0 0 (Int.le_refl _)
  generalize B8_ s most (s.length-0+1) 0 0=q at h ⊢
  obtain⟨k,n⟩:=q
  let Q:Int×Bs×Int->Prop:=fun r=>0<=r.1/\r.1<=1000/\r.2.1.length<=s.length
  have hno:∀ e:Int,Q (0,[],e):=fun e=>⟨Int.le_refl _,by show (0:Int)<=1000;decide,Nat.zero_le _⟩
  show Q (bif _ then _ else _)
  refine bt (P:=Q) (fun _=>hno _) fun _=>?_
  refine lt1E (P:=Q) (fun _=>True) trivial fun v _=>?_
  refine bt (P:=Q) (fun _=>hno _) fun _=>?_
  refine bt (P:=Q) (fun _=>hno _) fun e=>?_
  simp only[decide_eq_false_iff_not] at e
  exact⟨h,by show n<=1000;omega,by show (s.drop _).length<=_;rw[List.length_drop];omega⟩
def G3_ (x:PlaceR) (ahead:List PlaceR):Int:=
 (bif !decide ((D0_ x.name)=0) then
 (D0_ x.name)
 else (lt1 ((bif !(F7_ x.label) then
 (!(F7_ x.label))
 else (bif !(Bz_ x.bytes 0 65536) then
 (!(Bz_ x.bytes 0 65536))
 else (decide (x.base=0))))) (fun v=>
 (bif v then
 7
 else (bif decide (0<=idxP (fun z_28:PlaceR=>(Hf_ z_28 x)) ahead) then
 9
 else 0)))))
def D1_ (p:PolicyR) (x:GrantR) (ahead:List GrantR):Int:=
 (bif !(Ah_ p x.frm) then
 10
 else (bif !(Ah_ p x.to') then
 10
 else (bif (Er_ ((gt p.places ((x.frm).toNat)).label) ((gt p.places ((x.to').toNat)).label)) then
 11
 else (bif !(Bz_ x.budget 0 16) then
 7
 else (bif decide (0<=idxP (fun z_32:GrantR=>(He_ z_32 x)) ahead) then
 9
 else 0)))))
def Ds_ (p:PolicyR):Nat->Int->Nat->Int
  |0,_,_=>default
  | f2+1,e_1,i=>(bif ((decide (e_1=0))&&(decide ((i:Int)<(p.places.length:Int)))) then
 Ds_ p f2 (G3_ (gt p.places i) (p.places.take i)) (i+1)
 else e_1)
def Cz_ (p:PolicyR):Int:=
 lt (F4_ (p.places.length:Int) 1 16) fun r=>
 Ds_ p (p.places.length+1-0+1) r 0
def C5_ (p:PolicyR):Nat->Int->Nat->Int
  |0,_,_=>default
  | f2+1,e_1,i=>(bif ((decide (e_1=0))&&(decide ((i:Int)<(p.slots.length:Int)))) then
 (bif !(Ah_ p (gt p.slots i)) then
 C5_ p f2 10 (i+1)
 else C5_ p f2 e_1 (i+1))
 else e_1)
def C7_ (p:PolicyR):Int:=
 lt (F4_ (p.slots.length:Int) 1 32) fun r=>
 C5_ p (p.slots.length+1-0+1) r 0
def Dr_ (p:PolicyR):Nat->Int->Nat->Int
  |0,_,_=>default
  | f2+1,e_1,i=>(bif ((decide (e_1=0))&&(decide ((i:Int)<(p.grants.length:Int)))) then
 Dr_ p f2 (D1_ p (gt p.grants i) (p.grants.take i)) (i+1)
 else e_1)
def Cy_ (p:PolicyR):Int:=
 lt (F4_ (p.grants.length:Int) 0 8) fun r=>
 Dr_ p (p.grants.length+1-0+1) r 0
def Bx_ (p:PolicyR):List PlaceR->Nat->Int
  |[],k=>0
  | x::t,k=>(bif !(Jm_ p.slots (k:Int)) then
 15
 else Bx_ p t (k+1))
def Et_ (p:PolicyR):Int:=
 (bif ((!(Bz_ p.work 1 16))||(!(Bz_ p.give 1 16))) then
 7
 else (bif !decide ((Sl_ [(Cz_ p),(C7_ p),(Cy_ p)])=0) then
 (Sl_ [(Cz_ p),(C7_ p),(Cy_ p)])
 else Bx_ p p.places 0))
def Dg_ (s:Bs) (most:Int):List UInt8->Int×Int
  | []=>(bif decide (most<(dec s:Int)) then
 (0,7)
 else ((dec s:Int),0))
  | x::t=>(bif ((decide ((x.toNat:Int)<48))||(decide (57<(x.toNat:Int)))) then
 (0,4)
 else Dg_ s most t)
def Ff_ (s:Bs) (most:Int):Int×Int:=
 (bif ((decide (s=[]))||((decide (1<(s.length:Int)))&&(decide (((s.getD 0 0).toNat:Int)=48)))) then
 (0,4)
 else Dg_ s most s)
def Dd_ (s:Bs):Int×Int:=
 lt (Ff_ s 1048576) fun r=>
 ((IntKind.wrap .i64 r.1),r.2)
def Aa_ (p:PolicyR) (s:Bs):Int×Int:=
 lt (A4_ p s) fun r=>
 (bif decide (0<=r) then
 (r,0)
 else (0,10))
def Fv_:Nat->Bs->Int->LabelR->LabelR×Int
  |0,_,_,_=>default
  | f2+1,s1,last,x=>(bif decide (0<(s1.length:Int)) then
 (bif !decide (((s1.getD 0 0).toNat:Int)=58) then
 ((⟨0,0⟩:LabelR),4)
 else lt (Cd_ (s1.drop 1) 31) fun r1=>
 (bif !decide (r1.2.2=0) then
 ((⟨0,0⟩:LabelR),r1.2.2)
 else (bif decide (r1.1<=last) then
 ((⟨0,0⟩:LabelR),4)
 else Fv_ f2 r1.2.1 r1.1 (⟨x.level,(IntKind.wrap .u32 ((BitVec.ofInt (IntKind.bits .u32) x.set_ |||BitVec.ofInt (IntKind.bits .u32) (IntKind.wrap .u32 (1*2 ^ (min (r1.1:Int).toNat (IntKind.bits .u32))))).toNat))⟩:LabelR))))
 else (x,0))
def Ed_ (s:Bs):LabelR×Int:=
 lt (Cd_ s 15) fun r=>
 (bif !decide (r.2.2=0) then
 ((⟨0,0⟩:LabelR),r.2.2)
 else Fv_ (r.2.1.length+1) r.2.1 (-1) (⟨(IntKind.wrap .u8 r.1),0⟩:LabelR))
def Ag_:List Bs->Nat->Int->Int->List PlaceR->List Int->List GrantR->PolicyR×Int×Int
  |[],k,work,give_,places,slots,grants=>lt (Et_ (⟨work,give_,places,slots,grants⟩:PolicyR)) fun r16=>
 (bif !decide (r16=0) then
 ((⟨0,0,[],[],[]⟩:PolicyR),0,r16)
 else ((⟨work,give_,places,slots,grants⟩:PolicyR),0,0))
  |x::t,k,work,give_,places,slots,grants=>lt (G4_ x) fun r=>
 (bif ((decide ((r.length:Int)=0))||(decide ((((gt r 0).getD 0 0).toNat:Int)=35))) then
 Ag_ t (k+1) work give_ places slots grants
 else (bif decide ((gt r 0)=[108,97,98,101,108]) then
 (bif !decide ((r.length:Int)=5) then
 ((⟨0,0,[],[],[]⟩:PolicyR),((k:Int)+1),4)
 else (bif decide ((gt r 0)=[119,111,114,107]) then
 lt (Dd_ (gt r 1)) fun r1=>
 (bif !decide (r1.2=0) then
 ((⟨0,0,[],[],[]⟩:PolicyR),((k:Int)+1),r1.2)
 else Ag_ t (k+1) r1.1 give_ places slots grants)
 else (bif decide ((gt r 0)=[103,105,118,101]) then
 lt (Dd_ (gt r 1)) fun r2=>
 (bif !decide (r2.2=0) then
 ((⟨0,0,[],[],[]⟩:PolicyR),((k:Int)+1),r2.2)
 else Ag_ t (k+1) work r2.1 places slots grants)
 else (bif decide ((gt r 0)=[115,108,111,116]) then
 lt (Aa_ (⟨work,give_,places,slots,grants⟩:PolicyR) (gt r 1)) fun r3=>
 (bif !decide (r3.2=0) then
 ((⟨0,0,[],[],[]⟩:PolicyR),((k:Int)+1),r3.2)
 else Ag_ t (k+1) work give_ places (slots++[r3.1]) grants)
 else lt (Ed_ (gt r 2)) fun r4=>
 (bif !decide (r4.2=0) then
 ((⟨0,0,[],[],[]⟩:PolicyR),((k:Int)+1),r4.2)
 else lt (Dd_ (gt r 3)) fun r5=>
 (bif !decide (r5.2=0) then
 ((⟨0,0,[],[],[]⟩:PolicyR),((k:Int)+1),r5.2)
 else lt (Ff_ (gt r 4) 18446744073709551615) fun r6=>
 (bif !decide (r6.2=0) then
 ((⟨0,0,[],[],[]⟩:PolicyR),((k:Int)+1),r6.2)
 else Ag_ t (k+1) work give_ (places++[(⟨(gt r 1),r4.1,r5.1,r6.1⟩:PlaceR)]) slots grants)))))))
 else (bif decide ((gt r 0)=[103,114,97,110,116]) then
 (bif !decide ((r.length:Int)=4) then
 ((⟨0,0,[],[],[]⟩:PolicyR),((k:Int)+1),4)
 else (bif decide ((gt r 0)=[119,111,114,107]) then
 lt (Dd_ (gt r 1)) fun r7=>
 (bif !decide (r7.2=0) then
 ((⟨0,0,[],[],[]⟩:PolicyR),((k:Int)+1),r7.2)
 else Ag_ t (k+1) r7.1 give_ places slots grants)
 else (bif decide ((gt r 0)=[103,105,118,101]) then
 lt (Dd_ (gt r 1)) fun r8=>
 (bif !decide (r8.2=0) then
 ((⟨0,0,[],[],[]⟩:PolicyR),((k:Int)+1),r8.2)
 else Ag_ t (k+1) work r8.1 places slots grants)
 else (bif decide ((gt r 0)=[115,108,111,116]) then
 lt (Aa_ (⟨work,give_,places,slots,grants⟩:PolicyR) (gt r 1)) fun r9=>
 (bif !decide (r9.2=0) then
 ((⟨0,0,[],[],[]⟩:PolicyR),((k:Int)+1),r9.2)
 else Ag_ t (k+1) work give_ places (slots++[r9.1]) grants)
 else lt (Aa_ (⟨work,give_,places,slots,grants⟩:PolicyR) (gt r 1)) fun r10=>
 (bif !decide (r10.2=0) then
 ((⟨0,0,[],[],[]⟩:PolicyR),((k:Int)+1),r10.2)
 else lt (Aa_ (⟨work,give_,places,slots,grants⟩:PolicyR) (gt r 2)) fun r11=>
 (bif !decide (r11.2=0) then
 ((⟨0,0,[],[],[]⟩:PolicyR),((k:Int)+1),r11.2)
 else lt (Dd_ (gt r 3)) fun r12=>
 (bif !decide (r12.2=0) then
 ((⟨0,0,[],[],[]⟩:PolicyR),((k:Int)+1),r12.2)
 else Ag_ t (k+1) work give_ places slots (grants++[(⟨r10.1,r11.1,r12.1⟩:GrantR)]))))))))
 else (bif decide ((gt r 0)=[119,111,114,107]) then
 (bif !decide ((r.length:Int)=2) then
 ((⟨0,0,[],[],[]⟩:PolicyR),((k:Int)+1),4)
 else lt (Dd_ (gt r 1)) fun r13=>
 (bif !decide (r13.2=0) then
 ((⟨0,0,[],[],[]⟩:PolicyR),((k:Int)+1),r13.2)
 else Ag_ t (k+1) r13.1 give_ places slots grants))
 else (bif decide ((gt r 0)=[103,105,118,101]) then
 (bif !decide ((r.length:Int)=2) then
 ((⟨0,0,[],[],[]⟩:PolicyR),((k:Int)+1),4)
 else lt (Dd_ (gt r 1)) fun r14=>
 (bif !decide (r14.2=0) then
 ((⟨0,0,[],[],[]⟩:PolicyR),((k:Int)+1),r14.2)
 else Ag_ t (k+1) work r14.1 places slots grants))
 else (bif decide ((gt r 0)=[115,108,111,116]) then
 (bif !decide ((r.length:Int)=2) then
 ((⟨0,0,[],[],[]⟩:PolicyR),((k:Int)+1),4)
 else lt (Aa_ (⟨work,give_,places,slots,grants⟩:PolicyR) (gt r 1)) fun r15=>
 (bif !decide (r15.2=0) then
 ((⟨0,0,[],[],[]⟩:PolicyR),((k:Int)+1),r15.2)
 else Ag_ t (k+1) work give_ places (slots++[r15.1]) grants))
 else ((⟨0,0,[],[],[]⟩:PolicyR),((k:Int)+1),4)))))))
def F3_ (s:Bs):PolicyR×Int×Int:=
 Ag_ (cuts 10 s) 0 0 0 [] [] []
def N8_:Bool:=
 lt (Ed_ [50,58,48,58,53]) fun r=>
 lt (Ed_ [51,58,48,58,53,58,55]) fun r1=>
 lt (Ed_ [51,58,53]) fun r2=>
 ((((((decide (r.2=0))&&(decide (r1.2=0)))&&(decide (r2.2=0)))&&(Er_ r.1 r1.1))&&(!(Er_ r.1 r2.1)))&&(!(Er_ r1.1 r.1)))
def N7_:Bool:=
 (N8_)
def Ob_:Bool:=
 lt (F3_ [119,111,114,107,32,52,10,103,105,118,101,32,49,10,108,97,98,101,108,32,108,111,119,32,48,32,53,49,50,32,49,10,115,108,111,116,32,108,111,119]) fun r=>
 (((((((N7_)&&true)&&(decide (r.2.1=0)))&&(decide (r.2.2=0)))&&(decide ((r.1.places.length:Int)=1)))&&(decide (r.1.work=4)))&&(decide (((gt r.1.places 0).bytes)=512)))
def N9_:Bool:=
 (Ob_)
def Oe_:Bool:=
 lt (Ba_ (⟨[]⟩:LineR) (⟨3,[97],[],[],[],0,0⟩:Mail)) fun r=>
 lt (Ba_ r.1 (⟨5,[97],[],[],[],0,0⟩:Mail)) fun r1=>
 lt (Bs_ r1.1) fun r2=>
 lt (Bs_ r2.1) fun r3=>
 lt (Cq_ r3.1 3) fun r4=>
 lt (Db_ r4.1) fun r5=>
 (((((((((decide (r.2=0))&&(decide (r1.2=0)))&&r2.2.2)&&(decide (r2.2.1.mail.id=3)))&&r3.2.2)&&(decide (r3.2.1.mail.id=5)))&&(decide (r4.2=0)))&&r5.2)&&(decide (r5.1.id=3)))
def Od_:Bool:=
 (Oe_)
def H6_:Nat->Nat->Dk_->Bool
  |0,_,_=>default
  | f2+1,v,x=>(bif decide ((v:Int)<40) then
 lt (Cu_ x (⟨0,(IntKind.wrap .u8 (v:Int)),[]⟩:NoteR)) fun r=>
 H6_ f2 (v+1) r.1
 else lt (Ek_ x 9) fun r1=>
 lt (Ek_ x 8) fun r2=>
 (((r1.2&&(decide (r1.1.kind=8)))&&(!r2.2))&&(decide ((Gp_ x)=40))))
def Lp_:Bool:=
 H6_ (40-0+1) 0 (⟨0,[]⟩:Dk_)
def Of_:Bool:=
 (Lp_)
def H7_:Nat->Nat->RiseR->Bool
  |0,_,_=>default
  | f2+1,v,x=>(bif decide ((v:Int)<20) then
 lt (A5_ x (⟨0,[97],[],[],[],0,0⟩:Mail)) fun r=>
 H7_ f2 (v+1) r.1
 else lt (D2_ x 0) fun r1=>
 lt (D2_ x 20) fun r2=>
 (((decide (r1.1=5))&&r1.2.2)&&(!r2.2.2)))
def Lq_:Bool:=
 H7_ (20-0+1) 0 (⟨0,[]⟩:RiseR)
def Og_:Bool:=
 (Lq_)
def Oi_:Bool:=
 lt (Dn_ 7 100) fun r=>
 lt (B7_ r (⟨[113],3,0,[]⟩:QueueR)) fun r1=>
 lt (Am_ r1.1 [113] (⟨0,[97],[],[],[],0,0⟩:Mail)) fun r2=>
 (((((Od_)&&(Og_))&&(decide (r1.2=0)))&&(decide (r2.2.2.2=0)))&&(decide (r2.2.1=7)))
def Oh_:Bool:=
 (Oi_)
def H8_:Nat->Nat->B_->Bool
  |0,_,_=>default
  | f2+1,v,x=>(bif decide ((v:Int)<([(⟨0,0,(⟨[97],1,[]⟩:ShopR),(⟨[],0,0,[]⟩:QueueR),(⟨[],[],false,[],[],false⟩:BindR),[],0,0,0,0,0,(⟨0,[],[],[],[],0,0⟩:Mail),[]⟩:DeedR),(⟨2,0,(⟨[],0,[]⟩:ShopR),(⟨[113],4,0,[]⟩:QueueR),(⟨[],[],false,[],[],false⟩:BindR),[],0,0,0,0,0,(⟨0,[],[],[],[],0,0⟩:Mail),[]⟩:DeedR),(⟨4,0,(⟨[],0,[]⟩:ShopR),(⟨[],0,0,[]⟩:QueueR),(⟨[97],[113],false,[],[],false⟩:BindR),[],0,0,0,0,0,(⟨0,[],[],[],[],0,0⟩:Mail),[]⟩:DeedR)].length:Int)) then
 lt (K_ x (gt [(⟨0,0,(⟨[97],1,[]⟩:ShopR),(⟨[],0,0,[]⟩:QueueR),(⟨[],[],false,[],[],false⟩:BindR),[],0,0,0,0,0,(⟨0,[],[],[],[],0,0⟩:Mail),[]⟩:DeedR),(⟨2,0,(⟨[],0,[]⟩:ShopR),(⟨[113],4,0,[]⟩:QueueR),(⟨[],[],false,[],[],false⟩:BindR),[],0,0,0,0,0,(⟨0,[],[],[],[],0,0⟩:Mail),[]⟩:DeedR),(⟨4,0,(⟨[],0,[]⟩:ShopR),(⟨[],0,0,[]⟩:QueueR),(⟨[97],[113],false,[],[],false⟩:BindR),[],0,0,0,0,0,(⟨0,[],[],[],[],0,0⟩:Mail),[]⟩:DeedR)] v)) fun r1=>
 (bif !decide (r1.2.2=0) then
 false
 else H8_ f2 (v+1) r1.1)
 else lt (K_ x (⟨6,0,(⟨[],0,[]⟩:ShopR),(⟨[],0,0,[]⟩:QueueR),(⟨[],[],false,[],[],false⟩:BindR),[],0,0,0,0,0,(⟨0,[97],[],[],[120],0,0⟩:Mail),[]⟩:DeedR)) fun r2=>
 lt (K_ r2.1 (⟨7,0,(⟨[],0,[]⟩:ShopR),(⟨[],0,0,[]⟩:QueueR),(⟨[],[],false,[],[],false⟩:BindR),[113],0,0,0,0,0,(⟨0,[],[],[],[],0,0⟩:Mail),[]⟩:DeedR)) fun r3=>
 ((((((((N9_)&&(Oh_))&&true)&&(Of_))&&(decide (r2.2.2=0)))&&(decide (r2.2.1.count=1)))&&(decide (r3.2.2=0)))&&(decide (r3.2.1.item.mail.body=[120]))))
def Jp_:Bool:=
 lt (Cv_ (⟨4,1,[(⟨[108,111,119],(⟨0,0⟩:LabelR),500,1⟩:PlaceR)],[0],[]⟩:PolicyR) 0) fun r=>
 H8_ (([(⟨0,0,(⟨[97],1,[]⟩:ShopR),(⟨[],0,0,[]⟩:QueueR),(⟨[],[],false,[],[],false⟩:BindR),[],0,0,0,0,0,(⟨0,[],[],[],[],0,0⟩:Mail),[]⟩:DeedR),(⟨2,0,(⟨[],0,[]⟩:ShopR),(⟨[113],4,0,[]⟩:QueueR),(⟨[],[],false,[],[],false⟩:BindR),[],0,0,0,0,0,(⟨0,[],[],[],[],0,0⟩:Mail),[]⟩:DeedR),(⟨4,0,(⟨[],0,[]⟩:ShopR),(⟨[],0,0,[]⟩:QueueR),(⟨[97],[113],false,[],[],false⟩:BindR),[],0,0,0,0,0,(⟨0,[],[],[],[],0,0⟩:Mail),[]⟩:DeedR)].length)-0+1) 0 r
theorem Sq_ {l:List DeedR} {k:Nat} {d:DeedR} (h:(PV.sl DeedR.pc l).wf) (hd:l[k]? = some d):0<=d.mail.hops:=by
  have :=(h.2 d (List.mem_of_getElem? hd)).2.2.2.2.2.2.2.2.2.2.2.2.2.2.2.2.2.2.2.2.2.2.2.2.2.2.2.1
  exact this.1
theorem line_ok {s:D_} {n:Bs} (h:StkOk s):LnOk (Di_ s n):=by
  unfold Di_ lt
  refine bt (P:=LnOk) (fun _=>Ly_) fun _=>?_
  generalize (I_ s n).toNat=k
  cases e:s.rows[k]? with
  |none=>
    have :(gt s.rows k)=default:=by simp[gt,e]
    rw[this];exact Ly_
  |some x=>
    have :(gt s.rows k)=x:=by simp[gt,e]
    rw[this];exact h.1.at e
theorem L2_ {s:B_} {x:Ar_} (e:x=H_ s) (h:StOk s):StkOk x.stock:=by subst e;exact StOk.stk h
theorem O2_:∀ (t:List RowR) (out:List QueueR),(A7_ t out).length=out.length+t.length
  |[],out=>rfl
  |x::t,out=>by
    unfold A7_
    rw[O2_ t];simp;omega
theorem X9_ {s:D_} (h:StkOk s):(Cb_ s).length<=8:=by
  unfold Cb_
  rw[O2_]
  have :=h.1.1
  simp;omega
theorem V2_:∀ (t out:List ItemR),(Bm_ t out).length=out.length+t.length
  |[],out=>rfl
  |x::t,out=>by
    unfold Bm_ lt
    rw[V2_ t];simp;omega
theorem all_len {l:LineR} (h:LnOk l):(Es_ l).length<=64:=by
  unfold Es_
  rw[V2_]
  have :=h.1
  simp;omega
theorem V7_ {l:List DeedR} {k:Nat} {d:DeedR} (h:(PV.sl DeedR.pc l).wf) (hd:l[k]? = some d):0<=d.frm:=by
  have :=(h.2 d (List.mem_of_getElem? hd)).2.2.2.2.2.2.2.2.2.2.2.2.2.2.2.2.2.2.1
  exact this.1
def Ir_ (x:ItemR) (y:ItemR):Bool:=
 (((decide (x.mail=y.mail))&&(x.lent==y.lent))&&(x.again==y.again))
def Eo_ (s2:List BindR):List BindR->Nat->Bool
  |[],k=>true
  | x::t,k=>(bif !(decide (x=(gt s2 k))) then
 false
 else Eo_ s2 t (k+1))
def J9_ (s1:List BindR) (s2:List BindR):Bool:=
 (bif !decide ((s1.length:Int)=(s2.length:Int)) then
 false
 else Eo_ s2 s1 0)
def Ep_ (s2:List ItemR):List ItemR->Nat->Bool
  |[],k=>true
  | x::t,k=>(bif !(Ir_ x (gt s2 k)) then
 false
 else Ep_ s2 t (k+1))
def Ka_ (s1:List ItemR) (s2:List ItemR):Bool:=
 (bif !decide ((s1.length:Int)=(s2.length:Int)) then
 false
 else Ep_ s2 s1 0)
def Eq_ (s2:List Mail):List Mail->Nat->Bool
  |[],k=>true
  | x::t,k=>(bif !(decide (x=(gt s2 k))) then
 false
 else Eq_ s2 t (k+1))
def Kb_ (s1:List Mail) (s2:List Mail):Bool:=
 (bif !decide ((s1.length:Int)=(s2.length:Int)) then
 false
 else Eq_ s2 s1 0)
def Lu_ (a:LineR) (b:LineR):Bool:=
 (Ka_ a.items b.items)
def Hz_ (a:RiseR) (b:RiseR):Bool:=
 ((decide (a.total=b.total))&&(Kb_ a.kept b.kept))
def Kh_ (a:Dk_) (b:Dk_):Bool:=
 ((decide (a.total=b.total))&&(decide (a.kept=b.kept)))
def Kj_ (a:BookR) (b:BookR):Bool:=
 ((decide (a.shops=b.shops))&&(J9_ a.binds b.binds))
def H2_ (x:RowR) (y:RowR):Bool:=
 ((decide (x.q=y.q))&&(Lu_ x.l y.l))
def Fb_ (s2:List RowR):List RowR->Nat->Bool
  |[],k=>true
  | x::t,k=>(bif !(H2_ x (gt s2 k)) then
 false
 else Fb_ s2 t (k+1))
def Mb_ (s1:List RowR) (s2:List RowR):Bool:=
 (bif !decide ((s1.length:Int)=(s2.length:Int)) then
 false
 else Fb_ s2 s1 0)
def Fh_ (a:D_) (b:D_):Nat->Nat->Bool
  |0,_=>default
  | f2+1,v=>(bif decide ((v:Int)<16) then
 (bif !(Hz_ (A16.get a.rises v) (A16.get b.rises v)) then
 false
 else Fh_ a b f2 (v+1))
 else true)
def Hm_ (a:D_) (b:D_):Bool:=
 (bif (((!decide (a.next = b.next))||(!decide (a.bytes=b.bytes)))||(!(Mb_ a.rows b.rows))) then
 false
 else Fh_ a b (16-0+1) 0)
def Hn_ (a:Ar_) (b:Ar_):Bool:=
 (((((Kj_ a.book b.book)&&(Hm_ a.stock b.stock))&&(Kh_ a.notes b.notes))&&(decide (a.seen=b.seen)))&&(decide (a.spent=b.spent)))
end Go.SW.V
