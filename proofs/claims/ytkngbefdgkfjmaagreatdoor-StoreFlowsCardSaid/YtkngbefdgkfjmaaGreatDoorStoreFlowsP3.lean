/-
  A part of the proof of StoreFlows: From the data that a row's arguments read as to the ground of the walks, and back: a world seen as one that is read alone; integers, texts, bools, structs, slices opened; the row's last step. Over any program; no condition.
-/
import Derived.Test.YtkngbefdgkfjmaaGreatDoorStoreFlowsP1
import Derived.ProofKit
import Derived.OpenShut
import Derived.Deep.Slices
import Derived.Carry
import Derived.Lib.LaidTab
import Derived.SizedLaws
import Derived.Test.YtkngbefdgkfjmaaGreatDoorStoreFlowsP2
import Derived.MapKept
import Derived.ChangeKeysEq
import Derived.Below
import Derived.Laws.AppendOwn
import Derived.Lib.FieldsP
import Derived.Lib.ParseIntB
import Derived.Lib.SmallJoins
set_option linter.unusedVariables false
set_option linter.unusedSimpArgs false
set_option maxRecDepth 100000
set_option maxHeartbeats 4000000
namespace Go.SW
open Go.ChangeShapes Go.WideShapes Go.ChangeAt Go.RowKit
def hp (w:World):Hp:=fun b=>w.heap[b]?
def rest0 (w:World):Rest:=⟨fun _=>none,w.os,w.tape,w.output⟩
theorem mem0 (w:World):Mem (rest0 w) (hp w) l0 w:=
  {os:=rfl,tape:=rfl,output:=rfl,n:=fun _ _ h=>(by cases h),h:=fun _ _ h=>h,l:=fun _ _ _ h=>(by cases h),nh:=fun _ _ h=>(by cases h),nl:=fun _ _ _ h=>(by cases h),ll:=fun _ _ _ _ _ h=>(by cases h)}
theorem Wm_ {w w':World} {L:Ls} (h:Mem (rest0 w) (hp w) L w'):Below w.heap.size w w':=by
  have hb:∀ k,k<w.heap.size->w'.heap[k]? = w.heap[k]? :=fun k hk=>by
    have e:w.heap[k]? = some w.heap[k]:=Array.getElem?_eq_getElem hk
    rw[e];exact h.h k _ e
  refine⟨h.os,h.tape,h.output,?_,hb⟩
  by_cases z:w.heap.size=0
  · omega
  · have :=hb (w.heap.size-1) (by omega)
    rw[Array.getElem?_eq_getElem (show w.heap.size-1<w.heap.size by omega)] at this
    have :=(Array.getElem?_eq_some_iff.1 this).1
    omega
section
variable {Ht:Type} {enc:TypeId×Value->Ht} {P:Program} {w:World} {base fuel:Nat} {spare:Nat->Bool} {held:Bool} {cs:List Value} {x:DataW Ht×List MemPlace} {t:TypeId}
theorem rd_int {k:IntKind} (ht:P.underlying t=some (.int k)) (h:DataW.trod enc P w base spare held fuel t cs=some x):∃ z:Int,cs=[.int k z]/\k.min<=z/\z<=k.max:=by
  obtain⟨z,h1,_,h2⟩:=DataW.trod_int ht h
  refine⟨z,h1,?_⟩
  simp only[Lit.wf,Bool.and_eq_true,decide_eq_true_eq] at h2;exact h2
theorem rd_bool (ht:P.underlying t=some .bool) (h:DataW.trod enc P w base spare held fuel t cs=some x):∃ z:Bool,cs=[.bool z]:=by
  obtain⟨z,h1,_⟩:=DataW.trod_bool ht h
  exact⟨z,h1⟩
theorem rd_str (ht:P.underlying t=some .string) (h:DataW.trod enc P w base spare held fuel t cs=some x):∃ s:Bs,cs=[str s]/\s.length<=9223372036854775807:=by
  obtain⟨s,h1,_,h2⟩:=DataW.trod_string ht h
  refine⟨s.data.toList,by rw[h1,str_of],?_⟩
  have :s.data.toList.length=s.size:=Array.length_toList
  rw[this];exact h2
theorem Y4_ {α:Type} {Q:Nat->α->Prop}:∀ n,(∀ i,i<n->∃ r,Q i r)->∃ rs:List α,rs.length=n/\∀ i (h:i<rs.length),Q i rs[i]
  |0,_=>⟨[],rfl,fun i h=>by cases h⟩
  |n+1,hq=>by
    obtain⟨rs,hl,hr⟩:=Y4_ n (fun i hi=>hq i (by omega))
    obtain⟨r,hr0⟩:=hq n (by omega)
    refine⟨rs++[r],by simp[hl],fun i hi=>?_⟩
    by_cases e:i<rs.length
    · rw[List.getElem_append_left e];exact hr i e
    · have :i=rs.length:=by simp at hi;omega
      subst this
      rw[List.getElem_append_right (Nat.le_refl _)]
      simp only[Nat.sub_self,List.getElem_cons_zero]
      rw[hl];exact hr0
theorem rd_fld {fs:Array Field} {xs:List (DataW Ht×List MemPlace)} {n i o k:Nat} {f:Field} {ft:TypeId} (hf:∀ (i:Nat) (f:Field),fs[i]? = some f->DataW.trod enc P w base spare held n f.type ((cs.drop f.offset).take (P.cellsOf f.type))=xs[i]?) (hl:xs.length=fs.size)
    (hi:fs[i]? = some f) (ho:f.offset=o) (ht:f.type=ft) (hk:P.cellsOf ft=k):∃ y,DataW.trod enc P w base spare held n ft ((cs.drop o).take k)=some y:=by
  have h:=hf i f hi
  have hlt:i<fs.size:=(Array.getElem?_eq_some_iff.1 hi).1
  rw[ho,ht,hk,List.getElem?_eq_getElem (by omega)] at h
  exact⟨_,h⟩
end
theorem rd_agg {Ht:Type} {enc:TypeId×Value->Ht} {P:Program} {w:World} {r:Reach} {b0 base:Nat} {spare:Nat->Bool} {held:Bool} {t:TypeId} {fs:Array Field} {v:Value} {d:DataW Ht} {p:List MemPlace} (hs:P.underlying t=some (.struct fs)) (hv:Value.okWide P w r b0 t v)
    (h:DataW.Trod enc P w base spare held t v d p):∃ (l:List Value) (fuel:Nat),v = .agg l.toArray/\DataW.trod enc P w base spare held fuel t l=some (d,p):=by
  obtain⟨cs,rfl,_⟩:=okWide_struct hs hv
  obtain⟨fuel,hf⟩:=h
  exact⟨cs.toList,fuel,rfl,hf⟩
theorem Zx_ {P:Program} {ts:Array TypeId} (h:(ts.toList.all fun t=>P.readableRec t && decide (t<P.types.size))=true):∀ t∈ts.toList,P.readableRec t=true/\t<P.types.size:=fun t ht=>by
  have :=List.all_eq_true.1 h t ht
  simpa using this
theorem Ws_ {Ht:Type} {enc:TypeId×Value->Ht} {P:Program} {w:World} {r:Reach} {b0 base:Nat} {spare:Nat->Bool} {held:Bool} {t:TypeId} {k:IntKind} {v:Value} {d:DataW Ht} {p:List MemPlace} (hs:P.underlying t=some (.int k)) (hv:Value.okWide P w r b0 t v)
    (h:DataW.Trod enc P w base spare held t v d p):∃ z:Int,v = .int k z/\k.min<=z/\z<=k.max:=by
  obtain⟨z,rfl,_,_,hw⟩:=open_int hs hv h
  refine⟨z,rfl,?_⟩
  simp only[Lit.wf,Bool.and_eq_true,decide_eq_true_eq] at hw;exact hw
def flatD:Nat->DataW Unit->List Value
  |_, .lit (.int k n)=>[.int k n]
  |_, .lit (.string s)=>[.string ⟨s.toArray⟩]
  |_, .lit (.bool b)=>[.bool b]
  |n+1, .agg l=>l.flatMap (flatD n)
  |_,_=>[]
def layD (d:DataW Unit):Obj->Obj
  | .cells _ t frozen=> .cells (flatD 5 d).toArray t frozen
  |o=>o
theorem Qt_ {Ht:Type} {enc:TypeId×Value->Ht} {P:Program} (hl:laidOutB P=true) {W W':World} (hb:Below W.heap.size W W') {sp:Nat->Bool}:∀ {ts:List TypeId} {vs:List Value} {ds:List (DataW Ht)} {ps:List MemPlace},(∀ t∈ts,P.readableRec t=true/\t<P.types.size) ->
    DataW.TrodAll enc P W 0 (fun _=>true) true ts vs ds ps->(∀ x∈ps,x.block<W.heap.size)->(∀ x∈ps,sp x.block=true)->DataW.TrodAll enc P W' 0 sp true ts vs ds ps:=by
  intro ts
  induction ts with
  |nil=>intro vs ds ps _ h _ _;cases vs<;>cases ds<;>first|exact h|exact h.elim
  |cons t ts ih=>
    intro vs ds ps hr h hlt hsp
    obtain⟨v,vs',d,ds',p,q,rfl,rfl,rfl,h1,h2⟩:=trodAll_cons h
    exact trodAll_cons_mk (WideElems.Trod_stays hl (hr t (by simp)).1 (hr t (by simp)).2 h1 (fun x hx=>hb.same (hlt x (by simp[hx]))) (fun x hx=>hsp x (by simp[hx]))) (ih (fun u hu=>hr u (by simp[hu])) h2 (fun x hx=>hlt x (by simp[hx])) (fun x hx=>hsp x (by simp[hx])))
section
variable {Ht:Type} {enc:TypeId×Value->Ht} {P:Program}
theorem law_post {f:Func} {s:ChangeSpec} {apart fresh again:Bool} {W W':World} {args:Array Value} {ds:List (DataW Ht)} {before:List MemPlace} {tb:TypeId} (hvars:s.vars=[])
    (hW:DataW.Whole enc P f.params.toList s.vars apart W args.toList ds [] before) (hb:Below W.heap.size W W') (hl:laidOutB P=true) (hr:∀ t∈f.params.toList,P.readableRec t=true/\t<P.types.size)
    (hres:f.resultTypes = #[tb]) (hu:P.underlying tb=some .bool) (hfn:s.fn Ht (ds++[])={results:=[.lit (.bool true)],args:=ds}):s.post enc P f apart fresh false again W args (.bool true) W':=by
  have hlt:∀ p∈before,p.block<W.heap.size:=fun p hp=>hW.lt p hp
  have hold:∀ p∈before,(fun b=>decide (b<W.heap.size)) p.block=true:=fun p hp=>by simpa using hlt p hp
  have hW0:=hW
  obtain⟨p,q,hA,hV,rfl,hz,hn⟩:=hW0
  have hq:q=[]:=by
    rw[hvars] at hV
    exact (trodVars_none hV).2
  subst hq
  rw[List.append_nil] at hlt hold hz hn hW
  have hA0:DataW.TrodAll enc P W 0 (fun _=>true) true f.params.toList args.toList ds p:=hA
  have hargs:∀ sp:Nat->Bool,(∀ x∈p,sp x.block=true)->DataW.TrodAll enc P W' 0 sp true f.params.toList args.toList ds p:=fun sp hs=>Qt_ hl hb hr hA0 hlt hs
  have hvs:∀ sp:Nat->Bool,DataW.TrodVars enc P W' sp s.vars ([]:List (DataW Ht)) []:=fun sp=>by rw[hvars];rfl
  have hR:∀ (b:Nat) (sp:Nat->Bool) (hd:Bool),DataW.TrodAll enc P W' b sp hd f.resultTypes.toList ((Value.bool true).resultList f.resultTypes.size) [.lit (.bool true)] []:=fun b sp hd=>by
    rw[hres]
    exact trodAll_mk1 (shut_bool hu true)
  have hok:∀ (j:Nat) (t:TypeId) (r:Value),f.resultTypes[j]? = some t->((Value.bool true).resultList f.resultTypes.size)[j]? = some r->Value.okWide P W' .any 0 t r:=ok_one hres rfl (okWide_bool_mk hu true)
  refine⟨ds,[],p,[],p,[],hW,?_,?_,?_,World.keptBut_mono (fun x hx=>⟨hx,Or.inr (by simpa using hx)⟩) (hb.frame (· ∈ p)),fun _=>?_⟩
  · rw[hfn];exact hR _ _ _
  · rw[hfn];exact hargs _ hold
  · rw[hfn];exact hvs _
  · refine⟨hok,_,_,([]++p)++[],⟨[]++p,[],trodAll_append (hargs _ (fun _ _=>rfl)) (hR _ _ _),hvs _,rfl,?_,?_⟩,?_⟩
    · intro b off hp
      have hin:MemPlace.cell b off∈p:=by simpa using hp
      rw[hb.frozen (hlt _ hin)]
      exact hz b off hin
    · intro ha
      have :=hn ha
      simpa using this
    · intro x hx _
      simpa using hx
theorem P1_ {w:World} {g:Nat} {t:TypeId} {zero:Array Value} (h:w.ShapedOpen P) (hg:g<P.globals.size)
    (h0:((begin P (fun _ _=>0) default).world.heap[g]?).bind Obj.row?=some (zero,t)) (hz:zero.size=1)
    (hb:P.buildable t=true) (hc:P.cellTypes P.depth t=some [t]) (hu:P.underlying t=some (.int .i64)):GInt (hp w) g:=by
  obtain⟨cs,hh,hs,hr⟩:=h.1 g zero t hg h0
  obtain⟨ts,hts,_,hall⟩:=hr hb
  rw[hc] at hts
  cases hts
  have h1:0<cs.size:=by omega
  obtain⟨u,hu',hok⟩:=hall 0 cs[0] (by simp[h1])
  have :u=t:=by simpa using hu'.symm
  subst this
  unfold Cell.ok at hok
  rw[hu] at hok
  have hv:∃ m,cs[0] = .int .i64 m:=by
    cases hv:cs[0]<;>rw[hv] at hok<;>first|exact⟨_,by rw[hok.1]⟩|simp at hok
  obtain⟨m,hm⟩:=hv
  refine⟨m,u,(0,0),?_⟩
  show w.heap[g]? = _
  rw[hh]
  have e:cs = #[.int .i64 m]:=by
    apply Array.ext
    · simp;omega
    · intro i hi1 hi2
      have :i=0:=by simp at hi2;omega
      subst this
      simpa using hm
  rw[e]
end
variable {P:Program}
theorem Xq_ {Ht:Type} {enc:TypeId×Value->Ht} {w:World} {base fuel:Nat} {spare:Nat->Bool} {held:Bool} {a:Option Addr} {l c:Nat} {x:DataW Ht×List MemPlace} {t e:TypeId} (ht:P.underlying t=some (.slice e))
    (h:DataW.trod enc P w base spare held fuel t [.slice a l c]=some x):x.1 = .nil/\l=0\/∃ el sp,x.1 = .slice el sp/\el.length=l:=by
  rcases Go.Deep.open_slice ht h with ⟨h1,h2⟩|⟨a',len,cap,m,nf,D,Pl,h1,_,hl,hm,hmm,hx,_⟩
  · cases h1;subst h2;exact .inl ⟨rfl,rfl⟩
  · cases h1;subst hx;exact .inr ⟨_,_,rfl,by simp⟩
theorem Sv_ {w:World} {r:Reach} {b0:Nat} {t e:TypeId} {v:Value} {a:Option Addr} {l c:Nat} (hs:P.underlying t=some (.slice e)) (hv:Value.okWide P w r b0 t v) (he:v.cells.toList=[.slice a l c]):v = .slice a l c:=by
  unfold Value.okWide at hv
  rw[hs] at hv
  simp only at hv
  unfold Cell.okWide at hv
  rw[hs] at hv
  cases v with
  |agg cs=>simp[Cell.ok,hs] at hv
  |_=>exact (List.cons.inj he).1
end Go.SW
namespace Go.SW
open Go.ChangeShapes Go.WideShapes Go.ChangeAt Go.RowKit
variable {P:Program}
def Rdv {α:Type} (P:Program) (t:TypeId) (en:α->List PV) (k:Nat):Prop:=
  ∀ (Ht:Type) (enc:TypeId×Value->Ht) (w:World) (base:Nat) (spare:Nat->Bool) (held:Bool) (fuel:Nat) (cs:List Value) (x:DataW Ht×List MemPlace),
    DataW.trod enc P w base spare held fuel t cs=some x->(∀ n∈x.1.weights P t,n<=reachBytes)->∃ r:α,RowE en k (hp w) r cs
theorem Z7_ {α:Type} {en:α->List PV} {H:Hp} {r:α} {p:PV} {v:Value} (he:en r=[p]) (h:Sim H p v) (ho:v.oneCell'=true):RowE en 1 H r [v]:=
  ⟨by rw[he];rfl,by rw[he];exact Sims.nil.cons h,fun u hu=>by rw[List.mem_singleton.1 hu];exact ho⟩
theorem Df_ {k:IntKind} {t:TypeId} (ht:P.underlying t=some (.int k)):Rdv P t (fun z:Int=>[.int k z]) 1:=fun _ _ _ _ _ _ _ _ _ h _=>by
  obtain⟨z,rfl,h1,h2⟩:=rd_int ht h
  exact⟨z,Z7_ rfl (.int h1 h2) rfl⟩
theorem Vp_ {t:TypeId} (ht:P.underlying t=some .bool):Rdv P t (fun z:Bool=>[.bool z]) 1:=fun _ _ _ _ _ _ _ _ _ h _=>by
  obtain⟨z,rfl⟩:=rd_bool ht h
  exact⟨z,Z7_ rfl .bool rfl⟩
theorem Fl_ {t:TypeId} (ht:P.underlying t=some .string):Rdv P t (fun s:Bs=>[.str s]) 1:=fun _ _ _ _ _ _ _ _ _ h _=>by
  obtain⟨s,rfl,h1⟩:=rd_str ht h
  exact⟨s,Z7_ rfl (.str h1) rfl⟩
theorem J8_ {H:Type} {e:TypeId}:∀ {ds:List (DataW H)} {d:DataW H} {n:Nat},d∈ds->n∈d.weights P e->n∈DataW.weightsAll P e ds
  |[],_,_,h,_=>by cases h
  |d0::r,d,n,h,hn=>by
    simp only[DataW.weightsAll,List.mem_append]
    rcases List.mem_cons.1 h with rfl|q
    · exact .inl hn
    · exact .inr (J8_ q hn)
theorem Jg_ {α:Type} {en:α->List PV} {k:Nat} {t e:TypeId} (ht:P.underlying t=some (.slice e)) (hk:P.cellsOf e=k) (h0:0<k) (hb:0<P.bytesOf e) (he:Rdv P e en k):Rdv P t (fun xs:List α=>[.sl en xs]) 1:=fun Ht enc w base spare held fuel cs x h hw=>by
  have hlen:∀ {a:Option Addr} {l c:Nat},cs=[.slice a l c]->l<=140737488355328:=fun {a l c} hcs=>by
    subst hcs
    rcases Xq_ ht h with ⟨_,rfl⟩|⟨el,sp,hx,rfl⟩
    · exact Nat.zero_le _
    · have :=hw ((el.length+sp.length)*P.bytesOf e) (by rw[hx];simp[DataW.weights,ht])
      have h1:el.length<=(el.length+sp.length)*P.bytesOf e:=Nat.le_trans (Nat.le_add_right _ _) (Nat.le_mul_of_pos_right _ hb)
      have h2:reachBytes=140737488351232:=by decide
      omega
  rcases Go.Deep.open_slice ht h with ⟨h1,_⟩|⟨a,len,cap,m,nf,D,Pl,h1,_,hl,hm,hmm,hx,hi⟩
  · subst h1
    exact⟨[],Z7_ rfl (Sim.of_slh (k:=0) Ub_ (by simp)) rfl⟩
  · have hs0:0<len->a=⟨a.block,a.off,none⟩:=by
      intro hl0
      obtain⟨cs',hc,hT⟩:=hi 0 (by rw[hmm];split<;>omega)
      rw[hk,Nat.zero_mul] at hc
      obtain⟨_,hcl,hat⟩:=World.cells?_some hc
      have ha0:=hat 0 h0
      rw[List.getElem?_eq_getElem (by omega)] at ha0
      obtain⟨ab,ao,asp⟩:=a
      cases asp with
      |none=>rfl
      |some z=>
        exfalso
        unfold World.cell? at ha0
        simp only[Addr.add] at ha0
        split at ha0<;>simp at ha0
    have hwD:∀ i,i<len->∀ n∈(D i).weights P e,n<=reachBytes:=fun i hil n hn=>by
      refine hw n ?_
      rw[hx]
      simp only[DataW.weights,ht,List.mem_cons,List.mem_append]
      exact .inr (.inl (J8_ (List.mem_map.2 ⟨i,List.mem_range.2 hil,rfl⟩) hn))
    have key:∀ i,i<len->∃ r:α,∃ cs',RowE en k (hp w) r cs'/\SlAt (hp w) (.slice (some a) len cap) k i cs':=by
      intro i hil
      have ha:=hs0 (by omega)
      obtain⟨cs',hc,hT⟩:=hi i (by rw[hmm];split<;>omega)
      obtain⟨r,hr⟩:=he _ _ _ _ _ _ _ _ _ hT (hwD i hil)
      rw[hk] at hc
      obtain⟨_,hcl,hat⟩:=World.cells?_some hc
      refine⟨r,cs',hr,?_⟩
      generalize a.block=ab at ha
      generalize a.off=ao at ha
      subst ha
      simp only[D6_] at hat
      have ha0:=hat 0 h0
      rw[List.getElem?_eq_getElem (by omega)] at ha0
      unfold World.cell? at ha0
      simp only at ha0
      split at ha0
      · rename_i c T fr hb
        refine⟨ab,ao,len,cap,c,T,fr,rfl,hb,hcl,fun j hj=>?_⟩
        have :=hat j hj
        unfold World.cell? at this
        simp only at this
        rw[hb] at this
        simpa using this
      · cases ha0
    obtain⟨rs,hlen',hr⟩:=Y4_ (Q:=fun i (r:α)=>∃ cs',RowE en k (hp w) r cs'/\SlAt (hp w) (.slice (some a) len cap) k i cs') len key
    have hs:SlH (RowE en k) k (hp w) (.slice (some a) rs.length cap) rs:=⟨⟨some a,cap,rfl,by omega⟩,fun i hi=>by rw[hlen'];exact hr i hi⟩
    subst h1
    have hle:=hlen (rfl :[Value.slice (some a) len cap]=_)
    refine⟨rs,Z7_ rfl (v:= .slice (some a) len cap) (by rw[<- hlen'];exact Sim.of_slh hs (by omega)) rfl⟩
theorem rows_app {ps qs:List PV} {H:Hp} {cs ds:List Value} {m n:Nat} (h:ps.length=m/\Sims H ps cs/\∀ u∈cs,u.oneCell'=true) (k:qs.length=n/\Sims H qs ds/\∀ u∈ds,u.oneCell'=true):(ps++qs).length=m+n/\Sims H (ps++qs) (cs++ds)/\∀ u∈cs++ds,u.oneCell'=true:=
  ⟨by simp[h.1,k.1],h.2.1.append k.2.1,fun u hu=>by rcases List.mem_append.1 hu with q|q;exact h.2.2 u q;exact k.2.2 u q⟩
theorem Ar_ {Ht:Type} {enc:TypeId×Value->Ht} {w:World} {base:Nat} {spare:Nat->Bool} {held:Bool} {cs:List Value} {t:TypeId} {fs:Array Field} {xs:List (DataW Ht×List MemPlace)} {n i o k:Nat} {f:Field} {ft:TypeId} {α:Type} {en:α->List PV} (ht:P.underlying t=some (.struct fs))
    (hf:∀ (i:Nat) (f:Field),fs[i]? = some f->DataW.trod enc P w base spare held n f.type ((cs.drop f.offset).take (P.cellsOf f.type))=xs[i]?) (hl:xs.length=fs.size) (hw:∀ q∈(DataW.agg (xs.map (·.1)):DataW Ht).weights P t,q<=reachBytes)
    (hi:fs[i]? = some f) (ho:f.offset=o) (hft:f.type=ft) (hk:P.cellsOf ft=k) (hr:Rdv P ft en k):∃ r,RowE en k (hp w) r ((cs.drop o).take k):=by
  obtain⟨y,hy⟩:=rd_fld hf hl hi ho hft hk
  refine hr _ _ _ _ _ _ _ _ _ hy fun q hq=>hw q ?_
  have h:=hf i f hi
  rw[ho,hft,hk,hy] at h
  simp only[DataW.weights,ht]
  refine DataW.weights_mem_each (j:=i) (t:=ft) (d:=y.1) ?_ ?_ q hq
  · rw[List.getElem?_map,Array.getElem?_toList,hi];simp[hft]
  · rw[List.getElem?_map,<- h];rfl
theorem A6_ {en:List PV} {H:Hp} {cs:List Value} {o k:Nat} {q:Nat} (h:en.length=k/\Sims H en ((cs.drop o).take k)/\∀ u∈(cs.drop o).take k,u.oneCell'=true) {es:List PV} (hr:es.length=q/\Sims H es (cs.drop (o+k))/\∀ u∈cs.drop (o+k),u.oneCell'=true):(en++es).length=k+q/\Sims H (en++es) (cs.drop o)/\∀ u∈cs.drop o,u.oneCell'=true:=by
  have :=rows_app h hr
  rw[<- List.drop_drop,List.take_append_drop] at this
  exact this
theorem Gd_ {en:List PV} {H:Hp} {cs:List Value} {o k:Nat} (hl:cs.length=o+k) (h:en.length=k/\Sims H en ((cs.drop o).take k)/\∀ u∈(cs.drop o).take k,u.oneCell'=true):en.length=k/\Sims H en (cs.drop o)/\∀ u∈cs.drop o,u.oneCell'=true:=by
  rw[List.take_of_length_le (by simp;omega)] at h
  exact h
section
variable {Ht:Type} {enc:TypeId×Value->Ht} {w:World} {r:Reach} {b0 base:Nat} {spare:Nat->Bool} {held:Bool} {t:TypeId} {v:Value} {d:DataW Ht} {p:List MemPlace}
theorem arg_int {k:IntKind} (hs:P.underlying t=some (.int k)) (hv:Value.okWide P w r b0 t v) (h:DataW.Trod enc P w base spare held t v d p):∃ z:Int,Sim (hp w) (.int k z) v:=by
  obtain⟨z,rfl,h1,h2⟩:=Ws_ hs hv h
  exact⟨z, .int h1 h2⟩
theorem arg_rec {α:Type} {en:α->List PV} {k:Nat} {fs:Array Field} (hs:P.underlying t=some (.struct fs)) (hv:Value.okWide P w r b0 t v) (h:DataW.Trod enc P w base spare held t v d p) (hw:∀ q∈d.weights P t,q<=reachBytes) (hr:Rdv P t en k):∃ z:α,Sim (hp w) (.agg (en z)) v:=by
  obtain⟨l,fuel,rfl,h1⟩:=rd_agg hs hv h
  obtain⟨z,h2⟩:=hr _ _ _ _ _ _ _ _ _ h1 hw
  exact⟨z,Sim.toAgg h2.2.1⟩
theorem arg_sl {α:Type} {en:α->List PV} {e:TypeId} (hs:P.underlying t=some (.slice e)) (hv:Value.okWide P w r b0 t v) (h:DataW.Trod enc P w base spare held t v d p) (hw:∀ q∈d.weights P t,q<=reachBytes) (hr:Rdv P t (fun xs:List α=>[.sl en xs]) 1):∃ z:List α,Sim (hp w) (.sl en z) v:=by
  obtain⟨fuel,h1⟩:=h
  obtain⟨z,h2⟩:=hr _ _ _ _ _ _ _ _ _ h1 hw
  obtain⟨u,us,e1,h3,h4⟩:=h2.2.1.inv_cons
  cases h4.inv_nil
  have :∃ a l c,u = .slice a l c:=by cases h3;exact⟨_,_,_,rfl⟩
  obtain⟨a,l,c,rfl⟩:=this
  obtain rfl :=Sv_ hs hv e1
  exact⟨z,h3⟩
theorem wt_arg {ts:List TypeId} {ds:List (DataW Ht)} {j:Nat} (hw:(DataW.weightsEach P ts ds).all (· <= reachBytes)=true) (ht:ts[j]? = some t) (hd:ds[j]? = some d):∀ q∈d.weights P t,q<=reachBytes:=fun q hq=>by
  have :=List.all_eq_true.1 hw q (DataW.weights_mem_each ht hd q hq)
  simpa using this
end
theorem law_run {G:Gb} {f:FuncId} {args:List PV} {b:Bool} {vs:List Value} {W:World} (h:Fn P G f args (.bool b)) (hg:G.p (hp W)) (hs:Sims (hp W) args vs) (hb:b=true):Calls P f vs.toArray W fun e W'=>e = .returned (.bool true)/\Mem (rest0 W) (hp W) l0 W':=
  (h.run (rest0 W) (hp W) l0 W vs hg hs (mem0 W)).mono fun _ _ ⟨v,H',h1,h2,h3,h4⟩=>⟨by rw[h1,h2.inv_bool,hb],h4.le h3⟩
end Go.SW
namespace Go.SW.V
open Go.SW
variable {P:Program} {n m:Nat} {N:Rest} {H0:Env} {all rest:List Oper} {Q:Qs} {ks:List Kt} {fF gF:Nat->PV} {fL gL:Nat->Blk} {T ty d:Nat} {pos:String} {af:Array Edge} {x y z:Operand}
def deF (ts:List Nat) (G:Nat->PV):Nat->PV:=fun t=>bif memB ts t then G t else (match G t with
  | .osl _=> .junk
  |p=>p)
def arrU:Blk->Option Value
  | .arr u _ _ _ _=>some u
  |_=>none
def Tq_ (G:Nat->PV) (L L':Nat->Blk):List Nat->Prop
  |[]=>True
  | t::r=>(match G t with
    | .osl q=>arrU (L' q)=arrU (L q)
    |_=>True)/\Tq_ G L L' r
theorem Rf_ {G:Nat->PV} {L L':Nat->Blk}:∀ {ts:List Nat} {t q:Nat},Tq_ G L L' ts->t∈ts->G t = .osl q->arrU (L' q)=arrU (L q)
  |[],t,q,_,h,_=>by cases h
  |a::r,t,q,hk,h,hG=>by
    rcases List.mem_cons.1 h with rfl|h
    · have :=hk.1;rw[hG] at this;exact this
    · exact Rf_ hk.2 h hG
def inlK (P:Program) (n:Nat) (N:Rest) (H0:Env) (tb:Tb) (rs:List ResultVar) (ts:List Nat) (fF:Nat->PV) (fL:Nat->Blk) (Q:Qs) (all rest:List Oper) (ks:List Kt) (d:Nat):Qs:=fun e s=>(e = .normal\/e = .ret) /\
  ∃ ps as0 bs,E9_ tb s rs=some (ps,as0,bs)/\as0=bs/\(tupP ps).noOsl=true/\Tq_ fF fL s.L ts/\Hd P n N H0 Q (.ops all rest) ks ⟨updp (deF ts fF) d (tupP ps),s.L⟩
theorem inlr {H1:Env} {tb:Tb} {rs:List ResultVar} {ts:List Nat} {ps:List PV} {as0 bs:List Nat} (h:E9_ tb ⟨gF,gL⟩ rs=some (ps,as0,bs)) (he:as0=bs) (hno:(tupP ps).noOsl=true) (hk:Tq_ fF fL gL ts) (k:Hd P n N H0 Q (.ops all rest) ks ⟨updp (deF ts fF) d (tupP ps),gL⟩):Hd P m N H1 (inlK P n N H0 tb rs ts fF fL Q all rest ks d) (.ex .ret) [] ⟨gF,gL⟩:=⟨.inr rfl,ps,as0,bs,h,he,hno,hk,k⟩
theorem inln {H1:Env} {tb:Tb} {rs:List ResultVar} {ts:List Nat} {ps:List PV} {as0 bs:List Nat} (h:E9_ tb ⟨gF,gL⟩ rs=some (ps,as0,bs)) (he:as0=bs) (hno:(tupP ps).noOsl=true) (hk:Tq_ fF fL gL ts) (k:Hd P n N H0 Q (.ops all rest) ks ⟨updp (deF ts fF) d (tupP ps),gL⟩):Hd P m N H1 (inlK P n N H0 tb rs ts fF fL Q all rest ks d) (.ex .normal) [] ⟨gF,gL⟩:=⟨.inl rfl,ps,as0,bs,h,he,hno,hk,k⟩
theorem deF_ok {ts:List Nat} {H:Hp} {F:Fr} (hf:∀ t,SimT fL H (fF t) (F t)) (hk:Tq_ fF fL gL ts) (t:Nat):SimT gL H (deF ts fF t) (F t):=by
  have h1:=hf t
  unfold deF
  cases e:memB ts t with
  |true=>
    simp only[cond_true]
    cases hp:fF t with
    |osl q=>
      have h2:=Rf_ hk (Ja_ e) hp
      rw[hp] at h1
      simp only[SimT] at h1 ⊢
      cases hg:gL q with
      |arr u' k' e' enc' xs'=>
        cases hl:fL q with
        |arr u k e enc xs=>rw[hg,hl] at h2;simp only[arrU,Option.some.injEq] at h2;rw[hl] at h1;rw[h2];exact h1
        |_=>rw[hg,hl] at h2;simp[arrU] at h2
      |_=>trivial
    |_=>rw[hp] at h1;exact h1
  |false=>
    simp only[cond_false]
    cases hp:fF t with
    |osl q=>exact Sim.junk
    |_=>rw[hp] at h1;exact h1
theorem hinl {tb:Tb} {f:FuncId} {fn:Func} {c:Code} {args:List PV} {xs:Array Operand} {ats:Array TypeId} (ts:List Nat) (ht:tbB P tb=true) (hf:P.funcs[f]? = some fn) (hb:fn.body=some c) (hn:fn.ntmps=m) (hcb:Z_ P f) (ha:argsP fF x xs.toList=some (f,args)) (hs:Nat.ble args.length m=true) (hna:Bb_ args=true) (hd:Nat.blt d n=true)
    (h:∀ Hc,H0.g.p Hc->Hd P m N ⟨Hc,H0.g⟩ (inlK P n N H0 tb fn.results.toList ts fF fL Q all rest ks d) (.code c) [] ⟨Ka_ args,fL⟩):Hd P n N H0 Q (.ops all (⟨some d, .call ⟨.value x,xs,ats⟩,ty,pos,af,none⟩::rest)) ks ⟨fF,fL⟩:=by
  intro F H L hab
  obtain⟨vs,h1,h2⟩:=F6_ (ats:=ats) hab.f ha hcb
  refine ow1 fun a w hA hm=>?_
  rw[if_pos (by simp[Region.wanted])]
  unfold Oper.wp
  rw[hA.eval,h2]
  subst hn
  have h3:=h H hab.g (Gu_ vs.toArray) H L ⟨.refl H,hab.g,fun t=>Im_ h1 hna t,hab.l⟩
  refine Ew_ (R:=fun v H' L'=>∃ (sL:Nat->Blk) (res:PV),Sim H' res v/\res.noOsl=true/\Tq_ fF fL sL ts/\(∀ i,SimB sL H' (sL i) (L' i))/\H0.g.p H'/\Hd P n N H0 Q (.ops all rest) ks ⟨updp (deF ts fF) d res,sL⟩) (H0:=H) hf hb (by have :=Nat.le_of_ble_eq_true hs;simp[h1.1];exact this) (Gr_ (fun e F' H' L' hq=>?_) h3) hm ?_
  · obtain⟨s',ha',he,ps,as0,bs,e1,e2,e3,e4,e5⟩:=hq
    obtain⟨_,v,hr,hv⟩:=Ki_ (N:=N) (res:=tupP ps) ht ha' (show rtK tb fn.results.toList (tupP ps) e s' from ⟨he,ps,as0,bs,e1,e2,ple rfl⟩)
    rcases he with rfl|rfl
    · exact⟨v,hr,ha'.le,s'.L,_,hv,e3,e4,ha'.l,ha'.g,e5⟩
    · exact⟨v,hr,ha'.le,s'.L,_,hv,e3,e4,ha'.l,ha'.g,e5⟩
  · intro v H' L' w' ⟨sL,res,e1,e2,e3,e4,e5,e6⟩ hl hm'
    refine⟨_,H',L',hA.put (by simpa using hd) v,hm',?_⟩
    exact e6 _ _ _ (Abs.put (p:=res) (s:=⟨deF ts fF,sL⟩) ⟨hab.le.trans hl,e5,deF_ok (fun t=>(hab.f t).mono hl) e3,e4⟩ d (e1.simT e2))
end Go.SW.V
namespace Go.SW.V
open Go.SW
variable {P:Program} {n:Nat} {N:Rest} {H0:Env} {all rest:List Oper} {Q:Qs} {ks:List Kt} {fF:Nat->PV} {fL:Nat->Blk} {T ty d:Nat} {pos:String} {af:Array Edge} {x y z:Operand} {K:St->Prop}
end Go.SW.V
namespace Go.SW.V
open Go.SW
variable {P:Program} {n:Nat} {N:Rest} {H0:Env} {all rest:List Oper} {Q:Qs} {ks:List Kt} {fF:Nat->PV} {fL:Nat->Blk} {T ty d:Nat} {pos:String} {af:Array Edge} {x y z:Operand} {K:St->Prop}
theorem lo_aidx {F:Fr} {H:Hp} {L:Ls} {kk:IntKind} {b off len k m:Nat} {i:Int} {e:TypeId} (hx:ev F x = .pointer (some ⟨b,off,none⟩)) (hy:ev F y = .int kk i) (hT:P.underlying T=some (.array len e)) (hk:Sz P e k) (hi:i=(m:Int)) (hm:m<len):SW.Lo P N (.indexAddr T x y) ty F H L (.pointer (some ⟨b,off+m*k,none⟩)):=fun d pos af gg w _=>by
  subst hi
  simp[execOp,hy,hx,Instr.indexAt,asIntOf,run_underlying hT,Instr.sureAddr,hk w,hm,Addr.add]
theorem qaia {kk:IntKind} {i b off len k:Nat} {z:Int} {e:TypeId} (m:Nat) (hx:evP fF x = .own i b off) (hy:evP fF y = .int kk z) (hT:P.underlying T=some (.array len e)) (hk:Sz P e k) (hi:z=(m:Int)) (hm:m<len):Qy P N H0 ⟨fF,fL⟩ (.indexAddr T x y) ty (.own i b (off+m*k)):=fun F H L ha=>by
  have h1:=(Bq_ ha.f x).sim
  have h2:=(Bq_ ha.f y).sim
  simp only at h1 h2
  rw[hx] at h1
  rw[hy] at h2
  exact⟨_,Sim.own,fun _ _ _=>lo_aidx h1.inv_own h2.inv_int.1 hT hk hi hm⟩
theorem oload1 {tb:Tb} {ti:TI} {i b b' off T0:Nat} {cs:List PV} (p:PV) (ht:tbB P tb=true) (hx:evP fF x = .own i b off) (hb:fL i = .box b' T0 cs) (hbb:b'=b) (hti:lkT tb T=some ti) (hag:ti.k.isAgg=false) (hc:cs[off]? = some p) (hd:Nat.blt d n=true) (k:p.wf->K ⟨updp fF d p,fL⟩):E1 P n N H0 all ⟨some d, .load T x,ty,pos,af,none⟩ none ⟨fF,fL⟩ K:=by
  intro F H L ha
  subst hbb
  have h1:=(Bq_ ha.f x).sim
  simp only at h1
  rw[hx] at h1
  have h3:=ha.l i
  simp only[hb] at h3
  obtain⟨vs,hL,hs⟩:=h3
  obtain⟨v,hv,hsv⟩:=hs.get hc
  have hg:=(Co_ ht hti).ag
  rw[hag] at hg
  exact Kh_ hd (G2_ h1.inv_own hg hL hv) ⟨.refl H,fun _ _=>rfl,_,ha.put d hsv,k hsv.sim.wf⟩
theorem oloadA {tb:Tb} {ti:TI} {i b b' off T0:Nat} {cs:List PV} (ps:List PV) (ht:tbB P tb=true) (hx:evP fF x = .own i b off) (hb:fL i = .box b' T0 cs) (hbb:b'=b) (hti:lkT tb T=some ti) (hag:ti.k.isAgg=true) (hc:(cs.drop off).take ti.size=ps) (hl:off+ti.size<=cs.length) (hd:Nat.blt d n=true) (k:PV.wfs ps->K ⟨updp fF d (.agg ps),fL⟩):E1 P n N H0 all ⟨some d, .load T x,ty,pos,af,none⟩ none ⟨fF,fL⟩ K:=by
  intro F H L ha
  subst hbb
  have h1:=(Bq_ ha.f x).sim
  simp only at h1
  rw[hx] at h1
  have h3:=ha.l i
  simp only[hb] at h3
  obtain⟨vs,hL,hs⟩:=h3
  have hg:=(Co_ ht hti).ag
  rw[hag] at hg
  have hsv:Sims H ps ((vs.drop off).take ti.size):=by rw[<- hc];exact (hs.sims.drop off).take ti.size
  exact Kh_ hd (Mk_ (vs:=(vs.drop off).take ti.size) h1.inv_own hg (Co_ ht hti).sz hL rfl (by simp[hs.1];omega)) ⟨.refl H,fun _ _=>rfl,_,ha.put (p:= .agg ps) d (Sim.toAgg hsv),k hsv.wf⟩
theorem ostore1 {tb:Tb} {ti:TI} {i b b' off T0:Nat} {cs:List PV} {p:PV} (cs':List PV) (ht:tbB P tb=true) (hx:evP fF x = .own i b off) (hb:fL i = .box b' T0 cs) (hti:lkT tb T=some ti) (hsz:ti.size=1) (hy:evS (evP fF y)=some p) (ho:p.one=true) (hl:off<cs.length) (hbb:b'=b) (hc:cs.set off p=cs')
    (k:K ⟨fF,lups fL i (.box b T0 cs')⟩):E1 P n N H0 all ⟨none, .store T x y,ty,pos,af,none⟩ (some i) ⟨fF,fL⟩ K:=
  SW.store1 (s:=⟨fF,fL⟩) ht hx hb hti hsz hy ho (by simpa [Nat.blt_eq] using hl) hbb (by rw[hc];simp only[evL,Ln_]) k
theorem ostoreA {tb:Tb} {ti:TI} {i b b' off T0:Nat} {cs ps:List PV} (cs':List PV) (ht:tbB P tb=true) (hx:evP fF x = .own i b off) (hb:fL i = .box b' T0 cs) (hti:lkT tb T=some ti) (hy:evP fF y = .agg ps) (hn:Bb_ ps=true) (ho:all1 ps=true) (hsz:ps.length=ti.size) (hl:off+ti.size<=cs.length) (hbb:b'=b) (hc:cs.take off++(ps++cs.drop (off+ti.size))=cs')
    (k:K ⟨fF,lups fL i (.box b T0 cs')⟩):E1 P n N H0 all ⟨none, .store T x y,ty,pos,af,none⟩ (some i) ⟨fF,fL⟩ K:=
  SW.storeA (s:=⟨fF,fL⟩) ht hx hb hti hy hn ho hsz (by simpa using hl) hbb (by rw[hc];simp only[evL,Ln_]) k
theorem Kg_ {tb:Tb} {ti:TI} {i b b' off T0 len:Nat} {cs:List PV} (row:Nat->PV) (m base w o:Nat) (ht:tbB P tb=true) (hx:evP fF x = .own i b off) (hb:fL i = .box b' T0 cs) (hbb:b'=b) (hti:lkT tb T=some ti) (hag:ti.k.isAgg=false) (hoff:off=base+m*w+o) (hm:m<len) (hc:∀ q,q<len->cs[base+q*w+o]? = some (row q)) (hd:Nat.blt d n=true) (k:(row m).wf->K ⟨updp fF d (row m),fL⟩):E1 P n N H0 all ⟨some d, .load T x,ty,pos,af,none⟩ none ⟨fF,fL⟩ K:=
  oload1 (row m) ht hx hb hbb hti hag (by rw[hoff];exact hc m hm) hd k
theorem Nz_ {tb:Tb} {ti:TI} {i b b' off T0 len sz:Nat} {cs:List PV} (row:Nat->List PV) (m base w o:Nat) (ht:tbB P tb=true) (hx:evP fF x = .own i b off) (hb:fL i = .box b' T0 cs) (hbb:b'=b) (hti:lkT tb T=some ti) (hag:ti.k.isAgg=true) (hsz:ti.size=sz) (hoff:off=base+m*w+o) (hm:m<len) (hc:∀ q,q<len->(cs.drop (base+q*w+o)).take sz=row q) (hl:∀ q,q<len->Nat.ble (base+q*w+o+sz) cs.length=true) (hd:Nat.blt d n=true) (k:PV.wfs (row m)->K ⟨updp fF d (.agg (row m)),fL⟩):E1 P n N H0 all ⟨some d, .load T x,ty,pos,af,none⟩ none ⟨fF,fL⟩ K:=
  oloadA (row m) ht hx hb hbb hti hag (by rw[hoff,hsz];exact hc m hm) (by rw[hoff,hsz];simpa using hl m hm) hd k
theorem Qn_ {tb:Tb} {ti:TI} {i b b' off T0 len:Nat} {cs cs2:List PV} {p:PV} (cs':Nat->List PV) (m base w o:Nat) (ht:tbB P tb=true) (hx:evP fF x = .own i b off) (hb:fL i = .box b' T0 cs) (hti:lkT tb T=some ti) (hsz:ti.size=1) (hy:evS (evP fF y)=some p) (ho:p.one=true) (hoff:off=base+m*w+o) (hm:m<len) (hl:∀ q,q<len->Nat.blt (base+q*w+o) cs.length=true) (hbb:b'=b) (hc:∀ q,q<len->cs.set (base+q*w+o) p=cs' q) (he:evL (cs' m)=some cs2)
    (k:K ⟨fF,lups fL i (.box b T0 cs2)⟩):E1 P n N H0 all ⟨none, .store T x y,ty,pos,af,none⟩ (some i) ⟨fF,fL⟩ K:=
  ostore1 cs2 ht hx hb hti hsz hy ho (by rw[hoff];simpa [Nat.blt_eq] using hl m hm) hbb (by rw[hoff,hc m hm,<- Q7_ he]) k
theorem Vh_ {tb:Tb} {ti:TI} {i b b' off T0 len sz:Nat} {cs ps cs2:List PV} (cs':Nat->List PV) (m base w o:Nat) (ht:tbB P tb=true) (hx:evP fF x = .own i b off) (hb:fL i = .box b' T0 cs) (hti:lkT tb T=some ti) (hsz:ti.size=sz) (hy:evP fF y = .agg ps) (hn:Bb_ ps=true) (ho:all1 ps=true) (hps:ps.length=sz) (hoff:off=base+m*w+o) (hm:m<len) (hl:∀ q,q<len->Nat.ble (base+q*w+o+sz) cs.length=true) (hbb:b'=b) (hc:∀ q,q<len->cs.take (base+q*w+o)++(ps++cs.drop (base+q*w+o+sz))=cs' q) (he:evL (cs' m)=some cs2)
    (k:K ⟨fF,lups fL i (.box b T0 cs2)⟩):E1 P n N H0 all ⟨none, .store T x y,ty,pos,af,none⟩ (some i) ⟨fF,fL⟩ K:=
  ostoreA cs2 ht hx hb hti hy hn ho (by rw[hps,hsz]) (by rw[hoff,hsz];simpa using hl m hm) hbb (by rw[hoff,hsz,hc m hm,<- Q7_ he]) k
theorem bw8 {p:Nat->Prop} (h0:p 0) (h1:p 1) (h2:p 2) (h3:p 3) (h4:p 4) (h5:p 5) (h6:p 6) (h7:p 7):∀ m,m<8->p m
  |0,_=>h0|1,_=>h1|2,_=>h2|3,_=>h3|4,_=>h4|5,_=>h5|6,_=>h6|7,_=>h7
  |m+8,h=>absurd h (by omega)
theorem bw16 {p:Nat->Prop} (h0:p 0) (h1:p 1) (h2:p 2) (h3:p 3) (h4:p 4) (h5:p 5) (h6:p 6) (h7:p 7) (h8:p 8) (h9:p 9) (h10:p 10) (h11:p 11) (h12:p 12) (h13:p 13) (h14:p 14) (h15:p 15):∀ m,m<16->p m
  |0,_=>h0|1,_=>h1|2,_=>h2|3,_=>h3|4,_=>h4|5,_=>h5|6,_=>h6|7,_=>h7|8,_=>h8|9,_=>h9|10,_=>h10|11,_=>h11|12,_=>h12|13,_=>h13|14,_=>h14|15,_=>h15
  |m+16,h=>absurd h (by omega)
structure A5 (α:Type) where
  (e0 e1 e2 e3 e4:α)
deriving DecidableEq,Inhabited
structure A8 (α:Type) where
  (e0 e1 e2 e3 e4 e5 e6 e7:α)
deriving DecidableEq,Inhabited
structure A16 (α:Type) where
  (e0 e1 e2 e3 e4 e5 e6 e7 e8 e9 e10 e11 e12 e13 e14 e15:α)
deriving DecidableEq,Inhabited
def A5.get {α:Type} (a:A5 α):Nat->α
  |0=>a.e0|1=>a.e1|2=>a.e2|3=>a.e3|_=>a.e4
def A8.get {α:Type} (a:A8 α):Nat->α
  |0=>a.e0|1=>a.e1|2=>a.e2|3=>a.e3|4=>a.e4|5=>a.e5|6=>a.e6|_=>a.e7
def A16.get {α:Type} (a:A16 α):Nat->α
  |0=>a.e0|1=>a.e1|2=>a.e2|3=>a.e3|4=>a.e4|5=>a.e5|6=>a.e6|7=>a.e7|8=>a.e8|9=>a.e9|10=>a.e10|11=>a.e11|12=>a.e12|13=>a.e13|14=>a.e14|_=>a.e15
def A5.set {α:Type} (a:A5 α) (v:α):Nat->A5 α
  |0=>{a with e0:=v}|1=>{a with e1:=v}|2=>{a with e2:=v}|3=>{a with e3:=v}|_=>{a with e4:=v}
def A8.set {α:Type} (a:A8 α) (v:α):Nat->A8 α
  |0=>{a with e0:=v}|1=>{a with e1:=v}|2=>{a with e2:=v}|3=>{a with e3:=v}|4=>{a with e4:=v}|5=>{a with e5:=v}|6=>{a with e6:=v}|_=>{a with e7:=v}
def A16.set {α:Type} (a:A16 α) (v:α):Nat->A16 α
  |0=>{a with e0:=v}|1=>{a with e1:=v}|2=>{a with e2:=v}|3=>{a with e3:=v}|4=>{a with e4:=v}|5=>{a with e5:=v}|6=>{a with e6:=v}|7=>{a with e7:=v}|8=>{a with e8:=v}|9=>{a with e9:=v}|10=>{a with e10:=v}|11=>{a with e11:=v}|12=>{a with e12:=v}|13=>{a with e13:=v}|14=>{a with e14:=v}|_=>{a with e15:=v}
theorem A16.get_set {α:Type} (a:A16 α) (v:α) (m q:Nat) (hm:m<16) (hq:q<16):(a.set v m).get q = if q=m then v else a.get q:=by
  revert q
  refine bw16 (p:=fun m=>∀ q,q<16->(a.set v m).get q = if q=m then v else a.get q) ?_ ?_ ?_ ?_ ?_ ?_ ?_ ?_ ?_ ?_ ?_ ?_ ?_ ?_ ?_ ?_ m hm<;>exact bw16 rfl rfl rfl rfl rfl rfl rfl rfl rfl rfl rfl rfl rfl rfl rfl rfl
theorem A8.get_set {α:Type} (a:A8 α) (v:α) (m q:Nat) (hm:m<8) (hq:q<8):(a.set v m).get q = if q=m then v else a.get q:=by
  revert q
  refine bw8 (p:=fun m=>∀ q,q<8->(a.set v m).get q = if q=m then v else a.get q) ?_ ?_ ?_ ?_ ?_ ?_ ?_ ?_ m hm<;>exact bw8 rfl rfl rfl rfl rfl rfl rfl rfl
end Go.SW.V
namespace Go.SW
theorem Z5_ {α:Type} {enc:α->List PV} {k:Nat} {H:Hp} {p:PV} {v:Value} {o:Nat} {y:α} (ho:o<k) (hp:Sim H p v) (h1:v.oneCell'=true):∀ {xs:List α} {cs:List Value} {m:Nat},Rl (RowE enc k) H xs cs->m<xs.length->(∀ a,xs[m]? = some a->enc y=(enc a).set o p)->Rl (RowE enc k) H (xs.set m y) (cs.set (m*k+o) v)
  |[],_,_,_,hm,_=>by cases hm
  |x::xs,_,0,⟨c1,c2,e,r1,r2⟩,_,he=>by
    have ex:=he x rfl
    obtain⟨q1,q2,q3⟩:=r1
    have hl:c1.length=k:=by rw[q2.1,q1]
    refine⟨c1.set o v,c2,?_,⟨by rw[ex,List.length_set,q1],?_,?_⟩,r2⟩
    · rw[e,Nat.zero_mul,Nat.zero_add,List.set_append_left _ _ (by omega)]
    · rw[ex]
      refine⟨by simp[q2.1],fun i q w hq hw=>?_⟩
      rw[List.getElem?_set] at hq hw
      by_cases z:o=i
      · subst z
        rw[if_pos rfl,if_pos (by omega)] at hq
        rw[if_pos rfl,if_pos (by omega)] at hw
        cases hq;cases hw;exact hp
      · rw[if_neg z] at hq hw
        exact q2.2 i q w hq hw
    · intro w hw
      rcases List.mem_or_eq_of_mem_set hw with z|z
      · exact q3 w z
      · rw[z];exact h1
  |x::xs,_,m+1,⟨c1,c2,e,r1,r2⟩,hm,he=>by
    have hl:c1.length=k:=by rw[r1.2.1.1,r1.1]
    refine⟨c1,c2.set (m*k+o) v,?_,r1,Z5_ ho hp h1 r2 (by simpa using hm) (fun a ha=>he a (by simpa using ha))⟩
    rw[e,List.set_append_right _ _ (by rw[hl,Nat.add_mul];omega),hl,show (m+1)*k+o-k=m*k+o by rw[Nat.add_mul];omega]
theorem Z6_ {α:Type} {enc:α->List PV} {k:Nat} {H:Hp} {ps:List PV} {vs:List Value} {o:Nat} {y:α} (ho:o+ps.length<=k) (hp:Sims H ps vs) (h1:∀ v∈vs,v.oneCell'=true):∀ {xs:List α} {cs:List Value} {m:Nat},Rl (RowE enc k) H xs cs->m<xs.length->(∀ a,xs[m]? = some a->enc y=(enc a).take o++(ps++(enc a).drop (o+ps.length)))->Rl (RowE enc k) H (xs.set m y) (cs.take (m*k+o)++(vs++cs.drop (m*k+o+ps.length)))
  |[],_,_,_,hm,_=>by cases hm
  |x::xs,_,0,⟨c1,c2,e,r1,r2⟩,_,he=>by
    have ex:=he x rfl
    obtain⟨q1,q2,q3⟩:=r1
    have hl:c1.length=k:=by rw[q2.1,q1]
    have hv:=hp.1
    refine⟨c1.take o++(vs++c1.drop (o+ps.length)),c2,?_,⟨by rw[ex];simp;omega,?_,?_⟩,r2⟩
    · rw[e,Nat.zero_mul,Nat.zero_add,List.take_append_of_le_length (by omega),List.drop_append_of_le_length (by omega)]
      simp
    · rw[ex]
      exact Sims.append (Sims.take q2 o) (Sims.append hp (Sims.drop q2 (o+ps.length)))
    · intro w hw
      simp only[List.mem_append] at hw
      rcases hw with z|z|z
      · exact q3 w (List.mem_of_mem_take z)
      · exact h1 w z
      · exact q3 w (List.mem_of_mem_drop z)
  |x::xs,_,m+1,⟨c1,c2,e,r1,r2⟩,hm,he=>by
    have hl:c1.length=k:=by rw[r1.2.1.1,r1.1]
    refine⟨c1,c2.take (m*k+o)++(vs++c2.drop (m*k+o+ps.length)),?_,r1,Z6_ ho hp h1 r2 (by simpa using hm) (fun a ha=>he a (by simpa using ha))⟩
    rw[e,show (m+1)*k+o=c1.length+(m*k+o) by rw[hl,Nat.add_mul];omega,List.take_append,List.take_of_length_le (by omega),show c1.length+(m*k+o)-c1.length=m*k+o by omega,Nat.add_assoc,List.drop_append,List.drop_of_length_le (by omega),show c1.length+(m*k+o+ps.length)-c1.length=m*k+o+ps.length by omega]
    simp
theorem Abs.turnU {P:Program} {n:Nat} {N:Rest} {H0:Env} {s:St} {F:Fr} {H:Hp} {L:Ls} {α:Type} {u:Value} {k e:Nat} {enc:α->List PV} {xs xs':List α} (ha:Abs H0 s F H L) (i:Nat) (hb:s.L i = .arr u k e enc xs) {x:Option (Nat×Obj)} (hx:SimB s.L H (.arr u k e enc xs') x):Abs H0 ⟨s.F,lups s.L i (.arr u k e enc xs')⟩ F H (lupd L i x):=by
  have hshape:∀ {p v},SimT s.L H p v->SimT (lups s.L i (.arr u k e enc xs')) H p v:=fun {p v} h=>by
    cases p with
    |osl j=>
      by_cases e:j=i
      · subst e;simp only[SimT,Cm_,hb] at h ⊢;exact h
      · simp only[SimT,Fu_ _ _ _ _ e] at h ⊢;exact h
    |_=>exact h
  refine⟨ha.le,ha.g,fun t=>hshape (ha.f t),fun j=>?_⟩
  by_cases e:j=i
  · subst e;simp only[Cm_,Ax_];exact hx
  · simp only[Fu_ _ _ _ _ e,Au_ _ _ _ _ e]
    have h1:=ha.l j
    generalize s.L j=C at *
    cases C with
    |box b T cs=>obtain⟨vs,h2,h3,h4⟩:=h1;exact⟨vs,h2,h3,fun a p v hp hv=>hshape (h4 a p v hp hv)⟩
    |no=>trivial
    |arr u k e enc xs=>exact h1
    |itr b s p=>exact h1
    |ob b o=>exact h1
end Go.SW
namespace Go.SW.V
open Go.SW
variable {P:Program} {n:Nat} {N:Rest} {H0:Env} {all rest:List Oper} {Q:Qs} {ks:List Kt} {fF:Nat->PV} {fL:Nat->Blk} {T ty d:Nat} {pos:String} {af:Array Edge} {x y z:Operand} {K:St->Prop}
theorem lo_sidx {F:Fr} {H:Hp} {L:Ls} {kk:IntKind} {k m b o len cap:Nat} {i:Int} {e:TypeId} (hx:ev F x = .slice (some ⟨b,o,none⟩) len cap) (hy:ev F y = .int kk i) (hT:P.underlying T=some (.slice e)) (hk:Sz P e k) (hi:i=m) (hm:m<len):SW.Lo P N (.indexAddr T x y) ty F H L (.pointer (some ⟨b,o+m*k,none⟩)):=fun d pos af g w _=>by
  subst hi
  simp[execOp,hx,hy,Instr.indexAt,asIntOf,run_underlying hT,hk w,hm,D6_]
theorem Ol_ {α:Type} {s:St} {F:Fr} {H:Hp} {L:Ls} {i k e:Nat} {u:Value} {enc:α->List PV} {xs:List α} (ha:Abs H0 s F H L) (hb:s.L i = .arr u k e enc xs) (h0:0<xs.length) :
    ∃ b cap c f,u = .slice (some ⟨b,f.length,none⟩) xs.length cap/\L i=some (b,bx e (f++c))/\cap*k<=c.length/\xs.length<=cap/\Rl (RowE enc k) H xs (c.take (xs.length*k))/\xs.length<=140737488355328/\(k=1->f=[]):=by
  have h3:=ha.l i
  rw[hb] at h3
  obtain⟨cs,⟨hl,⟨_,h0',_⟩|⟨b,cap,c,f,rfl,hL,hcl,hle,htk,hff⟩⟩,hr,hm⟩:=h3
  · omega
  · exact⟨b,cap,c,f,rfl,hL,hcl,hle,by rw[htk];exact hr,hm,hff⟩
theorem eidx {α:Type} {tb:Tb} {ti te:TI} {kk:IntKind} {i e k:Nat} {z:Int} {u:Value} {enc:α->List PV} {xs:List α} (m:Nat) (ht:tbB P tb=true) (hx:evP fF x = .osl i) (hb:fL i = .arr u k e enc xs) (hy:evP fF y = .int kk z) (hti:lkT tb T=some ti) (htk:ti.k = .slc e) (hte:lkT tb e=some te) (hk:te.size=k) (hi:z=(m:Int)) (hm:m<xs.length) :
    Qy P N H0 ⟨fF,fL⟩ (.indexAddr T x y) ty (.val (.pointer (some ⟨sBlk u,sOff u+m*k,none⟩))):=fun F H L ha=>by
  have h1:=Bq_ ha.f x
  unfold Ok1 at h1
  simp only at h1
  rw[hx] at h1
  simp only[SimT,hb] at h1
  have h2:=(Bq_ ha.f y).sim
  simp only at h2
  rw[hy] at h2
  obtain⟨b,cap,c,f,rfl,hL,_⟩:=Ol_ ha (i:=i) hb (by omega)
  have hsz:=(Co_ ht hte).sz
  rw[hk] at hsz
  exact⟨_,Sim.val,fun _ _ _=>lo_sidx h1 h2.inv_int.1 ((Co_ ht hti).slc htk) hsz hi hm⟩
theorem efld {b off f o:Nat} (hx:evP fF x = .val (.pointer (some ⟨b,off,none⟩))) (hf:Fld P T f o):Qy P N H0 ⟨fF,fL⟩ (.fieldAddr T x f) ty (.val (.pointer (some ⟨b,off+o,none⟩))):=fun F H L ha=>by
  have h1:=(Bq_ ha.f x).sim
  simp only at h1
  rw[hx] at h1
  exact⟨_,Sim.val,fun _ _ _=>Ct_ h1.inv_val hf⟩
theorem row_at {α:Type} {H:Hp} {enc:α->List PV} {k m:Nat} {xs:List α} {a:α} {c:List Value} (hr:Rl (RowE enc k) H xs (c.take (xs.length*k))) (ha:xs[m]? = some a):∃ ds,RowE enc k H a ds/\∀ j,j<k->c[m*k+j]? = ds[j]? :=by
  obtain⟨hm,rfl⟩:=List.getElem?_eq_some_iff.1 ha
  obtain⟨ds,p,q⟩:=rl_at Gp_ hr m hm
  refine⟨ds,p,fun j hj=>?_⟩
  have :(m+1)*k<=xs.length*k:=Nat.mul_le_mul_right k (by omega)
  rw[Nat.add_mul] at this
  rw[<- q j hj,List.getElem?_take,if_pos (by omega)]
theorem elod1 {α:Type} {tb:Tb} {ti:TI} {i e k off:Nat} {u:Value} {enc:α->List PV} {xs:List α} {a:α} (p:PV) (m o:Nat) (ht:tbB P tb=true) (hx:evP fF x = .val (.pointer (some ⟨sBlk u,off,none⟩))) (hb:fL i = .arr u k e enc xs) (hti:lkT tb T=some ti) (hag:ti.k.isAgg=false) (ha':xs[m]? = some a) (hoff:off=sOff u+m*k+o) (hp:(enc a)[o]? = some p) (hn:p.noOsl=true) (hd:Nat.blt d n=true) (kk:p.wf->K ⟨updp fF d p,fL⟩):E1 P n N H0 all ⟨some d, .load T x,ty,pos,af,none⟩ none ⟨fF,fL⟩ K:=by
  intro F H L ha
  have h1:=(Bq_ ha.f x).sim
  simp only at h1
  rw[hx] at h1
  have hm:m<xs.length:=(List.getElem?_eq_some_iff.1 ha').1
  obtain⟨b,cap,c,f,rfl,hL,hcl,hle,hr,hbb,hff⟩:=Ol_ ha (i:=i) hb (by omega)
  obtain⟨ds,⟨q1,q2,q3⟩,q4⟩:=row_at hr ha'
  have ho:o<k:=by rw[<- q1];exact (List.getElem?_eq_some_iff.1 hp).1
  obtain⟨v,hv⟩:∃ v,ds[o]? = some v:=⟨_,List.getElem?_eq_getElem (by rw[q2.1,q1];exact ho)⟩
  have hs:=q2.2 o p v hp hv
  have hg:=(Co_ ht hti).ag
  rw[hag] at hg
  exact Kh_ hd (G2_ h1.inv_val hg hL (by rw[hoff];show (f++c)[f.length+m*k+o]? = _;rw[Nat.add_assoc,List.getElem?_append_right (by omega),Nat.add_sub_cancel_left,q4 o ho];exact hv)) ⟨.refl H,fun _ _=>rfl,_,ha.put d (hs.simT hn),kk hs.wf⟩
theorem est1 {α:Type} {tb:Tb} {ti:TI} {i e k off:Nat} {u:Value} {enc:α->List PV} {xs:List α} {p:PV} (m o:Nat) (a':α) (ht:tbB P tb=true) (hx:evP fF x = .val (.pointer (some ⟨sBlk u,off,none⟩))) (hb:fL i = .arr u k e enc xs) (hti:lkT tb T=some ti) (hsz:ti.size=1) (hy:evS (evP fF y)=some p) (ho:p.one=true) (hm:m<xs.length) (hoff:off=sOff u+m*k+o) (hok:o<k) (he:∀ a,xs[m]? = some a->enc a'=(enc a).set o p)
    (kk:K ⟨fF,lups fL i (.arr u k e enc (xs.set m a'))⟩):E1 P n N H0 all ⟨none, .store T x y,ty,pos,af,none⟩ (some i) ⟨fF,fL⟩ K:=by
  intro F H L ha
  have hy:=X2_ hy
  have h1:=(Bq_ ha.f x).sim
  simp only at h1
  rw[hx] at h1
  have h2:=(Bq_ ha.f y).sim
  simp only at h2
  rw[hy] at h2
  obtain⟨b,cap,c,f,rfl,hL,hcl,hle,hr,hbb,hff⟩:=Ol_ ha (i:=i) hb (by omega)
  have hsz':=(Co_ ht hti).sz
  rw[hsz] at hsz'
  have hlt:m*k+o<xs.length*k:=by
    have :(m+1)*k<=xs.length*k:=Nat.mul_le_mul_right k (by omega)
    rw[Nat.add_mul] at this;omega
  have hlc:xs.length*k<=c.length:=Nat.le_trans (Nat.mul_le_mul_right k hle) hcl
  subst hoff
  have hset:(f++c).set (sOff (.slice (some ⟨b,f.length,none⟩) xs.length cap)+m*k+o) (ev F y)=f++c.set (m*k+o) (ev F y):=by
    show (f++c).set (f.length+m*k+o) (ev F y)=_
    rw[Nat.add_assoc,List.set_append_right _ _ (by omega),Nat.add_sub_cancel_left]
  refine Ha_ h1.inv_val rfl (h2.one ho) hsz' hL (by simp[Nat.blt_eq,sOff];omega) ?_
  rw[hset]
  refine⟨.refl H,only,_,ha.turnU (n:=n) (N:=N) (P:=P) i hb ⟨(c.set (m*k+o) (ev F y)).take (xs.length*k),⟨by simp;omega, .inr ⟨b,cap,c.set (m*k+o) (ev F y),f,by simp,rfl,by simpa using hcl,by simpa using hle,by simp,hff⟩⟩,?_,by simpa using hbb⟩,kk⟩
  rw[List.take_set]
  exact Z5_ hok h2 (h2.one ho) hr hm he
theorem elodA {α:Type} {tb:Tb} {ti:TI} {i e k off sz:Nat} {u:Value} {enc:α->List PV} {xs:List α} {a:α} (ps:List PV) (m o:Nat) (ht:tbB P tb=true) (hx:evP fF x = .val (.pointer (some ⟨sBlk u,off,none⟩))) (hb:fL i = .arr u k e enc xs) (hti:lkT tb T=some ti) (hag:ti.k.isAgg=true) (hsz:ti.size=sz) (ha':xs[m]? = some a) (hoff:off=sOff u+m*k+o) (hp:((enc a).drop o).take sz=ps) (hos:o+sz<=k) (hd:Nat.blt d n=true) (kk:PV.wfs ps->K ⟨updp fF d (.agg ps),fL⟩):E1 P n N H0 all ⟨some d, .load T x,ty,pos,af,none⟩ none ⟨fF,fL⟩ K:=by
  intro F H L ha
  have h1:=(Bq_ ha.f x).sim
  simp only at h1
  rw[hx] at h1
  have hm:m<xs.length:=(List.getElem?_eq_some_iff.1 ha').1
  obtain⟨b,cap,c,f,rfl,hL,hcl,hle,hr,hbb,hff⟩:=Ol_ ha (i:=i) hb (by omega)
  obtain⟨ds,⟨q1,q2,q3⟩,q4⟩:=row_at hr ha'
  have hdl:ds.length=k:=by rw[q2.1,q1]
  have hsub:sub (f++c) off sz=(ds.drop o).take sz:=by
    apply List.ext_getElem?
    intro j
    simp only[sub,List.getElem?_take,List.getElem?_drop]
    by_cases z:j<sz
    · rw[if_pos z,if_pos z,hoff]
      show (f++c)[f.length+m*k+o+j]? = _
      rw[Nat.add_assoc,Nat.add_assoc,List.getElem?_append_right (by omega),Nat.add_sub_cancel_left,q4 (o+j) (by omega)]
    · rw[if_neg z,if_neg z]
  have hsv:Sims H ps ((ds.drop o).take sz):=by rw[<- hp];exact Sims.take (Sims.drop q2 o) sz
  have hg:=(Co_ ht hti).ag
  rw[hag] at hg
  have hk:=(Co_ ht hti).sz
  rw[hsz] at hk
  exact Kh_ hd (Mk_ (vs:=(ds.drop o).take sz) h1.inv_val hg hk hL hsub (by simp;omega)) ⟨.refl H,fun _ _=>rfl,_,ha.put (p:= .agg ps) d (Sim.toAgg hsv),kk hsv.wf⟩
theorem estA {α:Type} {tb:Tb} {ti:TI} {i e k off:Nat} {u:Value} {enc:α->List PV} {xs:List α} {ps:List PV} (m o:Nat) (a':α) (ht:tbB P tb=true) (hx:evP fF x = .val (.pointer (some ⟨sBlk u,off,none⟩))) (hb:fL i = .arr u k e enc xs) (hti:lkT tb T=some ti) (hy:evP fF y = .agg ps) (ho:all1 ps=true) (hsz:ps.length=ti.size) (hm:m<xs.length) (hoff:off=sOff u+m*k+o) (hok:o+ps.length<=k) (he:∀ a,xs[m]? = some a->enc a'=(enc a).take o++(ps++(enc a).drop (o+ps.length)))
    (kk:K ⟨fF,lups fL i (.arr u k e enc (xs.set m a'))⟩):E1 P n N H0 all ⟨none, .store T x y,ty,pos,af,none⟩ (some i) ⟨fF,fL⟩ K:=by
  intro F H L ha
  have h1:=(Bq_ ha.f x).sim
  simp only at h1
  rw[hx] at h1
  have h2:=(Bq_ ha.f y).sim
  simp only at h2
  rw[hy] at h2
  obtain⟨vs,hv,hvs⟩:=h2.inv_agg
  obtain⟨b,cap,c,f,rfl,hL,hcl,hle,hr,hbb,hff⟩:=Ol_ ha (i:=i) hb (by omega)
  have hsz':=(Co_ ht hti).sz
  rw[<- hsz] at hsz'
  have hlt:m*k+o+ps.length<=xs.length*k:=by
    have :(m+1)*k<=xs.length*k:=Nat.mul_le_mul_right k (by omega)
    rw[Nat.add_mul] at this;omega
  have hlc:xs.length*k<=c.length:=Nat.le_trans (Nat.mul_le_mul_right k hle) hcl
  have hvl:vs.length=ps.length:=hvs.1
  have ha1:=Mt_ hvs ho
  subst hoff
  refine N1_ (f++(c.take (m*k+o)++(vs++c.drop (m*k+o+ps.length)))) h1.inv_val hv ha1 hsz' hvl hL (by simp[Nat.ble_eq,sOff];omega) ?_ ?_
  · show (f++c).take (f.length+m*k+o)++(vs++(f++c).drop (f.length+m*k+o+ps.length))=_
    rw[Nat.add_assoc f.length,Nat.add_assoc f.length,List.take_append,List.drop_append,List.take_of_length_le (by omega),List.drop_of_length_le (by omega),Nat.add_sub_cancel_left,Nat.add_sub_cancel_left]
    simp
  refine⟨.refl H,only,_,ha.turnU (n:=n) (N:=N) (P:=P) i hb ⟨(c.take (m*k+o)++(vs++c.drop (m*k+o+ps.length))).take (xs.length*k),⟨by simp;omega, .inr ⟨b,cap,_,f,by simp,rfl,by simp;omega,by simpa using hle,by simp,hff⟩⟩,?_,by simpa using hbb⟩,kk⟩
  have e:(c.take (m*k+o)++(vs++c.drop (m*k+o+ps.length))).take (xs.length*k)=(c.take (xs.length*k)).take (m*k+o)++(vs++(c.take (xs.length*k)).drop (m*k+o+ps.length)):=by
    obtain⟨A,B,hA,hc,hAl⟩:∃ A B,c.take (xs.length*k)=A/\c=A++B/\A.length=xs.length*k:=⟨_,_,rfl,(List.take_append_drop _ _).symm,by simp;omega⟩
    rw[hA,hc,List.take_append_of_le_length (show m*k+o<=A.length by omega),List.drop_append_of_le_length (show m*k+o+ps.length<=A.length by omega),<- List.append_assoc vs,<- List.append_assoc]
    exact List.take_left' (by simp;omega)
  rw[e]
  exact Z6_ hok hvs (by simpa [List.all_eq_true] using ha1) hr hm he
theorem ecut1 {α:Type} {tb:Tb} {ti te:TI} {kk:IntKind} {i e k:Nat} {z:Int} {u:Value} {enc:α->List PV} {xs:List α} (ht:tbB P tb=true) (hx:evP fF x = .osl i) (hb:fL i = .arr u k e enc xs) (hy:evP fF y = .int kk z) (hti:lkT tb T=some ti) (htk:ti.k = .slc e) (hte:lkT tb e=some te) (hk:te.size=k) (h1:Nat.blt 1 k=true) (hi:z=1) (hm:0<xs.length) (hd:Nat.blt d n=true)
    (kk:∀ u',K ⟨updp (Fy_ i fF) d (.osl i),lups (Et_ i fL) i (.arr u' k e enc (xs.drop 1))⟩):E1 P n N H0 all ⟨some d, .slice T x (some y) none none,ty,pos,af,none⟩ (some i) ⟨fF,fL⟩ K:=by
  intro F H L ha
  have h1':=Bq_ ha.f x
  unfold Ok1 at h1'
  simp only at h1'
  rw[hx] at h1'
  simp only[SimT,hb] at h1'
  have h2:=(Bq_ ha.f y).sim
  simp only at h2
  rw[hy] at h2
  have hb':fL i = .arr u k e enc xs:=hb
  obtain⟨b,cap,c,f,rfl,hL,hcl,hle,hr,hbb,hff⟩:=Ol_ (s:=⟨fF,fL⟩) ha (i:=i) hb' hm
  have hsz:=(Co_ ht hte).sz
  rw[hk] at hsz
  have hk1:1<k:=by simpa [Nat.blt_eq] using h1
  refine Kh_ hd (I7_ 1 h1' h2.inv_int.1 ((Co_ ht hti).slc htk) hsz (by omega) (by omega)) ?_
  have hLL:lupd L i (L i)=L:=by funext j;by_cases e:j=i;(subst e;exact Ax_ _ _ _);exact Au_ _ _ _ _ e
  obtain⟨x0,xr,rfl⟩:∃ a r,xs=a::r:=by cases xs with|nil=>cases hm|cons a r=>exact⟨a,r,rfl⟩
  have hrl:=Sw_ Gp_ hr
  have :=ha.turn i (B:= .arr (.slice (slA (some ⟨b,f.length,none⟩) cap 1 k) ((x0::xr).length-1) (cap-1)) k e enc ((x0::xr).drop 1)) (x:=L i) ?_
  · rw[hLL] at this
    exact⟨.refl H,fun _ _=>rfl,_,this.put d (by simp[SimT,Cm_]),kk _⟩
  · obtain⟨c1,c2,e1,r1,r2⟩:=hr
    have hc1:c1.length=k:=by rw[r1.2.1.1,r1.1]
    have hck:cap*k=(cap-1)*k+k:=by rw[<- Nat.succ_mul];congr 1;simp only[List.length_cons] at hle;omega
    have hkc:k<=c.length:=by omega
    have hc2:c2=(c.drop k).take (xr.length*k):=by
      have :(c.take ((x0::xr).length*k)).drop k=c2:=by rw[e1,<- hc1,List.drop_left]
      rw[<- this,List.length_cons,List.drop_take,Nat.succ_mul,Nat.add_sub_cancel]
    refine⟨c2,⟨?_,?_⟩,by simpa using r2,by simp at hbb ⊢;omega⟩
    · rw[Sw_ Gp_ r2];simp
    · by_cases hc:cap=1
      · subst hc
        have :xr=[]:=List.length_eq_zero_iff.1 (by simp only[List.length_cons] at hle;omega)
        subst this
        refine .inr ⟨b,0,c,f,by simp[slA],hL,by simp,by simp,by simpa using hc2.symm,hff⟩
      · refine .inr ⟨b,cap-1,c.drop k,f++c.take k,?_,by rw[hL];simp,?_,by simp only[List.drop_one,List.tail_cons,List.length_cons] at hle ⊢;omega,?_,fun q=>by omega⟩
        · have :c.length>=k:=by omega
          simp[slA,D6_,Nat.min_eq_left this,show ¬cap<=1 by simp only[List.length_cons] at hle;omega]
          intro q;simp only[List.length_cons] at hle;omega
        · rw[List.length_drop];omega
        · rw[hc2];simp
end Go.SW.V
namespace Go.SW
variable {P:Program} {n:Nat} {N:Rest} {H0:Env} {Q:Qs} {ks:List Kt} {s:St}
theorem Op_ {α:Type} {i o b T0 k e:Nat} {cs:List PV} {c:Code} (j:Nat) (enc:α->List PV) (hb:Et_ j s.L i = .box b T0 cs) (hne:i≠j) (ho:cs[o]? = some (.val (.slice none 0 0))) (hno:s.L j = .no)
    (kk:Hd P n N H0 Q (.code c) ks ⟨Fy_ j s.F,lups (lups (Et_ j s.L) j (.arr (.slice none 0 0) k e enc [])) i (.box b T0 (cs.set o (.osl j)))⟩):Hd P n N H0 Q (.code c) ks s:=fun F H L ha=>by
  have hL0:Abs H0 s F H (lupd L j none):=⟨ha.le,ha.g,ha.f,fun q=>by
    by_cases e:q=j
    · subst e;rw[hno];trivial
    · rw[Au_ _ _ _ _ e];exact ha.l q⟩
  have h2:=hL0.turn j (B:= .arr (.slice none 0 0) k e enc []) (x:=none) ⟨[],Lc_,Vs_,by simp⟩
  have e2:lupd (lupd L j none) j none=lupd L j none:=by funext q;simp only[lupd];cases Nat.beq q j<;>rfl
  rw[e2] at h2
  have h3:=h2.l i
  simp only[Fu_ _ _ _ _ hne,hb] at h3
  obtain⟨vs,hL,hs1,hs2⟩:=h3
  have h4:=h2.turnB i (B:= .box b T0 (cs.set o (.osl j))) trivial (x:=lupd L j none i) ⟨vs,hL,by simpa using hs1,fun a p v hp hv=>by
    rw[List.getElem?_set] at hp
    by_cases z:o=a
    · subst z
      rw[if_pos rfl] at hp
      split at hp
      · cases hp
        have h5:=(hs2 o _ v ho hv).sim.inv_val
        simp only[SimT,Fu_ _ _ _ _ hne.symm,Cm_]
        exact h5
      · cases hp
    · rw[if_neg z] at hp
      have h5:=hs2 a p v hp hv
      exact Mp_ (b:=b) (T:=T0) (cs:=cs) (by simp only[Fu_ _ _ _ _ hne,hb]) h5⟩
  have e3:lupd (lupd L j none) i (lupd L j none i)=lupd L j none:=by funext q;by_cases e:q=i;(subst e;exact Ax_ _ _ _);exact Au_ _ _ _ _ e
  rw[e3] at h4
  exact Q5_ (fun w hm=>hm.clear j) (kk F H _ h4)
theorem Is_ {α:Type} {all:List Oper} {T ty i j b b' off T0 k e:Nat} {pos:String} {af:Array Edge} {x y:Operand} {K:St->Prop} {tb:Tb} {ti:TI} {cs cs':List PV} {u:Value} {enc:α->List PV} {xs:List α} (ht:tbB P tb=true) (hx:evP s.F x = .own i b off) (hb:s.L i = .box b' T0 cs) (hti:lkT tb T=some ti) (hsz:ti.size=1) (hy:evP s.F y = .osl j) (hj:s.L j = .arr u k e enc xs) (hl:Nat.blt off cs.length=true) (hbb:b'=b) (hc:cs.set off (.osl j)=cs')
    (kk:K ⟨s.F,lups s.L i (.box b T0 cs')⟩):E1 P n N H0 all ⟨none, .store T x y,ty,pos,af,none⟩ (some i) s K:=by
  intro F H L ha
  subst hbb hc
  have h1:=(Bq_ ha.f x).sim
  rw[hx] at h1
  have h2:=Bq_ ha.f y
  unfold Ok1 at h2
  rw[hy] at h2
  have h2':=h2
  simp only[SimT,hj] at h2'
  have h3:=ha.l i
  rw[hb] at h3
  obtain⟨vs,hL,hs⟩:=h3
  have h5:=ha.l j
  rw[hj] at h5
  obtain⟨cs0,ho,_,_⟩:=h5
  have hone:(ev F y).oneCell'=true:=by
    rw[h2']
    obtain⟨_,⟨rfl,_,_⟩|⟨_,_,_,_,rfl,_⟩⟩:=ho<;>rfl
  have hsz':=(Co_ ht hti).sz
  rw[hsz] at hsz'
  refine Ha_ h1.inv_own rfl hone hsz' hL (by rw[hs.1];exact hl) ?_
  refine⟨.refl H,only,_,ha.turnB (B:= .box _ T0 (cs.set off (.osl j))) i trivial ⟨_,rfl,?_⟩,kk⟩
  have h4:=hs.set off h2
  exact⟨h4.1,fun q p v hq hv=>Mp_ hb (h4.2 q p v hq hv)⟩
end Go.SW
namespace Go.SW
structure SlotR where
  chan:ChanR
  isopen:Bool
deriving DecidableEq,Inhabited
def SlotR.pc (x:SlotR):List PV:=[.int .i64 x.chan.credit, .sl Em_.pc x.chan.takers, .sl LentR.pc x.chan.lent, .bool x.chan.sure, .bool x.chan.drafts, .int .u64 x.chan.puts, .sl DeedR.pc x.chan.held.l, .bool x.isopen]
abbrev A5_SlotR:=V.A5 SlotR
def A5_SlotR.pc (x:A5_SlotR):List PV:=[.int .i64 x.e0.chan.credit, .sl Em_.pc x.e0.chan.takers, .sl LentR.pc x.e0.chan.lent, .bool x.e0.chan.sure, .bool x.e0.chan.drafts, .int .u64 x.e0.chan.puts, .sl DeedR.pc x.e0.chan.held.l, .bool x.e0.isopen, .int .i64 x.e1.chan.credit, .sl Em_.pc x.e1.chan.takers, .sl LentR.pc x.e1.chan.lent, .bool x.e1.chan.sure, .bool x.e1.chan.drafts, .int .u64 x.e1.chan.puts, .sl DeedR.pc x.e1.chan.held.l, .bool x.e1.isopen, .int .i64 x.e2.chan.credit, .sl Em_.pc x.e2.chan.takers, .sl LentR.pc x.e2.chan.lent, .bool x.e2.chan.sure, .bool x.e2.chan.drafts, .int .u64 x.e2.chan.puts, .sl DeedR.pc x.e2.chan.held.l, .bool x.e2.isopen, .int .i64 x.e3.chan.credit, .sl Em_.pc x.e3.chan.takers, .sl LentR.pc x.e3.chan.lent, .bool x.e3.chan.sure, .bool x.e3.chan.drafts, .int .u64 x.e3.chan.puts, .sl DeedR.pc x.e3.chan.held.l, .bool x.e3.isopen, .int .i64 x.e4.chan.credit, .sl Em_.pc x.e4.chan.takers, .sl LentR.pc x.e4.chan.lent, .bool x.e4.chan.sure, .bool x.e4.chan.drafts, .int .u64 x.e4.chan.puts, .sl DeedR.pc x.e4.chan.held.l, .bool x.e4.isopen]
structure Ui_ where
  place:Bs
  feed:Feed
  begun:Bool
  over:Bool
  slots:A5_SlotR
deriving Inhabited
def Ui_.pc (x:Ui_):List PV:=[.str x.place, .str x.feed.rest, .int .i64 x.feed.err, .bool x.begun, .bool x.over, .int .i64 x.slots.e0.chan.credit, .sl Em_.pc x.slots.e0.chan.takers, .sl LentR.pc x.slots.e0.chan.lent, .bool x.slots.e0.chan.sure, .bool x.slots.e0.chan.drafts, .int .u64 x.slots.e0.chan.puts, .sl DeedR.pc x.slots.e0.chan.held.l, .bool x.slots.e0.isopen, .int .i64 x.slots.e1.chan.credit, .sl Em_.pc x.slots.e1.chan.takers, .sl LentR.pc x.slots.e1.chan.lent, .bool x.slots.e1.chan.sure, .bool x.slots.e1.chan.drafts, .int .u64 x.slots.e1.chan.puts, .sl DeedR.pc x.slots.e1.chan.held.l, .bool x.slots.e1.isopen, .int .i64 x.slots.e2.chan.credit, .sl Em_.pc x.slots.e2.chan.takers, .sl LentR.pc x.slots.e2.chan.lent, .bool x.slots.e2.chan.sure, .bool x.slots.e2.chan.drafts, .int .u64 x.slots.e2.chan.puts, .sl DeedR.pc x.slots.e2.chan.held.l, .bool x.slots.e2.isopen, .int .i64 x.slots.e3.chan.credit, .sl Em_.pc x.slots.e3.chan.takers, .sl LentR.pc x.slots.e3.chan.lent, .bool x.slots.e3.chan.sure, .bool x.slots.e3.chan.drafts, .int .u64 x.slots.e3.chan.puts, .sl DeedR.pc x.slots.e3.chan.held.l, .bool x.slots.e3.isopen, .int .i64 x.slots.e4.chan.credit, .sl Em_.pc x.slots.e4.chan.takers, .sl LentR.pc x.slots.e4.chan.lent, .bool x.slots.e4.chan.sure, .bool x.slots.e4.chan.drafts, .int .u64 x.slots.e4.chan.puts, .sl DeedR.pc x.slots.e4.chan.held.l, .bool x.slots.e4.isopen]
structure TakerS where
  channel:Int
  tag:Int
  queue:Bs
deriving DecidableEq,Inhabited
def TakerS.pc (x:TakerS):List PV:=[.int .u8 x.channel, .int .u64 x.tag, .str x.queue]
structure ItemR where
  mail:Mail
  lent:Bool
  again:Bool
deriving DecidableEq,Inhabited
def ItemR.pc (x:ItemR):List PV:=[.int .u64 x.mail.id, .str x.mail.shop, .str x.mail.key, .sl Pair.pc x.mail.head, .str x.mail.body, .int .u64 x.mail.due, .int .u8 x.mail.hops, .bool x.lent, .bool x.again]
structure U_ where
  item:ItemR
  count:Int
  lost:Int
deriving DecidableEq,Inhabited
def U_.pc (x:U_):List PV:=[.int .u64 x.item.mail.id, .str x.item.mail.shop, .str x.item.mail.key, .sl Pair.pc x.item.mail.head, .str x.item.mail.body, .int .u64 x.item.mail.due, .int .u8 x.item.mail.hops, .bool x.item.lent, .bool x.item.again, .int .i64 x.count, .int .i64 x.lost]
abbrev A5_bool:=V.A5 Bool
def A5_bool.pc (x:A5_bool):List PV:=[.bool x.e0, .bool x.e1, .bool x.e2, .bool x.e3, .bool x.e4]
abbrev A5_ChanR:=V.A5 ChanR
def A5_ChanR.pc (x:A5_ChanR):List PV:=[.int .i64 x.e0.credit, .sl Em_.pc x.e0.takers, .sl LentR.pc x.e0.lent, .bool x.e0.sure, .bool x.e0.drafts, .int .u64 x.e0.puts, .sl DeedR.pc x.e0.held.l, .int .i64 x.e1.credit, .sl Em_.pc x.e1.takers, .sl LentR.pc x.e1.lent, .bool x.e1.sure, .bool x.e1.drafts, .int .u64 x.e1.puts, .sl DeedR.pc x.e1.held.l, .int .i64 x.e2.credit, .sl Em_.pc x.e2.takers, .sl LentR.pc x.e2.lent, .bool x.e2.sure, .bool x.e2.drafts, .int .u64 x.e2.puts, .sl DeedR.pc x.e2.held.l, .int .i64 x.e3.credit, .sl Em_.pc x.e3.takers, .sl LentR.pc x.e3.lent, .bool x.e3.sure, .bool x.e3.drafts, .int .u64 x.e3.puts, .sl DeedR.pc x.e3.held.l, .int .i64 x.e4.credit, .sl Em_.pc x.e4.takers, .sl LentR.pc x.e4.lent, .bool x.e4.sure, .bool x.e4.drafts, .int .u64 x.e4.puts, .sl DeedR.pc x.e4.held.l]
structure SessR where
  place:Bs
  rest:Bs
  bad:Int
  begun:Bool
  over:Bool
  opens:A5_bool
  chans:A5_ChanR
deriving DecidableEq,Inhabited
def SessR.pc (x:SessR):List PV:=[.str x.place, .str x.rest, .int .i64 x.bad, .bool x.begun, .bool x.over, .bool x.opens.e0, .bool x.opens.e1, .bool x.opens.e2, .bool x.opens.e3, .bool x.opens.e4, .int .i64 x.chans.e0.credit, .sl Em_.pc x.chans.e0.takers, .sl LentR.pc x.chans.e0.lent, .bool x.chans.e0.sure, .bool x.chans.e0.drafts, .int .u64 x.chans.e0.puts, .sl DeedR.pc x.chans.e0.held.l, .int .i64 x.chans.e1.credit, .sl Em_.pc x.chans.e1.takers, .sl LentR.pc x.chans.e1.lent, .bool x.chans.e1.sure, .bool x.chans.e1.drafts, .int .u64 x.chans.e1.puts, .sl DeedR.pc x.chans.e1.held.l, .int .i64 x.chans.e2.credit, .sl Em_.pc x.chans.e2.takers, .sl LentR.pc x.chans.e2.lent, .bool x.chans.e2.sure, .bool x.chans.e2.drafts, .int .u64 x.chans.e2.puts, .sl DeedR.pc x.chans.e2.held.l, .int .i64 x.chans.e3.credit, .sl Em_.pc x.chans.e3.takers, .sl LentR.pc x.chans.e3.lent, .bool x.chans.e3.sure, .bool x.chans.e3.drafts, .int .u64 x.chans.e3.puts, .sl DeedR.pc x.chans.e3.held.l, .int .i64 x.chans.e4.credit, .sl Em_.pc x.chans.e4.takers, .sl LentR.pc x.chans.e4.lent, .bool x.chans.e4.sure, .bool x.chans.e4.drafts, .int .u64 x.chans.e4.puts, .sl DeedR.pc x.chans.e4.held.l]
structure Act28R where
  dow:Int
  m:Method
  chunk:Bs
  tick:Int
  err:Int
  item:ItemR
  at_:Int
deriving DecidableEq,Inhabited
def Act28R.pc (x:Act28R):List PV:=[.int .u8 x.dow, .int .u8 x.m.channel, .int .u8 x.m.kind, .str x.m.name, .str x.m.other, .str x.m.key, .sl Pair.pc x.m.head, .str x.m.body, .int .u64 x.m.n, .int .u64 x.m.m, .bool x.m.yes, .str x.chunk, .int .u64 x.tick, .int .u8 x.err, .int .u64 x.item.mail.id, .str x.item.mail.shop, .str x.item.mail.key, .sl Pair.pc x.item.mail.head, .str x.item.mail.body, .int .u64 x.item.mail.due, .int .u8 x.item.mail.hops, .bool x.item.lent, .bool x.item.again, .int .u8 x.at_]
structure LabelR where
  level:Int
  set_:Int
deriving DecidableEq,Inhabited
def LabelR.pc (x:LabelR):List PV:=[.int .u8 x.level, .int .u32 x.set_]
structure PlaceR where
  name:Bs
  label:LabelR
  bytes:Int
  base:Int
deriving DecidableEq,Inhabited
def PlaceR.pc (x:PlaceR):List PV:=[.str x.name, .int .u8 x.label.level, .int .u32 x.label.set_, .int .i64 x.bytes, .int .u64 x.base]
structure GrantR where
  frm:Int
  to':Int
  budget:Int
deriving DecidableEq,Inhabited
def GrantR.pc (x:GrantR):List PV:=[.int .i64 x.frm, .int .i64 x.to', .int .i64 x.budget]
structure PolicyR where
  work:Int
  give:Int
  places:List PlaceR
  slots:List Int
  grants:List GrantR
deriving DecidableEq,Inhabited
def PolicyR.pc (x:PolicyR):List PV:=[.int .i64 x.work, .int .i64 x.give, .sl PlaceR.pc x.places, .sl i64c x.slots, .sl GrantR.pc x.grants]
structure NoteR where
  tick:Int
  kind:Int
  text:Bs
deriving DecidableEq,Inhabited
def NoteR.pc (x:NoteR):List PV:=[.int .u64 x.tick, .int .u8 x.kind, .str x.text]
structure Ef_ where
  total:Int
  kept:List NoteR
deriving DecidableEq,Inhabited
def Ef_.pc (x:Ef_):List PV:=[.int .u64 x.total, .sl NoteR.pc x.kept]
structure LineR where
  items:List ItemR
deriving DecidableEq,Inhabited
def LineR.pc (x:LineR):List PV:=[.sl ItemR.pc x.items]
structure RowR where
  q:QueueR
  l:LineR
deriving DecidableEq,Inhabited
def RowR.pc (x:RowR):List PV:=[.str x.q.name, .int .u64 x.q.most, .int .u64 x.q.life, .str x.q.dead, .sl ItemR.pc x.l.items]
structure RRowR where
  q:QueueR
  l:List ItemR
deriving DecidableEq,Inhabited
def RRowR.pc (x:RRowR):List PV:=[.str x.q.name, .int .u64 x.q.most, .int .u64 x.q.life, .str x.q.dead, .sl ItemR.pc x.l]
structure RiseR where
  total:Int
  kept:List Mail
deriving DecidableEq,Inhabited
def RiseR.pc (x:RiseR):List PV:=[.int .u64 x.total, .sl Mail.pc x.kept]
abbrev A16_RiseR:=V.A16 RiseR
def A16_RiseR.pc (x:A16_RiseR):List PV:=[.int .u64 x.e0.total, .sl Mail.pc x.e0.kept, .int .u64 x.e1.total, .sl Mail.pc x.e1.kept, .int .u64 x.e2.total, .sl Mail.pc x.e2.kept, .int .u64 x.e3.total, .sl Mail.pc x.e3.kept, .int .u64 x.e4.total, .sl Mail.pc x.e4.kept, .int .u64 x.e5.total, .sl Mail.pc x.e5.kept, .int .u64 x.e6.total, .sl Mail.pc x.e6.kept, .int .u64 x.e7.total, .sl Mail.pc x.e7.kept, .int .u64 x.e8.total, .sl Mail.pc x.e8.kept, .int .u64 x.e9.total, .sl Mail.pc x.e9.kept, .int .u64 x.e10.total, .sl Mail.pc x.e10.kept, .int .u64 x.e11.total, .sl Mail.pc x.e11.kept, .int .u64 x.e12.total, .sl Mail.pc x.e12.kept, .int .u64 x.e13.total, .sl Mail.pc x.e13.kept, .int .u64 x.e14.total, .sl Mail.pc x.e14.kept, .int .u64 x.e15.total, .sl Mail.pc x.e15.kept]
abbrev A16_u64:=V.A16 Int
def A16_u64.pc (x:A16_u64):List PV:=[.int .u64 x.e0, .int .u64 x.e1, .int .u64 x.e2, .int .u64 x.e3, .int .u64 x.e4, .int .u64 x.e5, .int .u64 x.e6, .int .u64 x.e7, .int .u64 x.e8, .int .u64 x.e9, .int .u64 x.e10, .int .u64 x.e11, .int .u64 x.e12, .int .u64 x.e13, .int .u64 x.e14, .int .u64 x.e15]
structure Cl_ where
  round:Int
  count:Int
deriving DecidableEq,Inhabited
def Cl_.pc (x:Cl_):List PV:=[.int .u64 x.round, .int .i64 x.count]
abbrev A8_SpentR:=V.A8 Cl_
def A8_SpentR.pc (x:A8_SpentR):List PV:=[.int .u64 x.e0.round, .int .i64 x.e0.count, .int .u64 x.e1.round, .int .i64 x.e1.count, .int .u64 x.e2.round, .int .i64 x.e2.count, .int .u64 x.e3.round, .int .i64 x.e3.count, .int .u64 x.e4.round, .int .i64 x.e4.count, .int .u64 x.e5.round, .int .i64 x.e5.count, .int .u64 x.e6.round, .int .i64 x.e6.count, .int .u64 x.e7.round, .int .i64 x.e7.count]
abbrev A16_i64:=V.A16 Int
def A16_i64.pc (x:A16_i64):List PV:=[.int .i64 x.e0, .int .i64 x.e1, .int .i64 x.e2, .int .i64 x.e3, .int .i64 x.e4, .int .i64 x.e5, .int .i64 x.e6, .int .i64 x.e7, .int .i64 x.e8, .int .i64 x.e9, .int .i64 x.e10, .int .i64 x.e11, .int .i64 x.e12, .int .i64 x.e13, .int .i64 x.e14, .int .i64 x.e15]
structure F_ where
  next :Int
  bytes:Int
  rows:List RowR
  rises:A16_RiseR
deriving DecidableEq,Inhabited
def F_.pc (x:F_):List PV:=[.int .u64 x.next, .int .i64 x.bytes, .sl RowR.pc x.rows, .int .u64 x.rises.e0.total, .sl Mail.pc x.rises.e0.kept, .int .u64 x.rises.e1.total, .sl Mail.pc x.rises.e1.kept, .int .u64 x.rises.e2.total, .sl Mail.pc x.rises.e2.kept, .int .u64 x.rises.e3.total, .sl Mail.pc x.rises.e3.kept, .int .u64 x.rises.e4.total, .sl Mail.pc x.rises.e4.kept, .int .u64 x.rises.e5.total, .sl Mail.pc x.rises.e5.kept, .int .u64 x.rises.e6.total, .sl Mail.pc x.rises.e6.kept, .int .u64 x.rises.e7.total, .sl Mail.pc x.rises.e7.kept, .int .u64 x.rises.e8.total, .sl Mail.pc x.rises.e8.kept, .int .u64 x.rises.e9.total, .sl Mail.pc x.rises.e9.kept, .int .u64 x.rises.e10.total, .sl Mail.pc x.rises.e10.kept, .int .u64 x.rises.e11.total, .sl Mail.pc x.rises.e11.kept, .int .u64 x.rises.e12.total, .sl Mail.pc x.rises.e12.kept, .int .u64 x.rises.e13.total, .sl Mail.pc x.rises.e13.kept, .int .u64 x.rises.e14.total, .sl Mail.pc x.rises.e14.kept, .int .u64 x.rises.e15.total, .sl Mail.pc x.rises.e15.kept]
structure S9_ where
  next :Int
  most:Int
  rows:List RRowR
  rises:A16_RiseR
deriving DecidableEq,Inhabited
def S9_.pc (x:S9_):List PV:=[.int .u64 x.next, .int .i64 x.most, .sl RRowR.pc x.rows, .int .u64 x.rises.e0.total, .sl Mail.pc x.rises.e0.kept, .int .u64 x.rises.e1.total, .sl Mail.pc x.rises.e1.kept, .int .u64 x.rises.e2.total, .sl Mail.pc x.rises.e2.kept, .int .u64 x.rises.e3.total, .sl Mail.pc x.rises.e3.kept, .int .u64 x.rises.e4.total, .sl Mail.pc x.rises.e4.kept, .int .u64 x.rises.e5.total, .sl Mail.pc x.rises.e5.kept, .int .u64 x.rises.e6.total, .sl Mail.pc x.rises.e6.kept, .int .u64 x.rises.e7.total, .sl Mail.pc x.rises.e7.kept, .int .u64 x.rises.e8.total, .sl Mail.pc x.rises.e8.kept, .int .u64 x.rises.e9.total, .sl Mail.pc x.rises.e9.kept, .int .u64 x.rises.e10.total, .sl Mail.pc x.rises.e10.kept, .int .u64 x.rises.e11.total, .sl Mail.pc x.rises.e11.kept, .int .u64 x.rises.e12.total, .sl Mail.pc x.rises.e12.kept, .int .u64 x.rises.e13.total, .sl Mail.pc x.rises.e13.kept, .int .u64 x.rises.e14.total, .sl Mail.pc x.rises.e14.kept, .int .u64 x.rises.e15.total, .sl Mail.pc x.rises.e15.kept]
structure A8_ where
  book:BookR
  stock:F_
  notes:Ef_
  seen:A16_u64
  spent:A8_SpentR
deriving DecidableEq,Inhabited
def A8_.pc (x:A8_):List PV:=[.sl ShopR.pc x.book.shops, .sl BindR.pc x.book.binds, .int .u64 x.stock.next, .int .i64 x.stock.bytes, .sl RowR.pc x.stock.rows, .int .u64 x.stock.rises.e0.total, .sl Mail.pc x.stock.rises.e0.kept, .int .u64 x.stock.rises.e1.total, .sl Mail.pc x.stock.rises.e1.kept, .int .u64 x.stock.rises.e2.total, .sl Mail.pc x.stock.rises.e2.kept, .int .u64 x.stock.rises.e3.total, .sl Mail.pc x.stock.rises.e3.kept, .int .u64 x.stock.rises.e4.total, .sl Mail.pc x.stock.rises.e4.kept, .int .u64 x.stock.rises.e5.total, .sl Mail.pc x.stock.rises.e5.kept, .int .u64 x.stock.rises.e6.total, .sl Mail.pc x.stock.rises.e6.kept, .int .u64 x.stock.rises.e7.total, .sl Mail.pc x.stock.rises.e7.kept, .int .u64 x.stock.rises.e8.total, .sl Mail.pc x.stock.rises.e8.kept, .int .u64 x.stock.rises.e9.total, .sl Mail.pc x.stock.rises.e9.kept, .int .u64 x.stock.rises.e10.total, .sl Mail.pc x.stock.rises.e10.kept, .int .u64 x.stock.rises.e11.total, .sl Mail.pc x.stock.rises.e11.kept, .int .u64 x.stock.rises.e12.total, .sl Mail.pc x.stock.rises.e12.kept, .int .u64 x.stock.rises.e13.total, .sl Mail.pc x.stock.rises.e13.kept, .int .u64 x.stock.rises.e14.total, .sl Mail.pc x.stock.rises.e14.kept, .int .u64 x.stock.rises.e15.total, .sl Mail.pc x.stock.rises.e15.kept, .int .u64 x.notes.total, .sl NoteR.pc x.notes.kept, .int .u64 x.seen.e0, .int .u64 x.seen.e1, .int .u64 x.seen.e2, .int .u64 x.seen.e3, .int .u64 x.seen.e4, .int .u64 x.seen.e5, .int .u64 x.seen.e6, .int .u64 x.seen.e7, .int .u64 x.seen.e8, .int .u64 x.seen.e9, .int .u64 x.seen.e10, .int .u64 x.seen.e11, .int .u64 x.seen.e12, .int .u64 x.seen.e13, .int .u64 x.seen.e14, .int .u64 x.seen.e15, .int .u64 x.spent.e0.round, .int .i64 x.spent.e0.count, .int .u64 x.spent.e1.round, .int .i64 x.spent.e1.count, .int .u64 x.spent.e2.round, .int .i64 x.spent.e2.count, .int .u64 x.spent.e3.round, .int .i64 x.spent.e3.count, .int .u64 x.spent.e4.round, .int .i64 x.spent.e4.count, .int .u64 x.spent.e5.round, .int .i64 x.spent.e5.count, .int .u64 x.spent.e6.round, .int .i64 x.spent.e6.count, .int .u64 x.spent.e7.round, .int .i64 x.spent.e7.count]
structure C_ where
  x:A8_
  policy:PolicyR
  place:Int
deriving DecidableEq,Inhabited
def C_.pc (x:C_):List PV:=[.sl ShopR.pc x.x.book.shops, .sl BindR.pc x.x.book.binds, .int .u64 x.x.stock.next, .int .i64 x.x.stock.bytes, .sl RowR.pc x.x.stock.rows, .int .u64 x.x.stock.rises.e0.total, .sl Mail.pc x.x.stock.rises.e0.kept, .int .u64 x.x.stock.rises.e1.total, .sl Mail.pc x.x.stock.rises.e1.kept, .int .u64 x.x.stock.rises.e2.total, .sl Mail.pc x.x.stock.rises.e2.kept, .int .u64 x.x.stock.rises.e3.total, .sl Mail.pc x.x.stock.rises.e3.kept, .int .u64 x.x.stock.rises.e4.total, .sl Mail.pc x.x.stock.rises.e4.kept, .int .u64 x.x.stock.rises.e5.total, .sl Mail.pc x.x.stock.rises.e5.kept, .int .u64 x.x.stock.rises.e6.total, .sl Mail.pc x.x.stock.rises.e6.kept, .int .u64 x.x.stock.rises.e7.total, .sl Mail.pc x.x.stock.rises.e7.kept, .int .u64 x.x.stock.rises.e8.total, .sl Mail.pc x.x.stock.rises.e8.kept, .int .u64 x.x.stock.rises.e9.total, .sl Mail.pc x.x.stock.rises.e9.kept, .int .u64 x.x.stock.rises.e10.total, .sl Mail.pc x.x.stock.rises.e10.kept, .int .u64 x.x.stock.rises.e11.total, .sl Mail.pc x.x.stock.rises.e11.kept, .int .u64 x.x.stock.rises.e12.total, .sl Mail.pc x.x.stock.rises.e12.kept, .int .u64 x.x.stock.rises.e13.total, .sl Mail.pc x.x.stock.rises.e13.kept, .int .u64 x.x.stock.rises.e14.total, .sl Mail.pc x.x.stock.rises.e14.kept, .int .u64 x.x.stock.rises.e15.total, .sl Mail.pc x.x.stock.rises.e15.kept, .int .u64 x.x.notes.total, .sl NoteR.pc x.x.notes.kept, .int .u64 x.x.seen.e0, .int .u64 x.x.seen.e1, .int .u64 x.x.seen.e2, .int .u64 x.x.seen.e3, .int .u64 x.x.seen.e4, .int .u64 x.x.seen.e5, .int .u64 x.x.seen.e6, .int .u64 x.x.seen.e7, .int .u64 x.x.seen.e8, .int .u64 x.x.seen.e9, .int .u64 x.x.seen.e10, .int .u64 x.x.seen.e11, .int .u64 x.x.seen.e12, .int .u64 x.x.seen.e13, .int .u64 x.x.seen.e14, .int .u64 x.x.seen.e15, .int .u64 x.x.spent.e0.round, .int .i64 x.x.spent.e0.count, .int .u64 x.x.spent.e1.round, .int .i64 x.x.spent.e1.count, .int .u64 x.x.spent.e2.round, .int .i64 x.x.spent.e2.count, .int .u64 x.x.spent.e3.round, .int .i64 x.x.spent.e3.count, .int .u64 x.x.spent.e4.round, .int .i64 x.x.spent.e4.count, .int .u64 x.x.spent.e5.round, .int .i64 x.x.spent.e5.count, .int .u64 x.x.spent.e6.round, .int .i64 x.x.spent.e6.count, .int .u64 x.x.spent.e7.round, .int .i64 x.x.spent.e7.count, .int .i64 x.policy.work, .int .i64 x.policy.give, .sl PlaceR.pc x.policy.places, .sl i64c x.policy.slots, .sl GrantR.pc x.policy.grants, .int .i64 x.place]
structure W5_ where
  p:PolicyR
  at_:Int
  book:BookR
  stock:S9_
  notes:Ef_
  seen:A16_u64
  spent:A8_SpentR
deriving DecidableEq,Inhabited
def W5_.pc (x:W5_):List PV:=[.int .i64 x.p.work, .int .i64 x.p.give, .sl PlaceR.pc x.p.places, .sl i64c x.p.slots, .sl GrantR.pc x.p.grants, .int .i64 x.at_, .sl ShopR.pc x.book.shops, .sl BindR.pc x.book.binds, .int .u64 x.stock.next, .int .i64 x.stock.most, .sl RRowR.pc x.stock.rows, .int .u64 x.stock.rises.e0.total, .sl Mail.pc x.stock.rises.e0.kept, .int .u64 x.stock.rises.e1.total, .sl Mail.pc x.stock.rises.e1.kept, .int .u64 x.stock.rises.e2.total, .sl Mail.pc x.stock.rises.e2.kept, .int .u64 x.stock.rises.e3.total, .sl Mail.pc x.stock.rises.e3.kept, .int .u64 x.stock.rises.e4.total, .sl Mail.pc x.stock.rises.e4.kept, .int .u64 x.stock.rises.e5.total, .sl Mail.pc x.stock.rises.e5.kept, .int .u64 x.stock.rises.e6.total, .sl Mail.pc x.stock.rises.e6.kept, .int .u64 x.stock.rises.e7.total, .sl Mail.pc x.stock.rises.e7.kept, .int .u64 x.stock.rises.e8.total, .sl Mail.pc x.stock.rises.e8.kept, .int .u64 x.stock.rises.e9.total, .sl Mail.pc x.stock.rises.e9.kept, .int .u64 x.stock.rises.e10.total, .sl Mail.pc x.stock.rises.e10.kept, .int .u64 x.stock.rises.e11.total, .sl Mail.pc x.stock.rises.e11.kept, .int .u64 x.stock.rises.e12.total, .sl Mail.pc x.stock.rises.e12.kept, .int .u64 x.stock.rises.e13.total, .sl Mail.pc x.stock.rises.e13.kept, .int .u64 x.stock.rises.e14.total, .sl Mail.pc x.stock.rises.e14.kept, .int .u64 x.stock.rises.e15.total, .sl Mail.pc x.stock.rises.e15.kept, .int .u64 x.notes.total, .sl NoteR.pc x.notes.kept, .int .u64 x.seen.e0, .int .u64 x.seen.e1, .int .u64 x.seen.e2, .int .u64 x.seen.e3, .int .u64 x.seen.e4, .int .u64 x.seen.e5, .int .u64 x.seen.e6, .int .u64 x.seen.e7, .int .u64 x.seen.e8, .int .u64 x.seen.e9, .int .u64 x.seen.e10, .int .u64 x.seen.e11, .int .u64 x.seen.e12, .int .u64 x.seen.e13, .int .u64 x.seen.e14, .int .u64 x.seen.e15, .int .u64 x.spent.e0.round, .int .i64 x.spent.e0.count, .int .u64 x.spent.e1.round, .int .i64 x.spent.e1.count, .int .u64 x.spent.e2.round, .int .i64 x.spent.e2.count, .int .u64 x.spent.e3.round, .int .i64 x.spent.e3.count, .int .u64 x.spent.e4.round, .int .i64 x.spent.e4.count, .int .u64 x.spent.e5.round, .int .i64 x.spent.e5.count, .int .u64 x.spent.e6.round, .int .i64 x.spent.e6.count, .int .u64 x.spent.e7.round, .int .i64 x.spent.e7.count]
structure OutR where
  queue:Bs
  mail:Mail
deriving DecidableEq,Inhabited
def OutR.pc (x:OutR):List PV:=[.str x.queue, .int .u64 x.mail.id, .str x.mail.shop, .str x.mail.key, .sl Pair.pc x.mail.head, .str x.mail.body, .int .u64 x.mail.due, .int .u8 x.mail.hops]
variable {P:Program} {n:Nat} {N:Rest} {H0:Env} {all:List Oper} {Q:Qs} {ks:List Kt} {s:St}
end Go.SW
namespace Go.SW.V
open Go.SW
variable {P:Program} {n:Nat} {N:Rest} {H0:Env} {all:List Oper} {Q:Qs} {ks:List Kt} {fF:Nat->PV} {fL:Nat->Blk}
end Go.SW.V
namespace Go.SW
variable {P:Program} {n:Nat} {N:Rest} {H0:Env} {all:List Oper} {Q:Qs} {ks:List Kt} {s:St}
theorem vw_l {ops:List Oper} {Lk:Ls} {Q:Qt} {fuel:Nat} {listed:Array Bool} {F:Fr} {H:Hp} {L:Ls} (i0:Nat) (r:List Nat) (hr:Region.ready .any ops.toArray listed=i0::r)
    (h:∀ i∈i0::r,∃ o,ops[i]? = some o/\Op1 P n N ops o (fun F' H' L'=>(HLe H H'/\LLe Lk L')/\Vw P n N ops Lk Q fuel (listed.setIfInBounds i true) F' H' L') F H L):Vw P n N ops Lk Q (fuel+1) listed F H L:=by
  refine⟨fun q=>(by rw[hr] at q;cases q),fun j hj a w ha hm=>?_⟩
  rw[hr] at hj
  obtain⟨o,ho,h1⟩:=h j hj
  exact wpOp_mono (fun a' w' ⟨F',H',L',x,y,z1,z2⟩=>⟨F',H',L',x,y, .inl ⟨z1.1, .inl z1.2⟩,z2⟩) (Mm_ ho h1 a w ha hm)
def Ej (P:Program) (n:Nat) (N:Rest) (H0:Env) (all:List Oper) (o:Oper) (xs:List Nat) (s:St) (K:St->Prop):Prop:=∃ j:Option Nat,(match j with|none=>true|some j=>memB xs j)=true/\E1 P n N H0 all o j s K
theorem ej {o:Oper} {xs:List Nat} {K:St->Prop} {j:Option Nat} (hj:(match j with|none=>true|some j=>memB xs j)=true) (h:E1 P n N H0 all o j s K):Ej P n N H0 all o xs s K:=⟨j,hj,h⟩
def AllE (P:Program) (n:Nat) (N:Rest) (H0:Env) (all:List Oper) (Q:Qs) (xs:List Nat) (fuel:Nat) (listed:Array Bool) (ks:List Kt) (s:St):List Nat->Prop
  |[]=>True
  |i::r=>(∃ o,nth all i=some o/\Ej P n N H0 all o xs s (fun s'=>Hv P n N H0 Q (some xs) all fuel (listed.setIfInBounds i true) ks s'))/\AllE P n N H0 all Q xs fuel listed ks s r
theorem Uj_ {xs:List Nat} {fuel:Nat} {listed:Array Bool}:∀ {r:List Nat} {i:Nat},AllE P n N H0 all Q xs fuel listed ks s r->i∈r->∃ o,nth all i=some o/\Ej P n N H0 all o xs s (fun s'=>Hv P n N H0 Q (some xs) all fuel (listed.setIfInBounds i true) ks s')
  |[],i,_,h=>by cases h
  |a::r,i,h,hm=>by
    rcases List.mem_cons.1 hm with e|q
    · subst e;exact h.1
    · exact Uj_ h.2 q
theorem veL {xs:List Nat} {fuel:Nat} {listed:Array Bool} (i0:Nat) (r:List Nat) (hr:Region.ready .any all.toArray listed=i0::r) (h:AllE P n N H0 all Q xs fuel listed ks s (i0::r)):Hv P n N H0 Q (some xs) all (fuel+1) listed ks s:=by
  intro F H L Lk ha hL
  refine vw_l i0 r hr fun i hi=>?_
  obtain⟨o,ho,j,hj,he⟩:=Uj_ h hi
  rw[Gk_] at ho
  have hle:∀ L':Ls,(∀ i,j≠some i->L' i=L i)->LkR (some xs) Lk L':=fun L' hL' i=>by
    rw[hL i]
    cases e:memB xs i with
    |true=>rfl
    |false=>
      refine (hL' i fun z=>?_).symm
      subst z
      simp only at hj
      rw[e] at hj;cases hj
  have hlle:∀ L':Ls,(∀ i,j≠some i->L' i=L i)->LLe Lk L':=fun L' hL' i x hx=>by
    have :=hle L' hL' i
    rw[this] at hx
    cases e:memB xs i with
    |true=>rw[e] at hx;cases hx
    |false=>rw[e] at hx;exact hx
  exact⟨o,ho,(he F H L ha).imp fun F' H' L' ⟨h1,h2,s',h3,h4⟩=>⟨⟨h1,hlle L' h2⟩,h4 F' H' L' Lk h3 (hle L' h2)⟩⟩
end Go.SW
namespace Go.SW.V
open Go.SW
variable {P:Program} {n:Nat} {N:Rest} {H0:Env} {all:List Oper} {Q:Qs} {ks:List Kt} {fF:Nat->PV} {fL:Nat->Blk}
theorem roN {α:Type} {tb:Tb} {rs:List ResultVar} {ps:List PV} {res:Value->PV} {k e j:Nat} {enc:α->List PV} {xs xs':List α} {as0 bs:List Nat} {u0:Value} (u:Value) (h:E9_ tb ⟨fF,fL⟩ rs=some (ps,as0,bs)) (he:as0=bs) (hL:fL j = .arr u0 k e enc xs') (hu:u0=u) (hx:xs'=xs) (hp:PLe (tupP ps) (res u)):Hd P n N H0 (foK tb rs res k e enc xs) (.ex .ret) [] ⟨fF,fL⟩:=
  ⟨u,j,⟨.inr rfl,_,as0,bs,h,he,hp⟩,by show fL j=_;rw[hL,hx,hu]⟩
end Go.SW.V
namespace Go.SW.V
open Go.SW
variable {P:Program} {n:Nat} {N:Rest} {H0:Env} {all:List Oper} {Q:Qs} {ks:List Kt} {fF:Nat->PV} {fL:Nat->Blk} {T ty:Nat} {x y:Operand}
theorem lo_aidxA {F:Fr} {H:Hp} {L:Ls} {kk:IntKind} {len k m:Nat} {i:Int} {e:TypeId} {cs vs:List Value} (hx:ev F x = .agg cs.toArray) (hy:ev F y = .int kk i) (hT:P.underlying T=some (.array len e)) (hg:Ag P e true) (hk:Sz P e k) (hi:i=(m:Int)) (hm:m<len) (hv:sub cs (m*k) k=vs):SW.Lo P N (.index T x y) ty F H L (.agg vs.toArray):=fun d pos af gg w _=>by
  subst hi
  simp[execOp,hy,hx,Instr.index,asIntOf,run_underlying hT,hk w,hm,part_A hg hk hv]
theorem qaivA {tb:Tb} {te:TI} {kk:IntKind} {len k:Nat} {e:TypeId} {z:Int} {cs:List PV} (row:Nat->List PV) (m:Nat) (ht:tbB P tb=true) (hx:evP fF x = .agg cs) (hy:evP fF y = .int kk z) (hT:P.underlying T=some (.array len e)) (hte:lkT tb e=some te) (hag:te.k.isAgg=true) (hsz:te.size=k) (hi:z=(m:Int)) (hm:m<len) (hc:∀ q,q<len->(cs.drop (q*k)).take k=row q):Qy P N H0 ⟨fF,fL⟩ (.index T x y) ty (.agg (row m)):=fun F H L ha=>by
  have h1:=(Bq_ ha.f x).sim
  have h2:=(Bq_ ha.f y).sim
  simp only at h1 h2
  rw[hx] at h1
  rw[hy] at h2
  obtain⟨vs,e1,h3⟩:=h1.inv_agg
  have hg:=(Co_ ht hte).ag
  rw[hag] at hg
  have hk:=(Co_ ht hte).sz
  rw[hsz] at hk
  exact⟨_,Sim.toAgg (by rw[<- hc m hm];exact (h3.drop _).take _),fun _ _ _=>lo_aidxA e1 h2.inv_int.1 hT hg hk hi hm rfl⟩
end Go.SW.V
namespace Go.SW
variable {P:Program} {n:Nat} {N:Rest} {H0:Env} {all rest:List Oper} {Q:Qs} {ks:List Kt} {s:St} {T ty d:Nat} {pos:String} {af:Array Edge} {x y:Operand} {K:St->Prop} {op:Op} {p:PV}
end Go.SW
namespace Go.SW.V
open Go.SW
variable {P:Program} {n:Nat} {N:Rest} {H0:Env} {ks:List Kt} {fF:Nat->PV} {fL:Nat->Blk} {tb:Tb} {rs:List ResultVar} {res p q r t u:PV} {as0 bs:List Nat}
theorem rt4 (h:E9_ tb ⟨fF,fL⟩ rs=some ([p,q,r,t],as0,bs)) (he:as0=bs) (hp:PLe (.tup [p,q,r,t]) res):Hd P n N H0 (rtK tb rs res) (.ex .ret) [] ⟨fF,fL⟩:=rt h he hp
end Go.SW.V
namespace Go.SW
open Go.MapKept
variable {P:Program} {n:Nat} {N:Rest} {ops:List Oper} {F:Fr} {H:Hp} {L:Ls} {K:Fr->Hp->Ls->Prop} {T ty d:Nat} {pos:String} {af:Array Edge} {x y z:Operand} {κ ν:Type}
end Go.SW
namespace Go.SW.V
open Go.SW
variable {P:Program} {n:Nat} {N:Rest} {H0:Env} {all rest:List Oper} {Q:Qs} {ks:List Kt} {fF:Nat->PV} {fL:Nat->Blk} {T ty d:Nat} {pos:String} {af:Array Edge} {x y z:Operand} {K:St->Prop} {κ ν:Type}
end Go.SW.V
namespace Go.SW
variable {P:Program} {n:Nat} {N:Rest} {H0:Env} {all rest:List Oper} {Q:Qs} {ks:List Kt} {s:St} {T T' T2 ty d:Nat} {pos:String} {af:Array Edge} {x y z:Operand} {K:St->Prop} {op:Op} {p:PV}
structure Fx {α:Type} (P:Program) (G:Gb) (f:FuncId) (a0:PV) (args:List PV) (res:PV) (k e:Nat) (enc:α->List PV) (xs:List α):Prop where
  cb:Z_ P f
  no:res.noOsl=true
  run:∀ (N:Rest) (H:Hp) (L:Ls) (w:World) (i:Nat) (v0 u:Value) (vs:List Value),G.p H->SimB (fun _=> .no) H (.arr u k e enc xs) (L i)->Sims H (a0::args) (v0::vs)->Mem N H L w ->
    Calls P f (v0::u::vs).toArray w fun e' w'=>∃ v H',e' = .returned v/\Sim H' res v/\HLe H H'/\Mem N H' (lupd L i none) w'
theorem fx_cw {α:Type} {tb:Tb} {G:Gb} {m:Nat} {f:FuncId} {fn:Func} {c:Code} {a0:PV} {args:List PV} {res:PV} {k e:Nat} {enc:α->List PV} {xs:List α} (ht:tbB P tb=true) (hf:P.funcs[f]? = some fn) (hb:fn.body=some c) (hn:fn.ntmps=m) (hs:Nat.ble (args.length+2) m=true) (hcb:Z_ P f) (hno:res.noOsl=true) (hna:Bb_ (a0::args)=true)
    (h:PV.wfs (a0::args)->xs.length<=140737488355328->∀ u N H,G.p H->Hd P m N ⟨H,G⟩ (rtK tb fn.results.toList res) (.code c) [] ⟨Ka_ (a0 :: .osl 0::args),lups (fun _=> .no) 0 (.arr u k e enc xs)⟩):Fx P G f a0 args res k e enc xs:=by
  refine⟨hcb,hno,fun N H L w i v0 u vs hg hB hsim hm=>?_⟩
  subst hn
  have key:Pl P f (v0::u::vs).toArray H (L i) (fun v H' _=>Sim H' res v):=by
    refine Vk_ hf hb (by have :=Nat.le_of_ble_eq_true hs;have :=hsim.1;simp at this ⊢;omega) fun N=>?_
    have hlen:xs.length<=140737488355328:=by obtain⟨_,_,_,q⟩:=hB;exact q
    have h1:=h hsim.wf hlen u N H hg (Gu_ (v0::u::vs).toArray) H (ofE (L i)) ⟨.refl H,hg,fun t=>?_,fun j=>?_⟩
    · refine Gr_ (fun e' F' H' L' hq=>?_) h1
      obtain⟨s',ha',hq'⟩:=hq
      obtain⟨he,v,hr,hv⟩:=Ki_ (N:=N) ht ha' hq'
      rcases he with rfl|rfl
      · exact⟨v,hr,ha'.le,0,hv⟩
      · exact⟨v,hr,ha'.le,0,hv⟩
    · have hi:=Im_ (sL:=lups (fun _=> .no) 0 (.arr u k e enc xs)) hsim hna
      match t with
      |0=>simpa [Ka_,nth,Gu_] using hi 0
      |1=>simp[Ka_,nth,SimT,Cm_,Gu_]
      |t+2=>simpa [Ka_,nth,Gu_] using hi (t+1)
    · by_cases e1:j=0
      · subst e1
        simp only[Cm_]
        have :ofE (L i) 0=L i:=by cases L i<;>rfl
        rw[this];exact hB
      · simp only[Fu_ _ _ _ _ e1];trivial
  refine (key N L w i rfl hm).mono fun _ _ ⟨v,H',en,h1,h5,h3,h4⟩=>⟨v,H',h1,h5,h3,?_⟩
  have h6:=h4.clear i
  have heq:lupd (lupd L i en) i none=lupd L i none:=funext fun j=>by
    by_cases q:j=i
    · subst q;rw[Ax_,Ax_]
    · rw[Au_ _ _ _ _ q,Au_ _ _ _ _ q,Au_ _ _ _ _ q]
  rwa [heq] at h6
theorem ecallx' {α:Type} {f:FuncId} {a0:PV} {args:List PV} {res:PV} {i k e k2 e2:Nat} {enc:α->List PV} {xs:List α} {u:Value} {as0:Array Operand} {ats:Array TypeId} (h:Fx P H0.g f a0 args res k e enc xs) (hx:evP s.F x = .fn f [] []) (ha:evPs s.F as0.toList=a0 :: .osl i::args) (hna:Bb_ (a0::args)=true) (hb:s.L i = .arr u k2 e2 enc xs) (hk:k2=k) (he2:e2=e) (hd:Nat.blt d n=true)
    (kk:res.wf->K ⟨updp (Fy_ i s.F) d res,lups (Et_ i s.L) i .no⟩):E1 P n N H0 all ⟨some d, .call ⟨.value x,as0,ats⟩,ty,pos,af,none⟩ (some i) s K:=by
  intro F H L hab
  subst hk;subst he2
  have h1:=(Bq_ hab.f x).sim
  rw[hx] at h1
  obtain⟨v1,v2,ex,h2,h3⟩:=h1.inv_fn
  cases h2.inv_nil
  cases h3.inv_nil
  have hsT:=Pu_ (Ls:=s.L) (H:=H) (F:=F) (G:=s.F) (xs:=as0.toList) fun y _=>Bq_ hab.f y
  rw[ha] at hsT
  have hB:=hab.l i
  rw[hb] at hB
  cases hev:evs F as0.toList with
  |nil=>have :=hsT.1;rw[hev] at this;simp at this
  |cons v0 vs1=>cases vs1 with
    |nil=>have :=hsT.1;rw[hev] at this;simp at this
    |cons v1 vs=>
    rw[hev] at hsT
    have h4:=hsT.2 1 _ _ rfl rfl
    simp only[SimT,hb] at h4
    subst h4
    have h5:Sims H (a0::args) (v0::vs):=by
      obtain⟨q,r,e3,q1,q2⟩:=hsT.sims.inv_cons
      cases e3
      obtain⟨q',r',e4,_,q4⟩:=q2.inv_cons
      cases e4
      exact q4.cons q1
    have hen:En P (.call ⟨.value x,as0,ats⟩) F f (v0::v1::vs).toArray:=by
      have :=Xy_ (ats:=ats) (xs:=as0) ex h.cb
      rw[hev] at this
      simpa using this
    intro a w hA hm
    rw[if_pos (by simp[Region.wanted])]
    unfold Oper.wp
    rw[hA.eval,hen]
    refine (h.run N H L w i v0 v1 vs hab.g hB h5 hm).mono fun e' w' ⟨v,H',he,hv,hl,hm'⟩=>?_
    subst he
    exact⟨_,H',_,hA.put (by simpa using hd) v,hm',hl,only,_,Abs.put (p:=res) ((hab.mono hl).turn i (B:= .no) (x:=none) trivial) d (hv.simT h.no),kk hv.wf⟩
end Go.SW
namespace Go.SW.V
open Go.SW
variable {P:Program} {n:Nat} {N:Rest} {H0:Env} {all rest:List Oper} {Q:Qs} {ks:List Kt} {fF:Nat->PV} {fL:Nat->Blk} {T T' T2 ty d:Nat} {pos:String} {af:Array Edge} {x y z:Operand} {K:St->Prop} {op:Op} {p:PV}
theorem Uo_ {α:Type} {f:FuncId} {a0:PV} {args:List PV} {res:PV} {i k e k2 e2:Nat} {enc:α->List PV} {xs:List α} {u:Value} {as0:Array Operand} {ats:Array TypeId} (h:Fx P H0.g f a0 args res k e enc xs) (hx:evP fF x = .fn f [] []) (ha:evPs fF as0.toList=a0 :: .osl i::args) (hna:Bb_ (a0::args)=true) (hb:fL i = .arr u k2 e2 enc xs) (hk:k2=k) (he2:e2=e) (hd:Nat.blt d n=true)
    (kk:res.wf->K ⟨updp (Fy_ i fF) d res,lups (Et_ i fL) i .no⟩):E1 P n N H0 all ⟨some d, .call ⟨.value x,as0,ats⟩,ty,pos,af,none⟩ (some i) ⟨fF,fL⟩ K:=
  SW.ecallx' (s:=⟨fF,fL⟩) h hx ha hna hb hk he2 hd kk
end Go.SW.V
namespace Go.SW
variable {P:Program} {n:Nat} {N:Rest} {H0:Env}
end Go.SW
namespace Go.SW.V
open Go.SW
variable {P:Program} {n:Nat} {N:Rest} {H0:Env} {fF:Nat->PV} {fL:Nat->Blk}
end Go.SW.V
namespace Go.SW
variable {P:Program}
end Go.SW
namespace Go.SW
variable {P:Program} {n:Nat} {N:Rest} {H0:Env}
theorem callgF' {all rest:List Oper} {Q:Qs} {ks:List Kt} {s:St} {f:FuncId} {args:List PV} {res:PV} {x:Operand} {xs:Array Operand} {ats:Array TypeId} {ty d j:Nat} {want g:Bool} {pos:String} {af:Array Edge} (hg:gOp s all j want=some g) (h:g=true->Fn P H0.g f args res) (ha:argsP (strG (F2_ (x::xs.toList)) s.F) x xs.toList=some (f,args)) (hc:AllP (Iw_ s.F g (F2_ (x::xs.toList)) [])) (hno:Gi_ s.F (F2_ (x::xs.toList))=true) (hd:Nat.blt d n=true)
    (k:(g=true->res.wf)->Hd P n N H0 Q (.ops all rest) ks ⟨updp s.F d (.gv g res),s.L⟩):Hd P n N H0 Q (.ops all (⟨some d, .call ⟨.value x,xs,ats⟩,ty,pos,af,some (j,want)⟩::rest)) ks s:=by
  intro F H L hab
  obtain⟨c,b,hy,hge⟩:=M5_ hab hg
  refine ow_gd hy hd (fun e=>?_) (fun e=>?_)
  · have hgt:=hge.trans e
    have hF:=h hgt
    obtain⟨vs,h1,h2⟩:=F6_ (ats:=ats) (Ks_ hab.f (fun t ht c v e=>(G0_ hc).2 t ht c v e hgt) (Gj_ hno)) ha hF.cb
    refine So_ (hF.ph hab.g h1) h2 hd fun v H' hv hl=>?_
    refine k (fun _=>hv.wf) _ _ _ ((hab.mono hl).put d ?_)
    rw[hgt]
    exact Sim.gvt hv
  · have hgf:=hge.trans e
    refine k (fun e=>by rw[hgf] at e;cases e) _ _ _ (hab.put d ?_)
    rw[hgf]
    exact Sim.gvf
end Go.SW
namespace Go.SW.V
open Go.SW
variable {P:Program} {n:Nat} {N:Rest} {H0:Env} {fF:Nat->PV} {fL:Nat->Blk}
theorem callgF {all rest:List Oper} {Q:Qs} {ks:List Kt} {f:FuncId} {args:List PV} {res:PV} {x:Operand} {xs:Array Operand} {ats:Array TypeId} {ty d j:Nat} {want g:Bool} {pos:String} {af:Array Edge} (hg:gOp ⟨fF,fL⟩ all j want=some g) (h:g=true->Fn P H0.g f args res) (ha:argsP (strG (F2_ (x::xs.toList)) fF) x xs.toList=some (f,args)) (hc:AllP (Iw_ fF g (F2_ (x::xs.toList)) [])) (hno:Gi_ fF (F2_ (x::xs.toList))=true) (hd:Nat.blt d n=true)
    (k:(g=true->res.wf)->Hd P n N H0 Q (.ops all rest) ks ⟨updp fF d (.gv g res),fL⟩):Hd P n N H0 Q (.ops all (⟨some d, .call ⟨.value x,xs,ats⟩,ty,pos,af,some (j,want)⟩::rest)) ks ⟨fF,fL⟩:=SW.callgF' (s:=⟨fF,fL⟩) hg h ha hc hno hd k
end Go.SW.V
namespace Go.SW
def MlOk (m:Mail):Prop:=m.head.length<=8/\0<=m.hops/\m.hops<=4/\m.key.length<=64
def L1_ (l:List ItemR):Prop:=(l.map fun x=>x.mail.id).Pairwise (· < ·)
def LnOk (l:LineR):Prop:=l.items.length<=64/\(∀ x∈l.items,MlOk x.mail)/\L1_ l.items
def RiOk (x:RiseR):Prop:=x.kept.length<=16/\∀ m∈x.kept,m.head.length<=8
def RwsOk (l:List RowR):Prop:=l.length<=8/\(∀ r∈l,LnOk r.l)/\(l.map (·.q.name)).Nodup
def StkOk (s:F_):Prop:=RwsOk s.rows/\(∀ i,i<16->RiOk (s.rises.get i))/\0<=s.bytes/\s.bytes<=1000000
def BkOk (b:BookR):Prop:=b.shops.length<=8/\b.binds.length<=32/\∀ y∈b.binds,y.key.length<=1000
def PoOk (p:PolicyR):Prop:=0<p.places.length/\p.places.length<=16/\0<p.slots.length/\p.slots.length<=32/\p.grants.length<=8/\(∀ g∈p.grants,0<=g.frm/\g.frm<p.places.length/\0<=g.to'/\g.to'<p.places.length/\0<=g.budget/\g.budget<=16)/\∀ x∈p.places,0<=x.bytes/\x.bytes<=65536
def PrOk (x:A8_):Prop:=BkOk x.book/\StkOk x.stock/\x.notes.kept.length<=32/\∀ i,i<8->0<=(x.spent.get i).count/\(x.spent.get i).count<=16
def DdOk (d:DeedR):Prop:=d.bind.key.length<=1000/\d.bind.want.length<=1000/\d.mail.head.length<=1000/\d.mail.key.length<=1000
def StOk (s:C_):Prop:=PrOk s.x/\PoOk s.policy/\0<=s.place/\s.place<s.policy.places.length
theorem Qi_:LnOk ⟨[]⟩:=⟨Nat.zero_le _,(fun _ h=>by cases h),List.Pairwise.nil⟩
theorem LnOk.sub {l m:LineR} (h:LnOk l) (hs:m.items.Sublist l.items):LnOk m:=⟨Nat.le_trans hs.length_le h.1,fun x hx=>h.2.1 x (hs.subset hx),h.2.2.sublist (hs.map _)⟩
theorem RwsOk.at {l:List RowR} (h:RwsOk l) {k:Nat} {x:RowR} (hx:l[k]? = some x):LnOk x.l:=h.2.1 x (List.mem_of_getElem? hx)
theorem I9_ {α β:Type} (f:α->β):∀ (l:List α) (k:Nat) (x y:α),l[k]? = some x->f y=f x->(l.set k y).map f=l.map f
  |[],_,_,_,h,_=>by cases h
  |a::r,0,x,y,h,e=>by simp at h;subst h;simp[e]
  |a::r,k+1,x,y,h,e=>by simpa using I9_ f r k x y (by simpa using h) e
theorem RwsOk.set {l:List RowR} (h:RwsOk l) {k:Nat} {x y:RowR} (hx:l[k]? = some x) (hn:y.q.name=x.q.name) (hy:LnOk y.l):RwsOk (l.set k y):=by
  refine⟨by simpa using h.1,fun r hr=>?_,?_⟩
  · rcases List.mem_or_eq_of_mem_set hr with q|q
    · exact h.2.1 r q
    · exact q ▸ hy
  · rw[I9_ (fun r:RowR=>r.q.name) l k x y hx hn];exact h.2.2
theorem RwsOk.sub {l m:List RowR} (h:RwsOk l) (hs:m.Sublist l):RwsOk m:=⟨Nat.le_trans hs.length_le h.1,fun r hr=>h.2.1 r (hs.subset hr),(hs.map _).nodup h.2.2⟩
theorem StkOk.set {s:F_} (h:StkOk s) {v:RiseR} (m:Nat) (hm:m<16) (hv:RiOk v):StkOk {s with rises:=s.rises.set v m}:=by
  refine⟨h.1,fun i hi=>?_,h.2.2⟩
  show RiOk ((s.rises.set v m).get i)
  rw[V.A16.get_set _ _ _ _ hm hi]
  split
  · exact hv
  · exact h.2.1 i hi
theorem StOk.stk {s:C_} (h:StOk s):StkOk s.x.stock:=h.1.2.1
end Go.SW
namespace Go.SW.V
open Go.SW
def Ed_ (l:List Bs) (s:Bs):(List Bs):=
 (bif decide (s∈l) then
 l
 else (l++[s]))
def A5_ (b:BookR) (x:ShopR):BookR×Int:=
 (bif !decide ((N9_ x)=0) then
 (b,N9_ x)
 else (bif (((Dt_ b.shops x.name).isSome)&&(decide (x=((Dt_ b.shops x.name).getD ShopR.zero)))) then
 (b,0)
 else (bif (Dt_ b.shops x.name).isSome then
 (b,9)
 else (bif decide (8<=(b.shops.length:Int)) then
 (b,12)
 else ((⟨[b.shops,[x]].flatten,b.binds⟩:BookR),0)))))
def Cb_ (b:BookR) (x:BindR):Int:=
 (idxP (fun z_4:BindR=>decide (x=z_4)) b.binds)
theorem Z0_ (l:List Bs) (s:Bs):(Ed_ l s).length<=l.length+1:=by
  unfold Ed_
  cases decide (s∈l)<;>simp
theorem there_r (b:BookR) (x:BindR):-1<=Cb_ b x/\Cb_ b x<b.binds.length:=Fn_ _ _
def An_ (b:BookR) (x:BindR):BookR×Int:=
 (bif !((Dt_ b.shops x.shop).isSome) then
 (b,10)
 else (bif decide ((((Dt_ b.shops x.shop).getD ShopR.zero).sort)=4) then
 (b,8)
 else (bif !decide ((Dw_ x.to')=0) then
 (b,Dw_ x.to')
 else (bif !decide ((Qr_ (Hp_ x (((Dt_ b.shops x.shop).getD ShopR.zero).sort)))=0) then
 (b,Qr_ (Hp_ x (((Dt_ b.shops x.shop).getD ShopR.zero).sort)))
 else lt (Cb_ b x) fun r=>
 (bif decide (0<=r) then
 (b,0)
 else (bif decide (32<=(b.binds.length:Int)) then
 (b,12)
 else ((⟨b.shops,[b.binds,[x]].flatten⟩:BookR),0)))))))
def R_ (b:BookR) (shop:Bs) (key:Bs) (h:List Pair):List BindR->List Bs->List Bs->(List Bs)×(List Bs)×Int
  |[],queues,places=>(queues,places,0)
  | x::t,queues,places=>(lt1 ((bif !decide ((x.shop)=shop) then
 (!decide ((x.shop)=shop))
 else (!(Lo_ (Hp_ x (((Dt_ b.shops shop).getD ShopR.zero).sort)) key h)))) (fun v=>
 (bif v then
 R_ b shop key h t queues places
 else (bif x.up then
 lt (Ed_ places (x.to')) fun r=>
 R_ b shop key h t queues r
 else lt (Ed_ queues (x.to')) fun r1=>
 R_ b shop key h t r1 places))))
def Ak_ (b:BookR) (shop:Bs) (key:Bs) (h:List Pair):(List Bs)×(List Bs)×Int:=
 (bif !((Dt_ b.shops shop).isSome) then
 ([],[],10)
 else (bif decide ((((Dt_ b.shops shop).getD ShopR.zero).sort)=4) then
 ([],[((Dt_ b.shops shop).getD ShopR.zero).to'],0)
 else R_ b shop key h b.binds [] []))
def Cs_ (l:List DeedR):List DeedR->Bool
  |[]=>(decide ((l.length:Int)<=40))
  | x::t=>(bif !(K4_ x) then
 false
 else Cs_ l t)
def He_ (l:List DeedR):Bool:=
 Cs_ l l
def Be_ (n:Int) (least:Int) (most:Int):Bool:=
 ((decide (least<=n))&&(decide (n<=most)))
def Ej_ (a:LabelR) (b:LabelR):Bool:=
 ((decide (a.level<=b.level))&&(decide ((IntKind.wrap .u32 ((BitVec.ofInt (IntKind.bits .u32) a.set_ &&& ~~~ BitVec.ofInt (IntKind.bits .u32) b.set_).toNat))=0)))
def Ab_ (p:PolicyR) (i:Int):Bool:=
 (Be_ i 0 ((p.places.length:Int)-1))
def Gm_ (x:PlaceR) (x1:Bs):Bool:=
 (decide (x.name=x1))
def E3_ (x:GrantR) (x1:Int) (x2:Int):Bool:=
 ((decide (x.frm=x1))&&(decide (x.to'=x2)))
def F9_ (n:Ef_):Int:=
 n.total
def P_ (p:PolicyR) (tick:Int):Int:=
 (tick/(p.slots.length:Int))
def I_ (m:Mail):Mail:=
 m
def Ez_ (m:Mail):Int:=
 ((Dj_ m).length:Int)
def Bv_ (x:ItemR):ItemR:=
 lt (I_ x.mail) fun r=>
 (⟨r,x.lent,x.again⟩:ItemR)
def Qh_ (x0:Mail):Bool:=
 true
def K7_ (x:ItemR) (x1:Int):Bool:=
 (decide (x.mail.id=x1))
def In_ (l:LineR):Int:=
 (l.items.length:Int)
def Lr_ (m:Mail) (x1:Int):Bool:=
 ((!decide (m.due=0))&&(decide (m.due<=x1)))
def Ey_ (x:ItemR):Bool:=
 ((!x.lent)&&(Qh_ x.mail))
def Eo_ (x:ItemR) (x1:Int):Bool:=
 ((!x.lent)&&(Lr_ x.mail x1))
theorem Pc_ (m:Mail):0<=Ez_ m/\Ez_ m<=3000:=by
  have :=Fv_ m
  simp only[Ez_];omega
def G_ (p:PolicyR) (from_:Int) (to_:Int):Bool:=
 ((((!decide (from_=to_))&&(Ab_ p from_))&&(Ab_ p to_))&&(Ej_ ((gt p.places ((from_).toNat)).label) ((gt p.places ((to_).toNat)).label)))
def J_ (p:PolicyR) (name:Bs):Int:=
 (idxP (fun z_4:PlaceR=>(Gm_ z_4 name)) p.places)
def B_ (p:PolicyR) (from_:Int) (to_:Int):Int:=
 (idxP (fun z_5:GrantR=>(E3_ z_5 from_ to_)) p.grants)
def B6_ (n:Ef_) (x:NoteR):Ef_×Int:=
 (bif decide (64<(x.text.length:Int)) then
 (n,5)
 else (bif decide (n.total=18446744073709551615) then
 (n,18)
 else ((⟨(IntKind.wrap .u64 (n.total+1)),(([n.kept,[x]].flatten).drop ((max 0 ((([n.kept,[x]].flatten).length:Int)-32))).toNat)⟩:Ef_),0)))
def Eg_ (n:Ef_) (number:Int):NoteR×Bool:=
 (bif ((decide (number<=(IntKind.wrap .u64 (n.total-(n.kept.length:Int)))))||(decide (n.total<number))) then
 ((⟨0,0,[]⟩:NoteR),false)
 else ((gt n.kept (((IntKind.wrap .u64 ((IntKind.wrap .u64 (number-(IntKind.wrap .u64 (n.total-(n.kept.length:Int)))))-1))).toNat)),true))
def Cg_ (l:LineR) (id:Int):Int:=
 (idxP (fun z_4:ItemR=>(K7_ z_4 id)) l.items)
def Du_ (l:LineR) (m:Mail):Int:=
 (bif !decide ((Fw_ m)=0) then
 (Fw_ m)
 else (bif ((decide (0<(l.items.length:Int)))&&(decide (m.id<=((gt l.items ((((l.items.length:Int)-1)).toNat)).mail.id)))) then
 13
 else (bif decide (64<=(l.items.length:Int)) then
 12
 else 0)))
def Cj_ (l:LineR):Int:=
 (idxP (fun z_4:ItemR=>(Ey_ z_4)) l.items)
def C6_ (l:LineR) (so:Int):Int:=
 (idxP (fun z_4:ItemR=>(Eo_ z_4 so)) l.items)
theorem Tp_ {α:Type} [Inhabited α] {p:α->Bool} {l:List α} (h:0<=idxP p l):p (gt l (idxP p l).toNat)=true:=by
  have hb:=Fn_ p l
  exact (Uy_ (by omega) (getG (xs:=l) (k:=(idxP p l).toNat) (by omega))).1
theorem Uu_ (p:PolicyR) (n:Bs):-1<=J_ p n/\J_ p n<p.places.length:=Fn_ _ _
theorem H3_ (p:PolicyR) (a b:Int):-1<=B_ p a b/\B_ p a b<p.grants.length:=Fn_ _ _
theorem grant_to {p:PolicyR} {a b:Int} (h:0<=B_ p a b):(gt p.grants (B_ p a b).toNat).frm=a/\(gt p.grants (B_ p a b).toNat).to'=b:=by
  have :=Tp_ h
  simp only[E3_,Bool.and_eq_true] at this
  exact⟨of_decide_eq_true this.1,of_decide_eq_true this.2⟩
theorem Y8_ (l:LineR) (id:Int):-1<=Cg_ l id/\Cg_ l id<l.items.length:=Fn_ _ _
theorem lof_at {l:LineR} {id:Int} (h:0<=Cg_ l id):(gt l.items (Cg_ l id).toNat).mail.id=id:=by
  have :=Tp_ h
  exact of_decide_eq_true this
theorem Ml_ (l:LineR):-1<=Cj_ l/\Cj_ l<l.items.length:=Fn_ _ _
theorem Tx_ (l:LineR) (t:Int):-1<=C6_ l t/\C6_ l t<l.items.length:=Fn_ _ _
theorem Sc_ {l:LineR} {m:Mail} (h:Du_ l m=0):Fw_ m=0/\l.items.length<64/\(l.items.length=0\/(gt l.items ((l.items.length:Int)-1).toNat).mail.id<m.id):=by
  unfold Du_ at h
  cases e1:decide (Fw_ m=0) with
  |false=>rw[e1] at h;simp at h;simp[h] at e1
  |true=>
    rw[e1] at h
    simp only[Bool.not_true,cond_false] at h
    cases e2:((decide (0<(l.items.length:Int)))&&(decide (m.id<=((gt l.items ((((l.items.length:Int)-1)).toNat)).mail.id)))) with
    |true=>rw[e2] at h;cases h
    |false=>
      rw[e2] at h
      cases e3:decide (64<=(l.items.length:Int)) with
      |true=>rw[e3] at h;cases h
      |false=>
        simp only[Bool.and_eq_false_iff,decide_eq_false_iff_not] at e2
        simp at e3 e1
        exact⟨e1,by omega,by omega⟩
theorem mlOk_of {m:Mail} (h:Fw_ m=0) (h0:0<=m.hops):MlOk m:=by
  obtain⟨_,h2,h3,_,h5⟩:=Fi_ h
  exact⟨(Kz_ h3).1,h0,h5,h2⟩
theorem Qm_ {n:Ef_} {x:NoteR} (h:n.kept.length<=32):(B6_ n x).1.kept.length<=32:=by
  unfold B6_
  cases decide (64<(x.text.length:Int)) with
  |true=>exact h
  |false=>
    cases decide (n.total=18446744073709551615) with
    |true=>exact h
    |false=>simp;omega
end Go.SW.V
namespace Go.SW.V
open Go.SW
theorem Ra_ {α:Type} [Inhabited α] {xs:List α} {k:Nat} {y:α} (h:k<xs.length):gt (xs.set k y) k=y:=by
  simp[gt,h]
end Go.SW.V
namespace Go.SW.V
open Go.SW
theorem Jq_ {p:PolicyR} (h:PoOk p) (a b:Int):0<=B_ p a b->0<=b/\b<p.places.length/\0<=(gt p.grants (B_ p a b).toNat).budget/\(gt p.grants (B_ p a b).toNat).budget<=16:=fun h0=>by
  have hb:=H3_ p a b
  have ht:=grant_to h0
  have hg:=h.2.2.2.2.2.1 _ (List.mem_of_getElem? (getG (xs:=p.grants) (k:=(B_ p a b).toNat) (by omega)))
  omega
def D8_ (l:LineR) (x:ItemR):LineR×Int:=
 lt (Du_ l x.mail) fun r=>
 (bif !decide (r=0) then
 (l,r)
 else lt (Bv_ x) fun r1=>
 ((⟨[l.items,[r1]].flatten⟩:LineR),0))
def Ca_ (l:LineR) (m:Mail):LineR×Int:=
 lt (D8_ l (⟨m,false,false⟩:ItemR)) fun r=>
 (r.1,r.2)
def Aq_ (l:LineR) (id:Int):LineR×ItemR×Int:=
 lt (Cg_ l id) fun r=>
 (bif decide (r<0) then
 (l,(⟨(⟨0,[],[],[],[],0,0⟩:Mail),false,false⟩:ItemR),10)
 else lt (Bv_ (gt l.items ((r).toNat))) fun r1=>
 ((⟨[(l.items.take (r).toNat),(l.items.drop ((r+1)).toNat)].flatten⟩:LineR),r1,0))
def Bx_ (l:LineR) (k:Int):Mail×Bool:=
 (bif decide (k<0) then
 ((⟨0,[],[],[],[],0,0⟩:Mail),false)
 else lt (I_ ((gt l.items ((k).toNat)).mail)) fun r=>
 (r,true))
def A3_:List ItemR->Int->Int
  |[],n=>n
  |x::t,n=>lt (Ez_ (x.mail)) fun r=>
 A3_ t (n+r)
def Dq_ (l:LineR):Int:=
 A3_ l.items 0
def B5_ (l:LineR):LineR×ItemR×Bool:=
 lt (Cj_ l) fun r=>
 (bif decide (r<0) then
 (l,(⟨(⟨0,[],[],[],[],0,0⟩:Mail),false,false⟩:ItemR),false)
 else lt (Bv_ (gt (l.items.set ((r).toNat) (⟨(gt l.items ((r).toNat)).mail,true,(gt l.items ((r).toNat)).again⟩:ItemR)) ((r).toNat))) fun r1=>
 ((⟨(l.items.set ((r).toNat) (⟨(gt l.items ((r).toNat)).mail,true,(gt l.items ((r).toNat)).again⟩:ItemR))⟩:LineR),r1,true))
def Do_ (l:LineR) (id:Int):LineR×Int:=
 lt (Cg_ l id) fun r=>
 (bif decide (r<0) then
 (l,10)
 else (bif !((gt l.items ((r).toNat)).lent) then
 (l,13)
 else ((⟨((l.items.set ((r).toNat) (⟨(gt l.items ((r).toNat)).mail,false,(gt l.items ((r).toNat)).again⟩:ItemR)).set ((r).toNat) (⟨(gt (l.items.set ((r).toNat) (⟨(gt l.items ((r).toNat)).mail,false,(gt l.items ((r).toNat)).again⟩:ItemR)) ((r).toNat)).mail,(gt (l.items.set ((r).toNat) (⟨(gt l.items ((r).toNat)).mail,false,(gt l.items ((r).toNat)).again⟩:ItemR)) ((r).toNat)).lent,true⟩:ItemR))⟩:LineR),0)))
def Bm_:List ItemR->Nat->LineR->LineR
  |[],k,x=>x
  | x1::t,k,x=>(bif x1.lent then
 Bm_ t (k+1) (⟨((x.items.set k (⟨(gt x.items k).mail,false,(gt x.items k).again⟩:ItemR)).set k (⟨(gt (x.items.set k (⟨(gt x.items k).mail,false,(gt x.items k).again⟩:ItemR)) k).mail,(gt (x.items.set k (⟨(gt x.items k).mail,false,(gt x.items k).again⟩:ItemR)) k).lent,true⟩:ItemR))⟩:LineR)
 else Bm_ t (k+1) x)
def Er_ (l:LineR):LineR:=
 Bm_ l.items 0 l
def C5_ (l:LineR):Mail×Bool:=
 lt (Bx_ l (Cj_ l)) fun r=>
 (r.1,r.2)
def Dp_ (l:LineR) (tick:Int):Mail×Bool:=
 lt (Bx_ l (C6_ l tick)) fun r=>
 (r.1,r.2)
def Ae_ (x:RiseR) (m:Mail):RiseR×Int:=
 (bif !decide ((Fw_ m)=0) then
 (x,Fw_ m)
 else (bif decide (x.total=18446744073709551615) then
 (x,18)
 else lt (I_ m) fun r=>
 ((⟨(IntKind.wrap .u64 (x.total+1)),(([x.kept,[r]].flatten).drop ((max 0 ((([x.kept,[r]].flatten).length:Int)-16))).toNat)⟩:RiseR),0)))
def Dy_ (x:RiseR) (number:Int):Int×Mail×Bool:=
 (bif decide (x.total<=number) then
 (0,(⟨0,[],[],[],[],0,0⟩:Mail),false)
 else lt (I_ (gt x.kept (((IntKind.wrap .u64 ((max (IntKind.wrap .u64 ((IntKind.wrap .u64 (x.total-(x.kept.length:Int)))+1)) (IntKind.wrap .u64 (number+1)))-(IntKind.wrap .u64 ((IntKind.wrap .u64 (x.total-(x.kept.length:Int)))+1))))).toNat))) fun r=>
 ((max (IntKind.wrap .u64 ((IntKind.wrap .u64 (x.total-(x.kept.length:Int)))+1)) (IntKind.wrap .u64 (number+1))),r,true))
def B7_ (x:RiseR):Int:=
 x.total
def A4_:List Mail->Int->Int
  |[],n=>n
  |x1::t,n=>lt (Ez_ x1) fun r=>
 A4_ t (n+r)
def Ck_ (x:RiseR):Int:=
 A4_ x.kept 0
def Db_ (base:Int) (bytes:Int):F_:=
 (⟨base,(max 0 bytes),[],(⟨(⟨0,[]⟩:RiseR),(⟨0,[]⟩:RiseR),(⟨0,[]⟩:RiseR),(⟨0,[]⟩:RiseR),(⟨0,[]⟩:RiseR),(⟨0,[]⟩:RiseR),(⟨0,[]⟩:RiseR),(⟨0,[]⟩:RiseR),(⟨0,[]⟩:RiseR),(⟨0,[]⟩:RiseR),(⟨0,[]⟩:RiseR),(⟨0,[]⟩:RiseR),(⟨0,[]⟩:RiseR),(⟨0,[]⟩:RiseR),(⟨0,[]⟩:RiseR),(⟨0,[]⟩:RiseR)⟩:A16_RiseR)⟩:F_)
def E5_ (q:QueueR):Int:=
 (bif !decide ((Dw_ q.name)=0) then
 (Dw_ q.name)
 else (bif ((decide (q.most<1))||(decide (64<q.most))) then
 7
 else (bif !decide (q.dead=[]) then
 (Dw_ q.dead)
 else 0)))
def Ji_ (x:RowR) (x1:Bs):Bool:=
 (decide (x.q.name=x1))
def T_ (s:F_) (name:Bs):Int:=
 (idxP (fun z_4:RowR=>(Ji_ z_4 name)) s.rows)
theorem bt {α:Type} {b:Bool} {x y:α} {P:α->Prop} (h1:b=true->P x) (h2:b=false->P y):P (bif b then x else y):=by
  cases b
  · exact h2 rfl
  · exact h1 rfl
theorem N7_ {l:List ItemR} (h:L1_ l) {i j:Nat} {x y:ItemR} (hi:l[i]? = some x) (hj:l[j]? = some y) (hij:i<j):x.mail.id<y.mail.id:=by
  have h1:=List.pairwise_iff_getElem.1 h i j
  obtain⟨a,rfl⟩:=List.getElem?_eq_some_iff.1 hi
  obtain⟨b,rfl⟩:=List.getElem?_eq_some_iff.1 hj
  have h2:=h1 (by simpa using a) (by simpa using b) hij
  rw[List.getElem_map,List.getElem_map] at h2
  exact h2
theorem Wt_ {l:List ItemR} {x:ItemR} (h:L1_ l) (hx:∀ y,l[l.length-1]? = some y->y.mail.id<x.mail.id):L1_ (l++[x]):=by
  unfold L1_
  rw[List.map_append,List.pairwise_append]
  refine⟨h,by simp,fun a ha b hb=>?_⟩
  obtain⟨y,hy,rfl⟩:=List.mem_map.1 ha
  simp at hb;subst hb
  obtain⟨i,hi⟩:=List.getElem?_of_mem hy
  have hil:=(List.getElem?_eq_some_iff.1 hi).1
  have hl:=List.getElem?_eq_getElem (l:=l) (i:=l.length-1) (by omega)
  have h1:=hx _ hl
  by_cases e:i=l.length-1
  · subst e;rw[hl] at hi;cases hi;exact h1
  · exact Int.lt_trans (N7_ h hi hl (by omega)) h1
theorem lput_ok {l:LineR} {x:ItemR} (h:LnOk l) (h0:0<=x.mail.hops):LnOk (D8_ l x).1:=by
  unfold D8_ lt
  refine bt (P:=fun r:LineR×Int=>LnOk r.1) (fun _=>h) fun e=>?_
  simp only[Bool.not_eq_eq_eq_not,Bool.not_false,decide_eq_true_eq] at e
  obtain⟨h1,h2,h3⟩:=Sc_ e
  refine⟨by simp;omega,fun y hy=>?_,?_⟩
  · simp[Bv_,lt,I_] at hy
    rcases hy with hy|rfl
    · exact h.2.1 y hy
    · exact mlOk_of h1 h0
  · show L1_ ([l.items,[Bv_ x]].flatten)
    simp only[List.flatten_cons,List.flatten_nil,List.append_nil]
    refine Wt_ h.2.2 fun y hy=>?_
    have hl:=(List.getElem?_eq_some_iff.1 hy).1
    rcases h3 with q|q
    · omega
    · have :((l.items.length:Int)-1).toNat=l.items.length-1:=by omega
      rw[this] at q
      rw[getG (xs:=l.items) (k:=l.items.length-1) (by omega)] at hy
      cases hy
      exact q
theorem Qe_ {l:LineR} {m:Mail} (h:LnOk l) (h0:0<=m.hops):LnOk (Ca_ l m).1:=lput_ok (x:=⟨m,false,false⟩) h h0
theorem Ff_:MlOk ⟨0,[],[],[],[],0,0⟩:=⟨by simp,by simp,by simp,by simp⟩
theorem Jb_ {α:Type} [Inhabited α] {xs:List α} {k:Nat} (h:k<xs.length):gt xs k∈xs:=List.mem_of_getElem? (getG h)
theorem Pl_ {α:Type} (l:List α) (k:Nat):([l.take k,l.drop (k+1)].flatten).Sublist l:=by
  simp only[List.flatten_cons,List.flatten_nil,List.append_nil]
  have h:l=l.take k++l.drop k:=(List.take_append_drop k l).symm
  conv=>rhs;rw[h]
  refine List.Sublist.append (List.Sublist.refl _) ?_
  rw[<- List.drop_drop]
  exact List.drop_sublist 1 _
theorem Ju_ {l:LineR} {id:Int} (h:LnOk l):LnOk (Aq_ l id).1/\MlOk (Aq_ l id).2.1.mail:=by
  unfold Aq_ lt
  refine bt (P:=fun r:LineR×ItemR×Int=>LnOk r.1/\MlOk r.2.1.mail) (fun _=>⟨h,Ff_⟩) fun e=>?_
  simp only[decide_eq_false_iff_not] at e
  have hb:=Y8_ l id
  refine⟨h.sub ?_,?_⟩
  · have :(Cg_ l id+1).toNat=(Cg_ l id).toNat+1:=by omega
    rw[this];exact Pl_ _ _
  · exact h.2.1 _ (Jb_ (by omega))
theorem Nv_ {l:LineR} {k:Nat} {y:ItemR} (h:LnOk l) (hk:k<l.items.length) (he:y.mail=(gt l.items k).mail):LnOk ⟨l.items.set k y⟩:=by
  have hm:=h.2.1 _ (Jb_ hk)
  refine⟨by simpa using h.1,fun x hx=>?_,?_⟩
  · rcases List.mem_or_eq_of_mem_set hx with q|q
    · exact h.2.1 x q
    · subst q;rw[he];exact hm
  · show L1_ (l.items.set k y)
    unfold L1_
    rw[I9_ (fun x:ItemR=>x.mail.id) l.items k _ y (getG hk) (by rw[he])]
    exact h.2.2
theorem Mj_ {l:LineR} (h:LnOk l):LnOk (B5_ l).1/\MlOk (B5_ l).2.1.mail:=by
  unfold B5_ lt
  refine bt (P:=fun r:LineR×ItemR×Bool=>LnOk r.1/\MlOk r.2.1.mail) (fun _=>⟨h,Ff_⟩) fun e=>?_
  simp only[decide_eq_false_iff_not] at e
  have hb:=Ml_ l
  have hm:=h.2.1 _ (Jb_ (xs:=l.items) (k:=(Cj_ l).toNat) (by omega))
  refine⟨Nv_ h (by omega) rfl,?_⟩
  simp only[Bv_,lt,I_]
  rw[Ra_ (by omega)]
  exact hm
theorem Qf_ {l:LineR} {id:Int} (h:LnOk l):LnOk (Do_ l id).1:=by
  unfold Do_ lt
  refine bt (P:=fun r:LineR×Int=>LnOk r.1) (fun _=>h) fun e=>?_
  refine bt (P:=fun r:LineR×Int=>LnOk r.1) (fun _=>h) fun _=>?_
  simp only[decide_eq_false_iff_not] at e
  have hb:=Y8_ l id
  exact Nv_ (l:=⟨_⟩) (Nv_ h (by omega) rfl) (by simp;omega) rfl
theorem Nx_:∀ (t:List ItemR) (k:Nat) (l:LineR),LnOk l->k+t.length<=l.items.length->LnOk (Bm_ t k l)
  |[],_,_,h,_=>h
  |x::t,k,l,h,hk=>by
    simp only[List.length_cons] at hk
    unfold Bm_
    refine bt (P:=LnOk) (fun _=>Nx_ t (k+1) _ ?_ (by simp;omega)) (fun _=>Nx_ t (k+1) l h (by omega))
    exact Nv_ (l:=⟨_⟩) (Nv_ h (by omega) rfl) (by simp;omega) rfl
theorem Vb_ {l:LineR} (h:LnOk l):LnOk (Er_ l):=Nx_ l.items 0 l h (by omega)
theorem ltold_ok {l:LineR} {k:Int} (h:LnOk l) (hk:k<l.items.length):MlOk (Bx_ l k).1:=by
  unfold Bx_ lt
  refine bt (P:=fun r:Mail×Bool=>MlOk r.1) (fun _=>Ff_) fun e=>?_
  simp only[decide_eq_false_iff_not] at e
  exact h.2.1 _ (Jb_ (by omega))
theorem llate_ok {l:LineR} {t:Int} (h:LnOk l):MlOk (Dp_ l t).1:=ltold_ok h (Tx_ l t).2
theorem U9_:∀ (t:List ItemR) (n:Int),n<=A3_ t n/\A3_ t n<=n+3000*t.length
  |[],n=>⟨Int.le_refl _,by simp[A3_]⟩
  |x::t,n=>by
    have h:=Pc_ x.mail
    have hi:=U9_ t (n+Ez_ x.mail)
    simp only[A3_,lt,List.length_cons]
    omega
theorem Ze_ (l:LineR):0<=Dq_ l/\Dq_ l<=3000*l.items.length:=by
  have :=U9_ l.items 0
  simp only[Dq_];omega
theorem Vu_:∀ (t:List Mail) (n:Int),n<=A4_ t n/\A4_ t n<=n+3000*t.length
  |[],n=>⟨Int.le_refl _,by simp[A4_]⟩
  |x::t,n=>by
    have h:=Pc_ x
    have hi:=Vu_ t (n+Ez_ x)
    simp only[A4_,lt,List.length_cons]
    omega
theorem Qq_ (x:RiseR):0<=Ck_ x/\Ck_ x<=3000*x.kept.length:=by
  have :=Vu_ x.kept 0
  simp only[Ck_];omega
theorem T7_ {x:RiseR} {m:Mail} (h:RiOk x):RiOk (Ae_ x m).1:=by
  unfold Ae_ lt
  refine bt (P:=fun r:RiseR×Int=>RiOk r.1) (fun _=>h) fun e=>?_
  refine bt (P:=fun r:RiseR×Int=>RiOk r.1) (fun _=>h) fun _=>?_
  simp only[Bool.not_eq_eq_eq_not,Bool.not_false,decide_eq_true_eq] at e
  have hm:=(Kz_ (Fi_ e).2.2.1).1
  refine⟨by simp;omega,fun y hy=>?_⟩
  have hy:=List.mem_of_mem_drop hy
  simp[I_] at hy
  rcases hy with hy|rfl
  · exact h.2 y hy
  · exact hm
theorem at_b (s:F_) (n:Bs):-1<=T_ s n/\T_ s n<s.rows.length:=Fn_ _ _
theorem at_n {s:F_} {n:Bs} (h:0<=T_ s n):(gt s.rows (T_ s n).toNat).q.name=n:=by
  have :=Tp_ h
  exact of_decide_eq_true this
def By_ (s:F_) (q:QueueR):F_×Int:=
 lt (E5_ q) fun r=>
 (bif !decide (r=0) then
 (s,r)
 else lt (T_ s q.name) fun r1=>
 (bif ((decide (0<=r1))&&(decide ((gt s.rows ((r1).toNat)).q=q))) then
 (s,0)
 else (bif decide (0<=r1) then
 (s,9)
 else (bif decide (8<=(s.rows.length:Int)) then
 (s,12)
 else ((⟨s.next,s.bytes,[s.rows,[(⟨q,(⟨[]⟩:LineR)⟩:RowR)]].flatten,s.rises⟩:F_),0)))))
def Cd_ (s:F_) (name:Bs):F_×Int:=
 lt (T_ s name) fun r=>
 (bif decide (r<0) then
 (s,10)
 else ((⟨s.next,s.bytes,[(s.rows.take (r).toNat),(s.rows.drop ((r+1)).toNat)].flatten,s.rises⟩:F_),0))
def Ah_ (s:F_) (name:Bs):QueueR×Bool:=
 lt (T_ s name) fun r=>
 (bif decide (r<0) then
 ((⟨[],0,0,[]⟩:QueueR),false)
 else ((gt s.rows ((r).toNat)).q,true))
def Al_ (s:F_) (place:Int):RiseR:=
 (bif ((decide (place<0))||(decide (16<=place))) then
 (⟨0,[]⟩:RiseR)
 else (A16.get s.rises ((place).toNat)))
def Ac_ (s:F_) (k:Int) (l:LineR):F_:=
 (⟨s.next,s.bytes,(s.rows.set ((k).toNat) (⟨(gt s.rows ((k).toNat)).q,l⟩:RowR)),s.rises⟩:F_)
def Ce_ (s:F_):Nat->Int->Nat->Int
  |0,_,_=>default
  | f2+1,n1,v=>(bif decide ((v:Int)<16) then
 lt (Ck_ (A16.get s.rises v)) fun r1=>
 Ce_ s f2 (n1+r1) (v+1)
 else n1)
def Av_ (s:F_):List RowR->Int->Int
  |[],n=>Ce_ s (16-0+1) n 0
  |x::t,n=>lt (Dq_ (x.l)) fun r=>
 Av_ s t (n+r)
def Bi_ (s:F_):Int:=
 Av_ s s.rows 0
theorem ksize1 {s:F_} (h:∀ i,i<16->RiOk (s.rises.get i)):∀ (f:Nat) (n:Int) (v:Nat),16<f+v->v<=16->n<=Ce_ s f n v/\Ce_ s f n v<=n+48000*(16-v)
  |0,n,v,h1,h2=>by omega
  |f+1,n,v,h1,h2=>by
    unfold Ce_ lt
    refine bt (P:=fun r:Int=>n<=r/\r<=n+48000*(16-(v:Int))) (fun e=>?_) fun e=>⟨Int.le_refl _,by omega⟩
    simp only[decide_eq_true_eq] at e
    have hr:=Qq_ (s.rises.get v)
    have hk:=(h v (by omega)).1
    have hi:=ksize1 h f (n+Ck_ (s.rises.get v)) (v+1) (by omega) (by omega)
    dsimp only
    omega
theorem ksize0 {s:F_} (h:∀ i,i<16->RiOk (s.rises.get i)):∀ (t:List RowR) (n:Int),(∀ r∈t,LnOk r.l)->n<=Av_ s t n/\Av_ s t n<=n+192000*t.length+768000
  |[],n,_=>by
    have :=ksize1 h (16-0+1) n 0 (by omega) (by omega)
    simp only[Av_,List.length_nil];omega
  |x::t,n,hl=>by
    have hr:=Ze_ x.l
    have hk:=(hl x (List.mem_cons_self ..)).1
    have hi:=ksize0 h t (n+Dq_ x.l) fun r hr=>hl r (List.mem_cons_of_mem _ hr)
    simp only[Av_,lt,List.length_cons]
    omega
theorem Ts_ (s:F_) (h:StkOk s):0<=Bi_ s/\Bi_ s<=2304000:=by
  have :=ksize0 h.2.1 s.rows 0 h.1.2.1
  have :=h.1.1
  simp only[Bi_];omega
theorem at_neg {s:F_} {n:Bs} (h:T_ s n<0):∀ x∈s.rows,x.q.name≠n:=fun x hx e=>by
  have :=P5_ h
  rw[List.find?_eq_none] at this
  exact this x hx (decide_eq_true e)
theorem Qd_ {s:F_} {q:QueueR} (h:StkOk s):StkOk (By_ s q).1:=by
  unfold By_ lt
  refine bt (P:=fun r:F_×Int=>StkOk r.1) (fun _=>h) fun _=>?_
  refine bt (P:=fun r:F_×Int=>StkOk r.1) (fun _=>h) fun _=>?_
  refine bt (P:=fun r:F_×Int=>StkOk r.1) (fun _=>h) fun e=>?_
  refine bt (P:=fun r:F_×Int=>StkOk r.1) (fun _=>h) fun e1=>?_
  simp only[decide_eq_false_iff_not] at e e1
  have hn:=at_neg (s:=s) (n:=q.name) (by omega)
  refine⟨⟨by simp;omega,fun r hr=>?_,?_⟩,h.2⟩
  · simp at hr
    rcases hr with hr|rfl
    · exact h.1.2.1 r hr
    · exact Qi_
  · simp only[List.flatten_cons,List.flatten_nil,List.append_nil,List.map_append,List.map_cons,List.map_nil]
    rw[List.nodup_append]
    refine⟨h.1.2.2,by simp,fun a ha b hb=>?_⟩
    obtain⟨x,hx,rfl⟩:=List.mem_map.1 ha
    rw[List.mem_singleton.1 hb]
    exact hn x hx
theorem P9_ {s:F_} {n:Bs} (h:StkOk s):StkOk (Cd_ s n).1:=by
  unfold Cd_ lt
  refine bt (P:=fun r:F_×Int=>StkOk r.1) (fun _=>h) fun e=>?_
  simp only[decide_eq_false_iff_not] at e
  have :(T_ s n+1).toNat=(T_ s n).toNat+1:=by omega
  refine⟨h.1.sub ?_,h.2⟩
  show List.Sublist [s.rows.take _,s.rows.drop _].flatten _
  rw[this];exact Pl_ _ _
theorem K0_ {s:F_} {k:Int} {l:LineR} (h:StkOk s) (hl:LnOk l) (hk:0<=k/\k<s.rows.length):StkOk (Ac_ s k l):=
  ⟨h.1.set (getG (by omega)) rfl hl,h.2⟩
theorem kroom_r0 {s:F_} (h:StkOk s):-2304000<=s.bytes-Bi_ s/\s.bytes-Bi_ s<=1000000:=by
  have :=Ts_ s h
  have :=h.2.2
  omega
end Go.SW.V
namespace Go.SW.V
open Go.SW
theorem Gg_ (s:F_) (k:Int) (l:LineR):(Ac_ s k l).rows.length=s.rows.length:=by simp[Ac_]
def Eq_ (s:F_):Int:=
 (s.bytes-(Bi_ s))
theorem kroom_r (s:F_) (h:StkOk s):-2304000<=Eq_ s/\Eq_ s<=1000000:=kroom_r0 h
def Ao_ (s:F_) (name:Bs) (m:Mail):F_×Int×Mail×Int:=
 lt (T_ s name) fun r=>
 (bif decide (r<0) then
 (s,0,(⟨0,[],[],[],[],0,0⟩:Mail),10)
 else (bif !decide ((Fw_ m)=0) then
 (s,0,(⟨0,[],[],[],[],0,0⟩:Mail),Fw_ m)
 else (bif decide (s.next = 0) then
 (s,0,(⟨0,[],[],[],[],0,0⟩:Mail),18)
 else (lp2 ((bif decide (((gt s.rows ((r).toNat)).q.most)<=(IntKind.wrap .u64 (In_ ((gt s.rows ((r).toNat)).l)))) then
 lt (C5_ ((gt s.rows ((r).toNat)).l)) fun r1=>
 (bif !r1.2 then
 .ret (s,0,(⟨0,[],[],[],[],0,0⟩:Mail),12)
 else lt (Aq_ ((gt s.rows ((r).toNat)).l) r1.1.id) fun r2=>
 .fin (r2.1,r1.1))
 else .fin ((gt s.rows ((r).toNat)).l,(⟨0,[],[],[],[],0,0⟩:Mail)))) (fun x x1=>
 (bif decide (((Eq_ s)+(Ez_ x1))<(Ez_ (⟨s.next,m.shop,m.key,m.head,m.body,m.due,m.hops⟩:Mail))) then
 (s,0,(⟨0,[],[],[],[],0,0⟩:Mail),12)
 else lt (Ca_ x (⟨s.next,m.shop,m.key,m.head,m.body,m.due,m.hops⟩:Mail)) fun r3=>
 (bif !decide (r3.2=0) then
 (s,0,(⟨0,[],[],[],[],0,0⟩:Mail),r3.2)
 else lt (Ac_ s r r3.1) fun r4=>
 ((⟨(IntKind.wrap .u64 (r4.next + 1)),r4.bytes,r4.rows,r4.rises⟩:F_),s.next,x1,0)))) (fun r=>r)))))
def Bh_ (s:F_) (name:Bs):F_×ItemR×Bool:=
 lt (T_ s name) fun r=>
 (bif decide (r<0) then
 (s,(⟨(⟨0,[],[],[],[],0,0⟩:Mail),false,false⟩:ItemR),false)
 else lt (B5_ ((gt s.rows ((r).toNat)).l)) fun r1=>
 lt (Ac_ s r r1.1) fun r2=>
 (r2,r1.2.1,r1.2.2))
def Cc_ (s:F_) (name:Bs) (id:Int):F_×Int:=
 lt (T_ s name) fun r=>
 (bif decide (r<0) then
 (s,10)
 else lt (Do_ ((gt s.rows ((r).toNat)).l) id) fun r1=>
 lt (Ac_ s r r1.1) fun r2=>
 (r2,r1.2))
def X_ (s:F_) (name:Bs) (id:Int):F_×ItemR×Int:=
 lt (T_ s name) fun r=>
 (bif decide (r<0) then
 (s,(⟨(⟨0,[],[],[],[],0,0⟩:Mail),false,false⟩:ItemR),10)
 else lt (Aq_ ((gt s.rows ((r).toNat)).l) id) fun r1=>
 lt (Ac_ s r r1.1) fun r2=>
 (r2,r1.2.1,r1.2.2))
def Az_ (s:F_) (place:Int) (m:Mail):F_×Int:=
 (bif ((decide (place<0))||(decide (16<=place))) then
 (s,7)
 else lt (Ae_ (A16.get s.rises ((place).toNat)) m) fun r=>
 (bif !decide (r.2=0) then
 (s,r.2)
 else (bif decide (s.bytes<(((Bi_ s)-(Ck_ (A16.get s.rises ((place).toNat))))+(Ck_ (r.1)))) then
 (s,12)
 else ((⟨s.next,s.bytes,s.rows,(A16.set s.rises (r.1) ((place).toNat))⟩:F_),0))))
def Ag_ (tick:Int):List RowR->Bs×Mail×Bool
  |[]=>([],(⟨0,[],[],[],[],0,0⟩:Mail),false)
  |x::t=>lt (Dp_ (x.l) tick) fun r=>
 (bif r.2 then
 (x.q.name,r.1,true)
 else Ag_ tick t)
def Q_ (s:F_) (tick:Int):Bs×Mail×Bool:=
 Ag_ tick s.rows
def Aw_:List RowR->Nat->F_->F_
  |[],k,x=>x
  |x1::t,k,x=>lt (Er_ (x1.l)) fun r=>
 lt (Ac_ x (k:Int) r) fun r1=>
 Aw_ t (k+1) r1
def D5_ (s:F_):F_:=
 Aw_ s.rows 0 s
def LoP {σ ρ:Type} (I:σ->Prop) (R:ρ->Prop):Lo σ ρ->Prop
  | .fin s=>I s
  | .ret r=>R r
theorem lp0E {ρ β:Type} {P:β->Prop} {o:Lo Unit ρ} {f:β} {g:ρ->β} (I:Unit->Prop) (ho:LoP I (fun r=>P (g r)) o) (hf:I ()->P f):P (lp0 o f g):=by
  cases o with
  |fin s=>exact hf ho
  |ret r=>exact ho
theorem lp1E {σ ρ β:Type} {P:β->Prop} {o:Lo σ ρ} {f:σ->β} {g:ρ->β} (I:σ->Prop) (ho:LoP I (fun r=>P (g r)) o) (hf:∀ a,I a->P (f a)):P (lp1 o f g):=by
  cases o with
  |fin s=>exact hf _ ho
  |ret r=>exact ho
theorem lp2E {σ τ ρ β:Type} {P:β->Prop} {o:Lo (σ×τ) ρ} {f:σ->τ->β} {g:ρ->β} (I:σ×τ->Prop) (ho:LoP I (fun r=>P (g r)) o) (hf:∀ a b,I (a,b)->P (f a b)):P (lp2 o f g):=by
  cases o with
  |fin s=>exact hf _ _ ho
  |ret r=>exact ho
def wtm (m:Mail):Nat:=33 ^ (5-m.hops.toNat)
def wtl (l:List ItemR):Nat:=(l.map fun x=>wtm x.mail).sum
def wtk (s:F_):Nat:=(s.rows.map fun r=>wtl r.l.items).sum
def wto (l:List OutR):Nat:=(l.map fun x=>wtm x.mail).sum
def wt1 (m:Mail):Nat:=bif decide (m.shop=[]) then 0 else wtm m
theorem sum_cut {α:Type} [Inhabited α] (f:α->Nat) (l:List α) (k:Nat) (h:k<l.length):(([l.take k,l.drop (k+1)].flatten).map f).sum+f (gt l k)=(l.map f).sum:=by
  have e:l=l.take k++(gt l k::l.drop (k+1)):=by
    conv=>lhs;rw[<- List.take_append_drop k l]
    congr 1
    rw[List.drop_eq_getElem_cons h]
    congr 1
    simp[gt,h]
  have e2:(l.map f).sum=((l.take k++(gt l k::l.drop (k+1))).map f).sum:=by rw[<- e]
  rw[e2]
  simp only[List.flatten_cons,List.flatten_nil,List.append_nil,List.map_append,List.map_cons,List.sum_append,List.sum_cons]
  omega
theorem Ue_ {α:Type} [Inhabited α] (f:α->Nat):∀ (l:List α) (k:Nat) (y:α),k<l.length->((l.set k y).map f).sum+f (gt l k)=(l.map f).sum+f y
  |[],k,y,h=>by cases h
  |a::r,0,y,h=>by simp[gt];omega
  |a::r,k+1,y,h=>by
    have :=Ue_ f r k y (by simpa using h)
    simp only[List.set_cons_succ,List.map_cons,List.sum_cons]
    have e:gt (a::r) (k+1)=gt r k:=by simp[gt]
    rw[e];omega
theorem U8_ {l:LineR} (h:LnOk l) {k:Nat} (hk:k<l.items.length):Cg_ l (gt l.items k).mail.id=k:=by
  have h0:0<=Cg_ l (gt l.items k).mail.id:=by
    refine Int.not_lt.1 fun q=>?_
    have :=P5_ q
    rw[List.find?_eq_none] at this
    exact this _ (Jb_ hk) (decide_eq_true rfl)
  have hb:=Y8_ l (gt l.items k).mail.id
  have ha:=lof_at h0
  obtain⟨j,hj⟩:∃ j:Nat,Cg_ l (gt l.items k).mail.id=j:=⟨_,(Int.toNat_of_nonneg h0).symm⟩
  rw[hj] at ha hb ⊢
  simp only[Int.toNat_natCast] at ha
  have hjl:j<l.items.length:=by omega
  rcases Nat.lt_trichotomy j k with q|q|q
  · have :=N7_ h.2.2 (getG hjl) (getG hk) q;omega
  · rw[q]
  · have :=N7_ h.2.2 (getG hk) (getG hjl) q;omega
theorem Y3_ {l:LineR} (h:(C5_ l).2=true):∃ k:Nat,k<l.items.length/\(C5_ l).1=(gt l.items k).mail:=by
  have hb:=Ml_ l
  unfold C5_ lt Bx_ lt at h ⊢
  dsimp only at h ⊢
  cases e:decide (Cj_ l<0) with
  |true=>rw[e] at h;cases h
  |false=>
    simp only[decide_eq_false_iff_not] at e
    exact⟨(Cj_ l).toNat,by omega,rfl⟩
theorem Zd_ {l:LineR} (h:LnOk l) {k:Nat} (hk:k<l.items.length):wtl (Aq_ l (gt l.items k).mail.id).1.items+wtm (gt l.items k).mail=wtl l.items:=by
  unfold Aq_ lt
  dsimp only
  rw[U8_ h hk]
  have e:decide ((k:Int)<0)=false:=by simp
  rw[e]
  have :=sum_cut (fun x:ItemR=>wtm x.mail) l.items k hk
  exact this
theorem ladd_w {l:LineR} {m:Mail} (h:(Ca_ l m).2=0):wtl (Ca_ l m).1.items=wtl l.items+wtm m:=by
  unfold Ca_ D8_ lt at h ⊢
  dsimp only at h ⊢
  cases e:decide (Du_ l m=0) with
  |false=>rw[e] at h;simp at h;simp[h] at e
  |true=>
    simp[wtl,Bv_,lt,I_]
theorem kwith_w {s:F_} {k:Int} {l:LineR} (hk:0<=k/\k<s.rows.length):wtk (Ac_ s k l)+wtl (gt s.rows k.toNat).l.items=wtk s+wtl l.items:=
  Ue_ (fun r:RowR=>wtl r.l.items) s.rows k.toNat ⟨(gt s.rows k.toNat).q,l⟩ (by omega)
theorem Tr_ {s:F_} {n:Bs} {m:Mail} (h:StkOk s) (h0:0<=m.hops):StkOk (Ao_ s n m).1/\MlOk (Ao_ s n m).2.2.1/\((Ao_ s n m).2.2.2=0->Fw_ m=0/\wtk (Ao_ s n m).1+wt1 (Ao_ s n m).2.2.1<=wtk s+wtm m):=by
  unfold Ao_ lt
  let Q:F_×Int×Mail×Int->Prop:=fun r=>StkOk r.1/\MlOk r.2.2.1/\(r.2.2.2=0->Fw_ m=0/\wtk r.1+wt1 r.2.2.1<=wtk s+wtm m)
  have hno:∀ e:Int,e≠0->Q (s,0,⟨0,[],[],[],[],0,0⟩,e):=fun e he=>⟨h,Ff_,fun q=>(he q).elim⟩
  refine bt (P:=Q) (fun _=>hno _ (by decide)) fun e=>?_
  refine bt (P:=Q) (fun e=>hno _ (by simpa using e)) fun ec=>?_
  refine bt (P:=Q) (fun _=>hno _ (by decide)) fun _=>?_
  simp only[decide_eq_false_iff_not] at e
  have ec':Fw_ m=0:=by simpa using ec
  have hb:=at_b s n
  obtain⟨k,hk⟩:∃ k:Nat,T_ s n=k:=⟨_,(Int.toNat_of_nonneg (by omega)).symm⟩
  rw[hk] at hb ⊢
  simp only[Int.toNat_natCast]
  have hl:LnOk (gt s.rows k).l:=RwsOk.at h.1 (getG (by omega))
  refine lp2E (P:=Q) (fun q=>LnOk q.1/\MlOk q.2/\wtl q.1.items+wt1 q.2<=wtl (gt s.rows k).l.items) ?_ fun x x1 hx=>?_
  · refine bt (P:=LoP _ _) (fun _=>?_) fun _=>⟨hl,Ff_,by simp[wt1]⟩
    refine bt (P:=LoP _ _) (fun _=>hno _ (by decide)) fun e2=>?_
    obtain⟨j,hj,he⟩:=Y3_ (l:=(gt s.rows k).l) (by simpa using e2)
    have hw:=Zd_ hl hj
    show LnOk _/\MlOk _/\_
    rw[he]
    refine⟨(Ju_ hl).1,hl.2.1 _ (Jb_ hj),?_⟩
    have :wt1 (gt (gt s.rows k).l.items j).mail<=wtm (gt (gt s.rows k).l.items j).mail:=by
      unfold wt1
      cases decide ((gt (gt s.rows k).l.items j).mail.shop=[])<;>simp
    simp only
    omega
  · obtain⟨hx1,hx2,hx3⟩:=hx
    refine bt (P:=Q) (fun _=>hno _ (by decide)) fun _=>?_
    refine bt (P:=Q) (fun e3=>hno _ (by simpa using e3)) fun e3=>?_
    have e3':(Ca_ x ⟨s.next,m.shop,m.key,m.head,m.body,m.due,m.hops⟩).2=0:=by simpa using e3
    have ha:=ladd_w e3'
    have hok:=Qe_ (l:=x) (m:=⟨s.next,m.shop,m.key,m.head,m.body,m.due,m.hops⟩) hx1 h0
    have hw:=kwith_w (s:=s) (k:=(k:Int)) (l:=(Ca_ x ⟨s.next,m.shop,m.key,m.head,m.body,m.due,m.hops⟩).1) (by omega)
    have hs:=K0_ (k:=(k:Int)) h hok (by omega)
    refine⟨hs,hx2,fun _=>⟨ec',?_⟩⟩
    simp only[Int.toNat_natCast] at hw
    show wtk (Ac_ s k _)+wt1 x1<=_
    have he:wtm ⟨s.next,m.shop,m.key,m.head,m.body,m.due,m.hops⟩=wtm m:=rfl
    rw[he] at ha
    have hx4:wtl x.items+wt1 x1<=wtl (gt s.rows k).l.items:=hx3
    rw[ha] at hw
    omega
theorem U0_ {s:F_} {n:Bs} (h:StkOk s):StkOk (Bh_ s n).1/\MlOk (Bh_ s n).2.1.mail:=by
  unfold Bh_ lt
  refine bt (P:=fun r:F_×ItemR×Bool=>StkOk r.1/\MlOk r.2.1.mail) (fun _=>⟨h,Ff_⟩) fun e=>?_
  simp only[decide_eq_false_iff_not] at e
  have hb:=at_b s n
  have hl:=Mj_ (RwsOk.at h.1 (getG (xs:=s.rows) (k:=(T_ s n).toNat) (by omega)))
  exact⟨K0_ h hl.1 (by omega),hl.2⟩
theorem Uz_ {s:F_} {n:Bs} {id:Int} (h:StkOk s):StkOk (Cc_ s n id).1:=by
  unfold Cc_ lt
  refine bt (P:=fun r:F_×Int=>StkOk r.1) (fun _=>h) fun e=>?_
  simp only[decide_eq_false_iff_not] at e
  have hb:=at_b s n
  exact K0_ h (Qf_ (RwsOk.at h.1 (getG (xs:=s.rows) (k:=(T_ s n).toNat) (by omega)))) (by omega)
theorem G8_ {s:F_} {n:Bs} {id:Int} (h:StkOk s):StkOk (X_ s n id).1/\MlOk (X_ s n id).2.1.mail:=by
  unfold X_ lt
  refine bt (P:=fun r:F_×ItemR×Int=>StkOk r.1/\MlOk r.2.1.mail) (fun _=>⟨h,Ff_⟩) fun e=>?_
  simp only[decide_eq_false_iff_not] at e
  have hb:=at_b s n
  have hl:=Ju_ (id:=id) (RwsOk.at h.1 (getG (xs:=s.rows) (k:=(T_ s n).toNat) (by omega)))
  exact⟨K0_ h hl.1 (by omega),hl.2⟩
theorem Ri_ {s:F_} {p:Int} {m:Mail} (h:StkOk s):StkOk (Az_ s p m).1/\(Az_ s p m).1.rows=s.rows:=by
  unfold Az_ lt
  let Q:F_×Int->Prop:=fun r=>StkOk r.1/\r.1.rows=s.rows
  refine bt (P:=Q) (fun _=>⟨h,rfl⟩) fun e=>?_
  refine bt (P:=Q) (fun _=>⟨h,rfl⟩) fun _=>?_
  refine bt (P:=Q) (fun _=>⟨h,rfl⟩) fun _=>?_
  simp only[Bool.or_eq_false_iff,decide_eq_false_iff_not] at e
  exact⟨h.set p.toNat (by omega) (T7_ (h.2.1 _ (by omega))),rfl⟩
theorem Rj_:∀ (t:List RowR) (k:Nat) (s:F_),StkOk s->(∀ r∈t,LnOk r.l)->k+t.length<=s.rows.length->StkOk (Aw_ t k s)
  |[],_,_,h,_,_=>h
  |x::t,k,s,h,hl,hk=>by
    simp only[List.length_cons] at hk
    unfold Aw_ lt
    refine Rj_ t (k+1) _ (K0_ h (Vb_ (hl x (List.mem_cons_self ..))) (by omega)) (fun r hr=>hl r (List.mem_cons_of_mem _ hr)) ?_
    simp[Ac_];omega
theorem U1_ {s:F_} (h:StkOk s):StkOk (D5_ s):=Rj_ s.rows 0 s h h.1.2.1 (by omega)
theorem Rh_ {t:Int}:∀ (l:List RowR),(∀ r∈l,LnOk r.l)->MlOk (Ag_ t l).2.1
  |[],_=>Ff_
  |x::l,h=>by
    unfold Ag_ lt
    refine bt (P:=fun r:Bs×Mail×Bool=>MlOk r.2.1) (fun _=>llate_ok (h x (List.mem_cons_self ..))) (fun _=>Rh_ l fun r hr=>h r (List.mem_cons_of_mem _ hr))
theorem Qc_ {s:F_} {t:Int} (h:StkOk s):MlOk (Q_ s t).2.1:=Rh_ s.rows h.1.2.1
def A1_ (so_p:BindR->Bool):List BindR->List BindR->(List BindR)
  |[],out=>out
  | x::t,out=>(bif so_p x then
 A1_ so_p t (out++[x])
 else A1_ so_p t out)
def Dz_ (b:BookR) (so_p:BindR->Bool):(List BindR):=
 A1_ so_p b.binds []
def Hq_ (x:BindR) (x1:Bs):Bool:=
 (x.up||(!decide (x.to'=x1)))
def C1_ (b:BookR) (queue:Bs):BookR:=
 lt (Dz_ b (fun z_5:BindR=>(Hq_ z_5 queue))) fun r=>
 (⟨b.shops,r⟩:BookR)
def Bc_ (x:ShopR) (x1:Bs):Bool:=
 (decide (x.name=x1))
def Jo_ (x:BindR) (x1:Bs):Bool:=
 (!decide (x.shop=x1))
def Cn_ (b:BookR) (name:Bs):BookR×Int:=
 (bif decide ((idxP (fun z_5:ShopR=>(Bc_ z_5 name)) b.shops)<0) then
 (b,10)
 else lt (Dz_ (⟨[(b.shops.take (idxP (fun z_5:ShopR=>(Bc_ z_5 name)) b.shops).toNat),(b.shops.drop (((idxP (fun z_5:ShopR=>(Bc_ z_5 name)) b.shops)+1)).toNat)].flatten,b.binds⟩:BookR) (fun z_18:BindR=>(Jo_ z_18 name))) fun r=>
 ((⟨[(b.shops.take (idxP (fun z_5:ShopR=>(Bc_ z_5 name)) b.shops).toNat),(b.shops.drop (((idxP (fun z_5:ShopR=>(Bc_ z_5 name)) b.shops)+1)).toNat)].flatten,r⟩:BookR),0))
def B1_ (b:BookR) (x:BindR):BookR×Int:=
 lt (Cb_ b x) fun r=>
 (bif decide (r<0) then
 (b,10)
 else ((⟨b.shops,[(b.binds.take (r).toNat),(b.binds.drop ((r+1)).toNat)].flatten⟩:BookR),0))
def Dc_ (p:PolicyR) (place:Int) (x:A8_):C_:=
 (⟨x,p,place⟩:C_)
def B8_ (p:PolicyR) (place:Int):C_:=
 lt (Db_ ((gt p.places ((place).toNat)).base) ((gt p.places ((place).toNat)).bytes)) fun r=>
 lt (Dc_ p place (⟨(⟨[],[]⟩:BookR),r,(⟨0,[]⟩:Ef_),(⟨0,0,0,0,0,0,0,0,0,0,0,0,0,0,0,0⟩:A16_u64),(⟨(⟨0,0⟩:Cl_),(⟨0,0⟩:Cl_),(⟨0,0⟩:Cl_),(⟨0,0⟩:Cl_),(⟨0,0⟩:Cl_),(⟨0,0⟩:Cl_),(⟨0,0⟩:Cl_),(⟨0,0⟩:Cl_)⟩:A8_SpentR)⟩:A8_)) fun r1=>
 r1
def Jl_ (own:Int) (tick:Int) (life:Int):Int:=
 (bif ((decide (life=0))||(decide ((IntKind.wrap .u64 (18446744073709551615-tick))<life))) then
 own
 else (bif decide (own=0) then
 (IntKind.wrap .u64 (tick+life))
 else (min own (IntKind.wrap .u64 (tick+life)))))
def S_ (s:C_):A8_:=
 s.x
def A0_ (s:C_) (tick:Int) (kind:Int) (text:Bs):C_:=
 lt (B6_ s.x.notes (⟨tick,kind,text⟩:NoteR)) fun r=>
 (⟨(⟨s.x.book,s.x.stock,r.1,s.x.seen,s.x.spent⟩:A8_),s.policy,s.place⟩:C_)
theorem Qb_ (p:BindR->Bool):∀ (t out:List BindR),A1_ p t out=out++t.filter p
  |[],out=>by simp[A1_]
  |x::t,out=>by
    unfold A1_
    cases e:p x with
    |true=>simp[Qb_ p t,e]
    |false=>simp[Qb_ p t,e]
theorem Qa_ (b:BookR) (p:BindR->Bool):Dz_ b p=b.binds.filter p:=by simp[Dz_,Qb_]
theorem Qz_ {b:BookR} (h:BkOk b) (p:BindR->Bool) (l:List ShopR) (hl:l.length<=8):BkOk ⟨l,b.binds.filter p⟩:=
  ⟨hl,Nat.le_trans (List.length_filter_le ..) h.2.1,fun y hy=>h.2.2 y (List.mem_filter.1 hy).1⟩
theorem V5_ {b:BookR} {q:Bs} (h:BkOk b):BkOk (C1_ b q):=by
  unfold C1_ lt
  rw[Qa_]
  exact Qz_ h _ _ h.1
theorem bdrop_ok {b:BookR} {n:Bs} (h:BkOk b):BkOk (Cn_ b n).1:=by
  unfold Cn_ lt
  refine bt (P:=fun r:BookR×Int=>BkOk r.1) (fun _=>h) fun e=>?_
  simp only[decide_eq_false_iff_not] at e
  dsimp only
  rw[Qa_]
  refine Qz_ h _ _ ?_
  have hs:=h.1
  have hc:=(Pl_ b.shops (idxP (fun z_5:ShopR=>Bc_ z_5 n) b.shops).toNat).length_le
  have :(idxP (fun z_5:ShopR=>Bc_ z_5 n) b.shops+1).toNat=(idxP (fun z_5:ShopR=>Bc_ z_5 n) b.shops).toNat+1:=by omega
  rw[this];omega
theorem V7_ {b:BookR} {x:BindR} (h:BkOk b):BkOk (B1_ b x).1:=by
  unfold B1_ lt
  refine bt (P:=fun r:BookR×Int=>BkOk r.1) (fun _=>h) fun e=>?_
  simp only[decide_eq_false_iff_not] at e
  have hc:=Pl_ b.binds (Cb_ b x).toNat
  have :(Cb_ b x+1).toNat=(Cb_ b x).toNat+1:=by omega
  dsimp only
  rw[this]
  exact⟨h.1,Nat.le_trans hc.length_le h.2.1,fun y hy=>h.2.2 y (hc.subset hy)⟩
theorem bmake_ok {b:BookR} {x:ShopR} (h:BkOk b):BkOk (A5_ b x).1:=by
  unfold A5_
  refine bt (P:=fun r:BookR×Int=>BkOk r.1) (fun _=>h) fun _=>?_
  refine bt (P:=fun r:BookR×Int=>BkOk r.1) (fun _=>h) fun _=>?_
  refine bt (P:=fun r:BookR×Int=>BkOk r.1) (fun _=>h) fun _=>?_
  refine bt (P:=fun r:BookR×Int=>BkOk r.1) (fun _=>h) fun e=>?_
  simp only[decide_eq_false_iff_not] at e
  exact⟨by simp;omega,h.2⟩
theorem bbind_ok {b:BookR} {x:BindR} (h:BkOk b) (hx:x.key.length<=1000):BkOk (An_ b x).1:=by
  unfold An_ lt
  refine bt (P:=fun r:BookR×Int=>BkOk r.1) (fun _=>h) fun _=>?_
  refine bt (P:=fun r:BookR×Int=>BkOk r.1) (fun _=>h) fun _=>?_
  refine bt (P:=fun r:BookR×Int=>BkOk r.1) (fun _=>h) fun _=>?_
  refine bt (P:=fun r:BookR×Int=>BkOk r.1) (fun _=>h) fun _=>?_
  refine bt (P:=fun r:BookR×Int=>BkOk r.1) (fun _=>h) fun _=>?_
  refine bt (P:=fun r:BookR×Int=>BkOk r.1) (fun _=>h) fun e=>?_
  simp only[decide_eq_false_iff_not] at e
  refine⟨h.1,by simp;omega,fun y hy=>?_⟩
  simp at hy
  rcases hy with hy|rfl
  · exact h.2.2 y hy
  · exact hx
theorem Gx_ {s:C_} {t k:Int} {x:Bs} (h:StOk s):StOk (A0_ s t k x)/\(A0_ s t k x).x.stock=s.x.stock:=
  ⟨⟨⟨h.1.1,h.1.2.1,Qm_ h.1.2.2.1,h.1.2.2.2⟩,h.2⟩,rfl⟩
theorem Vc_ {p:PolicyR} {k:Int} (h:PoOk p) (hk:0<=k/\k<p.places.length):StOk (B8_ p k):=by
  have hb:=h.2.2.2.2.2.2 _ (Jb_ (xs:=p.places) (k:=k.toNat) (by omega))
  refine⟨⟨⟨by simp[B8_,lt,Dc_],by simp[B8_,lt,Dc_],by simp[B8_,lt,Dc_]⟩,⟨⟨by simp[B8_,lt,Dc_,Db_],by simp[B8_,lt,Dc_,Db_],by simp[B8_,lt,Dc_,Db_]⟩,fun i hi=>?_,?_,?_⟩,by simp[B8_,lt,Dc_],fun i hi=>?_⟩,h,hk⟩
  · have :(B8_ p k).x.stock.rises.get i=⟨0,[]⟩:=by
      unfold B8_ lt Dc_ Db_
      unfold A16.get
      repeat' split
      all_goals rfl
    rw[this];exact⟨by simp,by simp⟩
  · show 0<=max 0 _
    omega
  · show max 0 (gt p.places k.toNat).bytes<=_
    omega
  · have :(B8_ p k).x.spent.get i=⟨0,0⟩:=by
      unfold B8_ lt Dc_ Db_
      unfold A8.get
      repeat' split
      all_goals rfl
    rw[this];simp
theorem Vt_ (l:List Bs) (s:Bs):(Ed_ l s).length<=l.length+1:=by
  unfold Ed_
  cases decide (s∈l)<;>simp
theorem Js_ (b:BookR) (n k:Bs) (h:List Pair):∀ (t:List BindR) (q p:List Bs),(R_ b n k h t q p).1.length<=q.length+t.length/\(R_ b n k h t q p).2.1.length<=p.length+t.length
  |[],q,p=>⟨by simp[R_],by simp[R_]⟩
  |x::t,q,p=>by
    unfold R_ lt lt1
    let Q:List Bs×List Bs×Int->Prop:=fun r=>r.1.length<=q.length+(x::t).length/\r.2.1.length<=p.length+(x::t).length
    have h0:=Js_ b n k h t q p
    have h1:=Js_ b n k h t q (Ed_ p x.to')
    have h2:=Js_ b n k h t (Ed_ q x.to') p
    have h3:=Vt_ p x.to'
    have h4:=Vt_ q x.to'
    refine bt (P:=Q) (fun _=>?_) fun _=>bt (P:=Q) (fun _=>?_) fun _=>?_
    all_goals (show _/\_;simp only[List.length_cons];omega)
theorem No_ {b:BookR} (n k:Bs) (h:List Pair) (hb:BkOk b):(Ak_ b n k h).1.length<=32/\(Ak_ b n k h).2.1.length<=33:=by
  unfold Ak_
  let Q:List Bs×List Bs×Int->Prop:=fun r=>r.1.length<=32/\r.2.1.length<=33
  refine bt (P:=Q) (fun _=>⟨by simp,by simp⟩) fun _=>bt (P:=Q) (fun _=>⟨by simp,by simp⟩) fun _=>?_
  have h0:=Js_ b n k h b.binds [] []
  have :=hb.2.1
  simp only[List.length_nil] at h0
  exact⟨by omega,by omega⟩
def Ap_ (s:C_) (to_:Int) (tick:Int):C_×Int:=
 lt (B_ s.policy s.place to_) fun r=>
 (bif decide (r<0) then
 (s,19)
 else (lt1 (lt (P_ s.policy tick) fun r1=>
 (bif !decide (((A8.get s.x.spent ((r).toNat)).round)=r1) then
 (⟨r1,0⟩:Cl_)
 else (A8.get s.x.spent ((r).toNat)))) (fun x=>
 (bif decide (((gt s.policy.grants ((r).toNat)).budget)<=x.count) then
 (s,19)
 else lt (A0_ (⟨(⟨s.x.book,s.x.stock,s.x.notes,s.x.seen,(A8.set s.x.spent (⟨x.round,(x.count+1)⟩:Cl_) ((r).toNat))⟩:A8_),s.policy,s.place⟩:C_) tick 2 ((gt s.policy.places ((to_).toNat)).name)) fun r2=>
 (r2,0)))))
def Bs_ (s:C_) (d:DeedR):C_×Int:=
 (bif decide (d.kind=2) then
 lt (By_ s.x.stock d.queue) fun r=>
 ((⟨(⟨s.x.book,r.1,s.x.notes,s.x.seen,s.x.spent⟩:A8_),s.policy,s.place⟩:C_),r.2)
 else lt (Cd_ s.x.stock d.name) fun r1=>
 (bif decide (r1.2=0) then
 lt (C1_ s.x.book d.name) fun r2=>
 ((⟨(⟨r2,r1.1,s.x.notes,s.x.seen,s.x.spent⟩:A8_),s.policy,s.place⟩:C_),r1.2)
 else ((⟨(⟨s.x.book,r1.1,s.x.notes,s.x.seen,s.x.spent⟩:A8_),s.policy,s.place⟩:C_),r1.2)))
def Bj_ (s:C_) (d:DeedR):C_×U_×Int:=
 lt (Ah_ s.x.stock d.name) fun r=>
 (bif !r.2 then
 (s,(⟨(⟨(⟨0,[],[],[],[],0,0⟩:Mail),false,false⟩:ItemR),0,0⟩:U_),10)
 else lt (Bh_ s.x.stock d.name) fun r1=>
 (bif !r1.2.2 then
 (s,(⟨(⟨(⟨0,[],[],[],[],0,0⟩:Mail),false,false⟩:ItemR),0,0⟩:U_),15)
 else ((⟨(⟨s.x.book,r1.1,s.x.notes,s.x.seen,s.x.spent⟩:A8_),s.policy,s.place⟩:C_),(⟨r1.2.1,0,0⟩:U_),0)))
def B2_ (s:C_) (d:DeedR):C_×Int:=
 (bif decide (d.kind=0) then
 (lp0 (lt (J_ s.policy d.shop.to') fun r=>
 (bif decide (d.shop.sort=4) then
 (bif decide (r<0) then
 .ret (s,10)
 else lt (B_ s.policy s.place r) fun r1=>
 (bif decide (r1<0) then
 .ret (s,11)
 else .fin ()))
 else .fin ())) (
 lt (A5_ s.x.book d.shop) fun r2=>
 ((⟨(⟨r2.1,s.x.stock,s.x.notes,s.x.seen,s.x.spent⟩:A8_),s.policy,s.place⟩:C_),r2.2)) (fun r=>r))
 else (bif decide (d.kind=1) then
 lt (Cn_ s.x.book d.name) fun r3=>
 ((⟨(⟨r3.1,s.x.stock,s.x.notes,s.x.seen,s.x.spent⟩:A8_),s.policy,s.place⟩:C_),r3.2)
 else (bif decide (d.kind=5) then
 lt (B1_ s.x.book d.bind) fun r4=>
 ((⟨(⟨r4.1,s.x.stock,s.x.notes,s.x.seen,s.x.spent⟩:A8_),s.policy,s.place⟩:C_),r4.2)
 else lt (Ah_ s.x.stock d.bind.to') fun r5=>
 (lp0 (lt (J_ s.policy d.bind.to') fun r6=>
 (lt1 ((bif (d.bind.up&&(decide (r6<0))) then
 (d.bind.up&&(decide (r6<0)))
 else ((!d.bind.up)&&(!r5.2)))) (fun v=>
 (bif v then
 .ret (s,10)
 else (bif (d.bind.up&&(!(G_ s.policy s.place r6))) then
 .ret (s,11)
 else .fin ()))))) (
 lt (An_ s.x.book d.bind) fun r7=>
 ((⟨(⟨r7.1,s.x.stock,s.x.notes,s.x.seen,s.x.spent⟩:A8_),s.policy,s.place⟩:C_),r7.2)) (fun r=>r)))))
theorem lt1E {σ β:Type} {P:β->Prop} {o:σ} {f:σ->β} (I:σ->Prop) (ho:I o) (hf:∀ a,I a->P (f a)):P (lt1 o f):=hf _ ho
theorem V0_ {s:C_} {to' t:Int} (h:StOk s):StOk (Ap_ s to' t).1/\(Ap_ s to' t).1.x.stock=s.x.stock:=by
  unfold Ap_ lt
  let Q:C_×Int->Prop:=fun r=>StOk r.1/\r.1.x.stock=s.x.stock
  have hn:∀ e,Q (s,e):=fun e=>⟨h,rfl⟩
  refine bt (P:=Q) (fun _=>hn _) fun e=>?_
  simp only[decide_eq_false_iff_not] at e
  have hg:=Jq_ h.2.1 s.place to' (by omega)
  have hb:=H3_ s.policy s.place to'
  have hl:=h.2.1.2.2.2.2.1
  have hu:=h.1.2.2.2
  refine lt1E (P:=Q) (fun x:Cl_=>0<=x.count) ?_ fun x hx=>?_
  · refine bt (P:=fun x:Cl_=>0<=x.count) (fun _=>?_) fun _=>?_
    · exact Int.le_refl _
    · exact (hu _ (by omega)).1
  · refine bt (P:=Q) (fun _=>hn _) fun e2=>?_
    simp only[decide_eq_false_iff_not] at e2
    refine Gx_ (s:=⟨⟨s.x.book,s.x.stock,s.x.notes,s.x.seen,_⟩,s.policy,s.place⟩) ⟨⟨h.1.1,h.1.2.1,h.1.2.2.1,fun i hi=>?_⟩,h.2⟩
    show 0<=((s.x.spent.set _ _).get i).count/\_
    dsimp only
    rw[A8.get_set _ _ _ _ (by omega) hi]
    split
    · exact⟨by show 0<=x.count+1;omega,by show x.count+1<=16;omega⟩
    · exact hu i hi
theorem If_ {s:C_} {b:BookR} (h:StOk s) (hb:BkOk b):StOk ⟨⟨b,s.x.stock,s.x.notes,s.x.seen,s.x.spent⟩,s.policy,s.place⟩:=⟨⟨hb,h.1.2⟩,h.2⟩
theorem A7_ {s:C_} {k:F_} (h:StOk s) (hk:StkOk k):StOk ⟨⟨s.x.book,k,s.x.notes,s.x.seen,s.x.spent⟩,s.policy,s.place⟩:=⟨⟨h.1.1,hk,h.1.2.2⟩,h.2⟩
theorem Z2_ {s:C_} {d:DeedR} (h:StOk s):StOk (Bs_ s d).1:=by
  unfold Bs_ lt
  let Q:C_×Int->Prop:=fun r=>StOk r.1
  refine bt (P:=Q) (fun _=>A7_ h (Qd_ h.1.2.1)) fun _=>?_
  refine bt (P:=Q) (fun _=>?_) fun _=>A7_ h (P9_ h.1.2.1)
  exact If_ (s:=⟨⟨s.x.book,_,s.x.notes,s.x.seen,s.x.spent⟩,s.policy,s.place⟩) (A7_ h (P9_ h.1.2.1)) (V5_ h.1.1)
theorem lend_ok {s:C_} {d:DeedR} (h:StOk s):StOk (Bj_ s d).1/\MlOk (Bj_ s d).2.1.item.mail:=by
  unfold Bj_ lt
  let Q:C_×U_×Int->Prop:=fun r=>StOk r.1/\MlOk r.2.1.item.mail
  refine bt (P:=Q) (fun _=>⟨h,Ff_⟩) fun _=>?_
  refine bt (P:=Q) (fun _=>⟨h,Ff_⟩) fun _=>?_
  have :=U0_ (n:=d.name) h.1.2.1
  exact⟨A7_ h this.1,this.2⟩
theorem shops_ok {s:C_} {d:DeedR} (h:StOk s) (hd:DdOk d):StOk (B2_ s d).1:=by
  unfold B2_ lt
  let Q:C_×Int->Prop:=fun r=>StOk r.1
  have hn:∀ e,Q (s,e):=fun e=>h
  refine bt (P:=Q) (fun _=>?_) fun _=>?_
  · refine lp0E (P:=Q) (fun _=>True) ?_ fun _=>If_ h (bmake_ok h.1.1)
    refine bt (P:=LoP _ _) (fun _=>?_) fun _=>trivial
    refine bt (P:=LoP _ _) (fun _=>hn _) fun _=>?_
    exact bt (P:=LoP _ _) (fun _=>hn _) fun _=>trivial
  · refine bt (P:=Q) (fun _=>If_ h (bdrop_ok h.1.1)) fun _=>?_
    refine bt (P:=Q) (fun _=>If_ h (V7_ h.1.1)) fun _=>?_
    refine lp0E (P:=Q) (fun _=>True) ?_ fun _=>If_ h (bbind_ok h.1.1 hd.1)
    refine lt1E (P:=LoP _ _) (fun _=>True) trivial fun v _=>?_
    refine bt (P:=LoP _ _) (fun _=>hn _) fun _=>?_
    exact bt (P:=LoP _ _) (fun _=>hn _) fun _=>trivial
end Go.SW.V
namespace Go.SW.V
open Go.SW
theorem Ku_ (n:Int):0<=IntKind.wrap .u8 n:=by
  simp only[IntKind.wrap,IntKind.bits,IntKind.signed];simp;omega
def Ai_ (s:C_) (m:Mail) (tick:Int) (r:(List Bs)×(List Bs)×Int) (gone:List OutR):List Bs->Int->C_->C_×(List OutR)×Int×Int
  |[],n1,x1=>(x1,gone,n1,0)
  |x3::t,n1,x1=>lt (J_ x1.policy x3) fun r4=>
 (lp1 ((bif decide ((((Dt_ s.x.book.shops m.shop).getD ShopR.zero).sort)=4) then
 lt (Ap_ x1 r4 tick) fun r5=>
 (bif !decide (r5.2=0) then
 .ret (s,[],0,r5.2)
 else .fin r5.1)
 else .fin x1)) (fun x2=>
 lt (Az_ x2.x.stock r4 (⟨0,m.shop,m.key,m.head,m.body,m.due,m.hops⟩:Mail)) fun r6=>
 (bif !decide (r6.2=0) then
 (s,[],0,r6.2)
 else Ai_ s m tick r gone t (n1+1) (⟨(⟨x2.x.book,r6.1,x2.x.notes,x2.x.seen,x2.x.spent⟩:A8_),x2.policy,x2.place⟩:C_))) (fun r=>r))
def O_ (s:C_) (m:Mail) (tick:Int) (r:(List Bs)×(List Bs)×Int):List Bs->List OutR->Int->C_->C_×(List OutR)×Int×Int
  |[],gone,n,x=>Ai_ s m tick r gone r.2.1 n x
  |x4::t1,gone,n,x=>lt (Ah_ x.x.stock x4) fun r1=>
 (bif !r1.2 then
 O_ s m tick r t1 gone n x
 else lt (Jl_ m.due tick r1.1.life) fun r2=>
 lt (Ao_ x.x.stock x4 (⟨0,m.shop,m.key,m.head,m.body,r2,m.hops⟩:Mail)) fun r3=>
 (bif !decide (r3.2.2.2=0) then
 (s,[],0,r3.2.2.2)
 else (bif !decide (r3.2.2.1.shop=[]) then
 O_ s m tick r t1 (gone++[(⟨x4,r3.2.2.1⟩:OutR)]) (n+1) (⟨(⟨x.x.book,r3.1,x.x.notes,x.x.seen,x.x.spent⟩:A8_),x.policy,x.place⟩:C_)
 else O_ s m tick r t1 gone (n+1) (⟨(⟨x.x.book,r3.1,x.x.notes,x.x.seen,x.x.spent⟩:A8_),x.policy,x.place⟩:C_))))
def K_ (s:C_) (m:Mail) (tick:Int):C_×(List OutR)×Int×Int:=
 lt (Ak_ s.x.book m.shop m.key m.head) fun r=>
 (bif !decide (r.2.2=0) then
 (s,[],0,r.2.2)
 else O_ s m tick r r.1 [] 0 s)
def L9_ (W:Nat) (r:C_×List OutR×Int×Int):Prop:=StOk r.1/\(∀ g∈r.2.1,MlOk g.mail)/\(r.2.2.2=0->wtk r.1.x.stock+wto r.2.1<=W)
theorem Mo_ {W:Nat} {s:C_} {e:Int} (h:StOk s) (he:e≠0):L9_ W (s,[],0,e):=⟨h,(fun _ hg=>by cases hg),fun q=>(he q).elim⟩
theorem send1 {s:C_} {m:Mail} {tick:Int} {r:List Bs×List Bs×Int} {gone:List OutR} {W:Nat} (hs:StOk s) (hg:∀ g∈gone,MlOk g.mail):∀ (t:List Bs) (n:Int) (x:C_),StOk x->wtk x.x.stock+wto gone<=W->L9_ W (Ai_ s m tick r gone t n x)
  |[],n,x,hx,hw=>⟨hx,hg,fun _=>hw⟩
  |q::t,n,x,hx,hw=>by
    unfold Ai_ lt
    refine lp1E (P:=L9_ W) (fun y:C_=>StOk y/\y.x.stock=x.x.stock) ?_ fun y hy=>?_
    · refine bt (P:=LoP _ _) (fun _=>?_) fun _=>⟨hx,rfl⟩
      refine bt (P:=LoP _ _) (fun e=>Mo_ hs ?_) fun _=>V0_ hx
      simpa using e
    · have hr:=Ri_ (p:=J_ x.policy q) (m:=⟨0,m.shop,m.key,m.head,m.body,m.due,m.hops⟩) hy.1.stk
      refine bt (P:=L9_ W) (fun e=>Mo_ hs (by simpa using e)) fun _=>?_
      refine send1 hs hg t _ _ (A7_ hy.1 hr.1) ?_
      have :wtk (Az_ y.x.stock (J_ x.policy q) ⟨0,m.shop,m.key,m.head,m.body,m.due,m.hops⟩).1=wtk x.x.stock:=by
        unfold wtk;rw[hr.2,hy.2]
      show wtk (Az_ y.x.stock (J_ x.policy q) ⟨0,m.shop,m.key,m.head,m.body,m.due,m.hops⟩).1+_<=W
      omega
theorem wto_app (a b:List OutR):wto (a++b)=wto a+wto b:=by simp[wto]
theorem send0 {s:C_} {m:Mail} {tick:Int} {r:List Bs×List Bs×Int} (hs:StOk s) (h0:0<=m.hops):∀ (t:List Bs) (gone:List OutR) (n:Int) (x:C_),StOk x->(∀ g∈gone,MlOk g.mail)->L9_ (wtk x.x.stock+wto gone+t.length*wtm m) (O_ s m tick r t gone n x)
  |[],gone,n,x,hx,hg=>by
    unfold O_
    exact send1 hs hg r.2.1 n x hx (by simp)
  |q::t,gone,n,x,hx,hg=>by
    unfold O_ lt
    have hmono:∀ {W W':Nat} {r:C_×List OutR×Int×Int},W<=W'->L9_ W r->L9_ W' r:=fun hw h=>⟨h.1,h.2.1,fun e=>Nat.le_trans (h.2.2 e) hw⟩
    have hl:(q::t).length*wtm m=t.length*wtm m+wtm m:=by rw[List.length_cons,Nat.succ_mul]
    refine bt (P:=L9_ _) (fun _=>hmono (by omega) (send0 hs h0 t gone n x hx hg)) fun _=>?_
    generalize hd:Jl_ m.due tick (Ah_ x.x.stock q).1.life=due
    have hp:=Tr_ (s:=x.x.stock) (n:=q) (m:=⟨0,m.shop,m.key,m.head,m.body,due,m.hops⟩) hx.stk h0
    dsimp only
    generalize hv:Ao_ x.x.stock q ⟨0,m.shop,m.key,m.head,m.body,due,m.hops⟩=v at hp ⊢
    obtain⟨p1,p2,p3⟩:=hp
    have he:wtm ⟨0,m.shop,m.key,m.head,m.body,due,m.hops⟩=wtm m:=rfl
    rw[he] at p3
    refine bt (P:=L9_ _) (fun e=>Mo_ hs (by simpa using e)) fun e=>?_
    have hw:=(p3 (by simpa using e)).2
    refine bt (P:=L9_ _) (fun e2=>?_) fun e2=>?_
    · refine hmono ?_ (send0 hs h0 t (gone++[⟨q,v.2.2.1⟩]) (n+1) ⟨⟨x.x.book,v.1,x.x.notes,x.x.seen,x.x.spent⟩,x.policy,x.place⟩ (A7_ hx p1) ?_)
      · rw[wto_app]
        have :wt1 v.2.2.1=wto [(⟨q,v.2.2.1⟩:OutR)]:=by
          have :decide (v.2.2.1.shop=[])=false:=by simpa using e2
          simp[wt1,wto,this]
        show wtk v.1+_+_<=_
        omega
      · intro g hg'
        rcases List.mem_append.1 hg' with q|q
        · exact hg g q
        · rw[List.mem_singleton.1 q];exact p2
    · refine hmono ?_ (send0 hs h0 t gone (n+1) ⟨⟨x.x.book,v.1,x.x.notes,x.x.seen,x.x.spent⟩,x.policy,x.place⟩ (A7_ hx p1) hg)
      show wtk v.1+_+_<=_
      omega
theorem Ir_ {s:C_} {m:Mail} {tick:Int} (hs:StOk s) (h0:0<=m.hops):L9_ (wtk s.x.stock+32*wtm m) (K_ s m tick):=by
  unfold K_ lt
  refine bt (P:=L9_ _) (fun e=>Mo_ hs (by simpa using e)) fun _=>?_
  have hl:=(No_ m.shop m.key m.head hs.1.1).1
  have h:=send0 (tick:=tick) (r:=Ak_ s.x.book m.shop m.key m.head) hs h0 (Ak_ s.x.book m.shop m.key m.head).1 [] 0 s hs (fun _ hg=>by cases hg)
  refine⟨h.1,h.2.1,fun e=>Nat.le_trans (h.2.2 e) ?_⟩
  have :=Nat.mul_le_mul_right (wtm m) hl
  simp only[wto,List.map_nil,List.sum_nil]
  omega
theorem Sy_ {s:C_} {m:Mail} {tick:Int} {r:List Bs×List Bs×Int} {gone:List OutR} {k:Nat} (hk:gone.length<=k):∀ (t:List Bs) (n:Int) (x:C_),(Ai_ s m tick r gone t n x).2.1.length<=k
  |[],n,x=>hk
  |q::t,n,x=>by
    unfold Ai_ lt
    let Q:C_×List OutR×Int×Int->Prop:=fun r=>r.2.1.length<=k
    refine lp1E (P:=Q) (fun _=>True) ?_ fun y _=>?_
    · refine bt (P:=LoP _ _) (fun _=>?_) fun _=>trivial
      exact bt (P:=LoP _ _) (fun _=>Nat.zero_le _) fun _=>trivial
    · exact bt (P:=Q) (fun _=>Nat.zero_le _) fun _=>Sy_ hk t _ _
theorem Lg_ {s:C_} {m:Mail} {tick:Int} {r:List Bs×List Bs×Int} {k:Nat}:∀ (t:List Bs) (gone:List OutR) (n:Int) (x:C_),gone.length+t.length<=k->(O_ s m tick r t gone n x).2.1.length<=k
  |[],gone,n,x,hk=>by
    unfold O_
    exact Sy_ (by simpa using hk) _ _ _
  |q::t,gone,n,x,hk=>by
    simp only[List.length_cons] at hk
    unfold O_ lt
    let Q:C_×List OutR×Int×Int->Prop:=fun r=>r.2.1.length<=k
    refine bt (P:=Q) (fun _=>Lg_ t _ _ _ (by omega)) fun _=>?_
    refine bt (P:=Q) (fun _=>Nat.zero_le _) fun _=>?_
    exact bt (P:=Q) (fun _=>Lg_ t _ _ _ (by simp;omega)) fun _=>Lg_ t _ _ _ (by omega)
theorem Iq_ {s:C_} {m:Mail} {tick:Int} (hs:StOk s):(K_ s m tick).2.1.length<=32:=by
  unfold K_ lt
  let Q:C_×List OutR×Int×Int->Prop:=fun r=>r.2.1.length<=32
  refine bt (P:=Q) (fun _=>Nat.zero_le _) fun _=>?_
  have hl:=(No_ m.shop m.key m.head hs.1.1).1
  exact Lg_ _ _ _ _ (by simpa using hl)
theorem W4_ (m:Mail):1<=wtm m/\wtm m<=39135393:=by
  unfold wtm
  refine⟨Nat.one_le_pow _ _ (by decide),?_⟩
  have :33 ^ (5-m.hops.toNat)<=33 ^ 5:=Nat.pow_le_pow_right (by decide) (by omega)
  simpa using this
theorem wto_r:∀ l:List OutR,l.length<=wto l/\wto l<=39135393*l.length
  |[]=>⟨Nat.zero_le _,by simp[wto]⟩
  |x::l=>by
    have h:=wto_r l
    have hx:=W4_ x.mail
    simp only[wto,List.map_cons,List.sum_cons,List.length_cons] at h ⊢
    omega
theorem wtl_r:∀ l:List ItemR,wtl l<=39135393*l.length
  |[]=>by simp[wtl]
  |x::l=>by
    have h:=wtl_r l
    have hx:=W4_ x.mail
    simp only[wtl,List.map_cons,List.sum_cons,List.length_cons] at h ⊢
    omega
theorem wtr_r:∀ l:List RowR,(∀ r∈l,LnOk r.l)->(l.map fun r=>wtl r.l.items).sum<=2504665152*l.length
  |[],_=>by simp
  |x::l,h=>by
    have h1:=wtr_r l fun r hr=>h r (List.mem_cons_of_mem _ hr)
    have h2:=wtl_r x.l.items
    have h3:=(h x (List.mem_cons_self ..)).1
    simp only[List.map_cons,List.sum_cons,List.length_cons]
    omega
theorem wtk_r {s:F_} (h:StkOk s):wtk s<=20037321216:=by
  have h1:=wtr_r s.rows h.1.2.1
  have h2:=h.1.1
  unfold wtk;omega
theorem Mr_ {l:List OutR} (h:0<l.length):wto (l.drop 1)+wtm (gt l 0).mail=wto l:=by
  cases l with
  |nil=>cases h
  |cons a r=>simp[wto,gt];omega
def Ms_ (gone:List OutR) (lost:Int) (x:C_):Prop:=StOk x/\(∀ g∈gone,MlOk g.mail)/\0<=lost/\lost+((wtk x.x.stock+wto gone:Nat):Int)<=50000000000
theorem Xi_ {gone:List OutR} {x:C_} (h:StOk x) (hg:gone.length<=600/\∀ g∈gone,MlOk g.mail):Ms_ gone 0 x:=by
  have h1:=wtk_r h.stk
  have h2:=(wto_r gone).2
  refine⟨h,hg.2,Int.le_refl _,?_⟩
  have :=hg.1
  omega
section
variable {gone more:List OutR} {lost:Int} {x y:C_} {f:Nat} {m:Mail} {e:Int}
theorem On_ (hn:0<gone.length) (h:wtk x.x.stock+wto gone<f+1):wtk x.x.stock+wto (gone.drop 1)<f:=by
  have :=Mr_ hn;have :=(W4_ (gt gone 0).mail).1;omega
theorem Mv_ (h:Ms_ gone lost x) (hn:0<gone.length):Ms_ (gone.drop 1) lost x:=by
  have h1:=Mr_ hn
  exact⟨h.1,fun g hg=>h.2.1 g (List.mem_of_mem_drop hg),h.2.2.1,by have :=h.2.2.2;omega⟩
theorem Q0_ (hs:y.x.stock=x.x.stock) (hn:0<gone.length) (h:wtk x.x.stock+wto gone<f+1):wtk y.x.stock+wto (gone.drop 1)<f:=by
  rw[hs];exact On_ hn h
theorem Mw_ (h:Ms_ gone lost x) (hy:StOk y) (hs:y.x.stock=x.x.stock) (hn:0<gone.length):Ms_ (gone.drop 1) (lost+1) y:=by
  have h1:=Mr_ hn
  have h2:=(W4_ (gt gone 0).mail).1
  have h3:=h.2.2.2
  exact⟨hy,fun g hg=>h.2.1 g (List.mem_of_mem_drop hg),by have :=h.2.2.1;omega,by rw[hs];omega⟩
theorem bury_w {r:Mail} (hr:r=I_ (gt gone 0).mail) (hm:MlOk (gt gone 0).mail) (h4:¬4<IntKind.wrap .u8 (r.hops+1)) (hmm:m.hops=IntKind.wrap .u8 (r.hops+1)):33*wtm m=wtm (gt gone 0).mail:=by
  subst hr
  have h1:=hm.2.1
  have h2:=hm.2.2.1
  have hw:IntKind.wrap .u8 ((gt gone 0).mail.hops+1)=(gt gone 0).mail.hops+1:=by
    simp only[IntKind.wrap,IntKind.bits,IntKind.signed];simp;omega
  simp only[I_] at h4 hmm
  rw[hw] at h4 hmm
  unfold wtm
  rw[hmm]
  have :5-(gt gone 0).mail.hops.toNat=(5-((gt gone 0).mail.hops+1).toNat)+1:=by omega
  rw[this,Nat.pow_succ,Nat.mul_comm]
theorem Oo_ {r:Mail} (hn:0<gone.length) (h:wtk x.x.stock+wto gone<f+1) (hr:r=I_ (gt gone 0).mail) (hm:MlOk (gt gone 0).mail) (h4:¬4<IntKind.wrap .u8 (r.hops+1)) (hw:e=0->wtk y.x.stock+wto more<=wtk x.x.stock+32*wtm m) (hmm:m.hops=IntKind.wrap .u8 (r.hops+1)) (he:e=0):wtk y.x.stock+wto ((gone++more).drop 1)<f:=by
  have h1:=Mr_ hn
  have h2:=bury_w (m:=m) hr hm h4 hmm
  have h3:=hw he
  have h5:(gone++more).drop 1=gone.drop 1++more:=by cases gone with
    |nil=>cases hn
    |cons a r=>simp
  have h6:=(W4_ m).1
  rw[h5,wto_app];omega
theorem Mx_ {r:Mail} (h:Ms_ gone lost x) (hy:StOk y) (hg:∀ g∈more,MlOk g.mail) (hn:0<gone.length) (hr:r=I_ (gt gone 0).mail) (hm:MlOk (gt gone 0).mail) (h4:¬4<IntKind.wrap .u8 (r.hops+1)) (hw:e=0->wtk y.x.stock+wto more<=wtk x.x.stock+32*wtm m) (hmm:m.hops=IntKind.wrap .u8 (r.hops+1)) (he:e=0):Ms_ ((gone++more).drop 1) lost y:=by
  have h1:=Oo_ (f:=wtk x.x.stock+wto gone) hn (by omega) hr hm h4 hw hmm he
  refine⟨hy,fun g hg'=>?_,h.2.2.1,by have :=h.2.2.2;omega⟩
  rcases List.mem_append.1 (List.mem_of_mem_drop hg') with q|q
  · exact h.2.1 g q
  · exact hg g q
theorem app_fit (h:Ms_ gone lost x) (hw:e=0->wtk y.x.stock+wto more<=wtk x.x.stock+32*wtm m) (he:e=0):gone.length+more.length<=200000000000:=by
  have h1:=(wto_r gone).1
  have h2:=(wto_r more).1
  have h3:=(W4_ m).2
  have h4:=hw he
  have h5:=h.2.2.2
  have h6:=h.2.2.1
  omega
end
def nik (s:F_):Nat:=(s.rows.map fun r=>r.l.items.length).sum
theorem at_self {s:F_} (h:StkOk s) {k:Nat} (hk:k<s.rows.length):T_ s (gt s.rows k).q.name=k:=by
  have h0:0<=T_ s (gt s.rows k).q.name:=Int.not_lt.1 fun q=>at_neg q _ (Jb_ hk) rfl
  have hb:=at_b s (gt s.rows k).q.name
  have ha:=at_n h0
  obtain⟨j,hj⟩:∃ j:Nat,T_ s (gt s.rows k).q.name=j:=⟨_,(Int.toNat_of_nonneg h0).symm⟩
  rw[hj] at ha hb ⊢
  simp only[Int.toNat_natCast] at ha
  have hjl:j<s.rows.length:=by omega
  have hnd:∀ i q:Nat,(hi:i<s.rows.length)->(hq:q<s.rows.length)->i<q->(gt s.rows i).q.name≠(gt s.rows q).q.name:=fun i q hi hq hiq=>by
    have h1:=List.pairwise_iff_getElem.1 h.1.2.2 i q (by simpa using hi) (by simpa using hq) hiq
    rw[List.getElem_map,List.getElem_map] at h1
    have e1:gt s.rows i=s.rows[i]:=by simp[gt,hi]
    have e2:gt s.rows q=s.rows[q]:=by simp[gt,hq]
    rw[e1,e2];exact h1
  rcases Nat.lt_trichotomy j k with q|q|q
  · exact absurd ha (hnd j k hjl hk q)
  · rw[q]
  · exact absurd ha.symm (hnd k j hk hjl q)
theorem Rg_ {t:Int}:∀ (l:List RowR),(Ag_ t l).2.2=true->∃ k j,k<l.length/\j<(gt l k).l.items.length/\(Ag_ t l).1=(gt l k).q.name/\(Ag_ t l).2.1=(gt (gt l k).l.items j).mail
  |[],h=>by cases h
  |x::l,h=>by
    unfold Ag_ lt at h ⊢
    dsimp only at h ⊢
    cases e:(Dp_ x.l t).2 with
    |true=>
      have hb:=Tx_ x.l t
      have hl:∃ j:Nat,j<x.l.items.length/\(Dp_ x.l t).1=(gt x.l.items j).mail:=by
        unfold Dp_ lt Bx_ lt at e ⊢
        dsimp only at e ⊢
        cases e1:decide (C6_ x.l t<0) with
        |true=>rw[e1] at e;cases e
        |false=>
          simp only[decide_eq_false_iff_not] at e1
          exact⟨(C6_ x.l t).toNat,by omega,rfl⟩
      obtain⟨j,hj,he⟩:=hl
      exact⟨0,j,by simp,hj,rfl,he⟩
    |false=>
      rw[e] at h
      obtain⟨k,j,h1,h2,h3,h4⟩:=Rg_ l h
      have hg:gt (x::l) (k+1)=gt l k:=by simp[gt]
      exact⟨k+1,j,by simpa using h1,by rw[hg];exact h2,by rw[hg];exact h3,by rw[hg];exact h4⟩
theorem late_n {s:F_} {t:Int} (h:StkOk s) (hl:(Q_ s t).2.2=true):nik (X_ s (Q_ s t).1 (Q_ s t).2.1.id).1+1=nik s:=by
  obtain⟨k,j,h1,h2,h3,h4⟩:=Rg_ s.rows hl
  have h3':(Q_ s t).1=_:=h3
  have h4':(Q_ s t).2.1=_:=h4
  rw[h3',h4']
  unfold X_ lt
  rw[at_self h h1]
  have hk:decide ((k:Int)<0)=false:=by simp
  have hln:=RwsOk.at h.1 (getG h1)
  have hrm:(Aq_ (gt s.rows k).l (gt (gt s.rows k).l.items j).mail.id).1.items.length+1=(gt s.rows k).l.items.length:=by
    unfold Aq_ lt
    rw[U8_ hln h2]
    dsimp only
    have hj:decide ((j:Int)<0)=false:=by simp
    rw[hj]
    simp only[cond_false,List.flatten_cons,List.flatten_nil,List.append_nil,List.length_append,List.length_take,List.length_drop]
    omega
  have hs:=Ue_ (fun r:RowR=>r.l.items.length) s.rows k ⟨(gt s.rows k).q,(Aq_ (gt s.rows k).l (gt (gt s.rows k).l.items j).mail.id).1⟩ h1
  dsimp only at hs ⊢
  rw[hk]
  unfold nik
  simp only[cond_false,Int.toNat_natCast,Ac_]
  omega
theorem nik_r0:∀ l:List RowR,(∀ r∈l,LnOk r.l)->(l.map fun r=>r.l.items.length).sum<=64*l.length
  |[],_=>by simp
  |x::l,h=>by
    have h1:=nik_r0 l fun r hr=>h r (List.mem_cons_of_mem _ hr)
    have h3:=(h x (List.mem_cons_self ..)).1
    simp only[List.map_cons,List.sum_cons,List.length_cons]
    omega
theorem nik_r {s:F_} (h:StkOk s):nik s<=512:=by
  have h1:=nik_r0 s.rows h.1.2.1
  have h2:=h.1.1
  unfold nik;omega
theorem Bn_ {s:C_} {a:A16_u64} (h:StOk s):StOk ⟨⟨s.x.book,s.x.stock,s.x.notes,a,s.x.spent⟩,s.policy,s.place⟩:=h
theorem Q3_ (m:Mail):(I_ m).head.length=m.head.length/\(I_ m).key.length=m.key.length/\(I_ m).hops=m.hops:=⟨rfl,rfl,rfl⟩
theorem st_nts {s:C_} (h:StOk s):s.x.notes.kept.length<=1000:=Nat.le_trans h.1.2.2.1 (by decide)
theorem Tu_ {k:F_} {t:Int} {r:Bs×Mail×Bool} {r1:F_×ItemR×Int} {f:Nat} (h:StkOk k) (hr:Q_ k t=r) (h2:r.2.2=true) (hr1:X_ k r.1 r.2.1.id=r1) (hf:nik k<f+1):nik r1.1<f:=by
  subst hr;subst hr1
  have :=late_n h h2;omega
theorem Tt_ {k:F_} {t:Int} {r:Bs×Mail×Bool} {r1:F_×ItemR×Int} {gone:List OutR} {g:OutR} (h:StkOk k) (hr:Q_ k t=r) (h2:r.2.2=true) (hr1:X_ k r.1 r.2.1.id=r1) (hf:gone.length+nik k<=512):(gone++[g]).length+nik r1.1<=512:=by
  subst hr;subst hr1
  have :=late_n h h2
  simp only[List.length_append,List.length_cons,List.length_nil];omega
def A2_ (tick:Int):Nat->List OutR->Int->C_->C_×Int
  |0,_,_,_=>default
  | f2+1,gone1,lost,x=>(bif decide (0<(gone1.length:Int)) then
 lt (Ah_ x.x.stock ((gt gone1 0).queue)) fun r=>
 (bif decide (((r.1).dead)=[]) then
 A2_ tick f2 (gone1.drop 1) lost x
 else lt (I_ ((gt gone1 0).mail)) fun r1=>
 lt (K_ x (⟨r1.id,(r.1).dead,r1.key,r1.head,r1.body,0,(IntKind.wrap .u8 (r1.hops+1))⟩:Mail) tick) fun r2=>
 (bif ((decide (4<(IntKind.wrap .u8 (r1.hops+1))))||(!decide (r2.2.2.2=0))) then
 lt (A0_ x tick 1 ((gt gone1 0).queue)) fun r3=>
 A2_ tick f2 (gone1.drop 1) (lost+1) r3
 else A2_ tick f2 ((gone1++r2.2.1).drop 1) lost r2.1))
 else (x,lost))
def At_ (s:C_) (gone:List OutR) (tick:Int):C_×Int:=
 A2_ tick (wtk s.x.stock+wto gone+1) gone 0 s
def Ba_ (s:C_) (d:DeedR):C_×U_×Int:=
 lt (Cc_ s.x.stock d.name d.id) fun r=>
 (bif !decide (r.2=0) then
 (s,(⟨(⟨(⟨0,[],[],[],[],0,0⟩:Mail),false,false⟩:ItemR),0,0⟩:U_),r.2)
 else (bif decide (d.how=2) then
 ((⟨(⟨s.x.book,r.1,s.x.notes,s.x.seen,s.x.spent⟩:A8_),s.policy,s.place⟩:C_),(⟨(⟨(⟨0,[],[],[],[],0,0⟩:Mail),false,false⟩:ItemR),0,0⟩:U_),0)
 else lt (X_ s.x.stock d.name d.id) fun r1=>
 (bif decide (d.how=1) then
 (((At_ (⟨(⟨s.x.book,r1.1,s.x.notes,s.x.seen,s.x.spent⟩:A8_),s.policy,s.place⟩:C_) [(⟨d.name,r1.2.1.mail⟩:OutR)] d.tick).1),(⟨(⟨(⟨0,[],[],[],[],0,0⟩:Mail),false,false⟩:ItemR),0,(At_ (⟨(⟨s.x.book,r1.1,s.x.notes,s.x.seen,s.x.spent⟩:A8_),s.policy,s.place⟩:C_) [(⟨d.name,r1.2.1.mail⟩:OutR)] d.tick).2⟩:U_),0)
 else ((⟨(⟨s.x.book,r1.1,s.x.notes,s.x.seen,s.x.spent⟩:A8_),s.policy,s.place⟩:C_),(⟨(⟨(⟨0,[],[],[],[],0,0⟩:Mail),false,false⟩:ItemR),0,0⟩:U_),0))))
def Bw_ (tick:Int):Nat->List OutR->C_->C_×U_
  |0,_,_=>default
  |f2+1,gone,x=>lt (Q_ x.x.stock tick) fun r=>
 (bif !r.2.2 then
 (((At_ x gone tick).1),(⟨(⟨(⟨0,[],[],[],[],0,0⟩:Mail),false,false⟩:ItemR),(gone.length:Int),(At_ x gone tick).2⟩:U_))
 else lt (X_ x.x.stock r.1 r.2.1.id) fun r1=>
 Bw_ tick f2 (gone++[(⟨r.1,r.2.1⟩:OutR)]) (⟨(⟨x.x.book,r1.1,x.x.notes,x.x.seen,x.x.spent⟩:A8_),x.policy,x.place⟩:C_))
def Dg_ (s:C_) (tick:Int):C_×U_:=
 Bw_ tick (nik s.x.stock+1) [] s
def Bz_ (s:C_) (d:DeedR):C_×U_×Int:=
 (bif decide ((s.policy.places.length:Int)<=d.frm) then
 (s,(⟨(⟨(⟨0,[],[],[],[],0,0⟩:Mail),false,false⟩:ItemR),0,0⟩:U_),10)
 else (bif ((!(G_ s.policy d.frm s.place))&&(decide ((B_ s.policy d.frm s.place)<0))) then
 (s,(⟨(⟨(⟨0,[],[],[],[],0,0⟩:Mail),false,false⟩:ItemR),0,0⟩:U_),11)
 else (bif decide (d.number<=(A16.get s.x.seen ((d.frm).toNat))) then
 (s,(⟨(⟨(⟨0,[],[],[],[],0,0⟩:Mail),false,false⟩:ItemR),0,0⟩:U_),13)
 else (lt1 ((bif !(G_ s.policy d.frm s.place) then
 lt (A0_ (⟨(⟨s.x.book,s.x.stock,s.x.notes,(A16.set s.x.seen d.number ((d.frm).toNat)),s.x.spent⟩:A8_),s.policy,s.place⟩:C_) d.tick 2 ((gt s.policy.places ((d.frm).toNat)).name)) fun r=>
 r
 else (⟨(⟨s.x.book,s.x.stock,s.x.notes,(A16.set s.x.seen d.number ((d.frm).toNat)),s.x.spent⟩:A8_),s.policy,s.place⟩:C_))) (fun x=>
 lt (I_ d.mail) fun r1=>
 lt (K_ x (⟨r1.id,r1.shop,r1.key,r1.head,r1.body,r1.due,(IntKind.wrap .u8 (r1.hops+1))⟩:Mail) d.tick) fun r2=>
 (bif ((decide (4<(IntKind.wrap .u8 (r1.hops+1))))||(!decide (r2.2.2.2=0))) then
 lt (A0_ x d.tick 1 r1.shop) fun r3=>
 (r3,(⟨(⟨(⟨0,[],[],[],[],0,0⟩:Mail),false,false⟩:ItemR),0,1⟩:U_),0)
 else (((At_ r2.1 r2.2.1 d.tick).1),(⟨(⟨(⟨0,[],[],[],[],0,0⟩:Mail),false,false⟩:ItemR),r2.2.2.1,(At_ r2.1 r2.2.1 d.tick).2⟩:U_),0)))))))
def B9_ (s:C_) (d:DeedR):C_×U_×Int:=
 lt (I_ d.mail) fun r=>
 lt (K_ s r d.tick) fun r1=>
 (bif !decide (r1.2.2.2=0) then
 (s,(⟨(⟨(⟨0,[],[],[],[],0,0⟩:Mail),false,false⟩:ItemR),0,0⟩:U_),r1.2.2.2)
 else (((At_ (r1.1) r1.2.1 d.tick).1),(⟨(⟨(⟨0,[],[],[],[],0,0⟩:Mail),false,false⟩:ItemR),r1.2.2.1,(At_ (r1.1) r1.2.1 d.tick).2⟩:U_),0))
def A9_ (s:C_) (d:DeedR):C_×U_×Int:=
 (bif !decide ((Ei_ d)=0) then
 (s,(⟨(⟨(⟨0,[],[],[],[],0,0⟩:Mail),false,false⟩:ItemR),0,0⟩:U_),Ei_ d)
 else (lt3 ((lt1 ((bif decide (d.kind=2) then
 (decide (d.kind=2))
 else (decide (d.kind=3)))) (fun v=>
 (bif v then
 lt (Bs_ s d) fun r=>
 (r.2,r.1,(⟨(⟨(⟨0,[],[],[],[],0,0⟩:Mail),false,false⟩:ItemR),0,0⟩:U_))
 else (bif decide (d.kind=6) then
 lt (B9_ s d) fun r1=>
 (r1.2.2,r1.1,r1.2.1)
 else (bif decide (d.kind=7) then
 lt (Bj_ s d) fun r2=>
 (r2.2.2,r2.1,r2.2.1)
 else (bif decide (d.kind=8) then
 lt (Ba_ s d) fun r3=>
 (r3.2.2,r3.1,r3.2.1)
 else (bif decide (d.kind=9) then
 lt (Dg_ s d.tick) fun r4=>
 (0,r4.1,r4.2)
 else (bif decide (d.kind=10) then
 lt (Bz_ s d) fun r5=>
 (r5.2.2,r5.1,r5.2.1)
 else (bif decide (d.kind=11) then
 lt (D5_ s.x.stock) fun r6=>
 lt (A0_ (⟨(⟨s.x.book,r6,s.x.notes,s.x.seen,s.x.spent⟩:A8_),s.policy,s.place⟩:C_) d.tick 3 []) fun r7=>
 (0,r7,(⟨(⟨(⟨0,[],[],[],[],0,0⟩:Mail),false,false⟩:ItemR),0,0⟩:U_))
 else (bif decide (d.kind=12) then
 lt (B6_ s.x.notes (⟨d.tick,d.code,d.text⟩:NoteR)) fun r8=>
 (r8.2,(⟨(⟨s.x.book,s.x.stock,r8.1,s.x.seen,s.x.spent⟩:A8_),s.policy,s.place⟩:C_),(⟨(⟨(⟨0,[],[],[],[],0,0⟩:Mail),false,false⟩:ItemR),0,0⟩:U_))
 else lt (B2_ s d) fun r9=>
 (r9.2,r9.1,(⟨(⟨(⟨0,[],[],[],[],0,0⟩:Mail),false,false⟩:ItemR),0,0⟩:U_))))))))))))) (fun e_1 x x1=>
 (bif !decide (e_1=0) then
 (s,(⟨(⟨(⟨0,[],[],[],[],0,0⟩:Mail),false,false⟩:ItemR),0,0⟩:U_),e_1)
 else (x,x1,0)))))
theorem Mh_ (tick:Int):∀ (f:Nat) (gone:List OutR) (lost:Int) (x:C_),Ms_ gone lost x->wtk x.x.stock+wto gone<f->StOk (A2_ tick f gone lost x).1
  |0,_,_,_,_,h=>by omega
  |f+1,gone,lost,x,hI,hf=>by
    unfold A2_ lt
    let Q:C_×Int->Prop:=fun r=>StOk r.1
    refine bt (P:=Q) (fun e=>?_) fun _=>hI.1
    have hn:0<gone.length:=by simpa using e
    refine bt (P:=Q) (fun _=>Mh_ tick f _ _ _ (Mv_ hI hn) (On_ hn hf)) fun _=>?_
    have hm:MlOk (gt gone 0).mail:=hI.2.1 _ (Jb_ hn)
    refine bt (P:=Q) (fun _=>?_) fun e4=>?_
    · have h:=Gx_ (s:=x) (t:=tick) (k:=1) (x:=(gt gone 0).queue) hI.1
      exact Mh_ tick f _ _ _ (Mw_ hI h.1 h.2 hn) (Q0_ h.2 hn hf)
    · simp only[Bool.or_eq_false_iff,decide_eq_false_iff_not,Bool.not_eq_false',decide_eq_true_eq] at e4
      have hs:=Ir_ (s:=x) (m:=⟨(I_ (gt gone 0).mail).id,(Ah_ x.x.stock (gt gone 0).queue).1.dead,(I_ (gt gone 0).mail).key,(I_ (gt gone 0).mail).head,(I_ (gt gone 0).mail).body,0,IntKind.wrap .u8 ((I_ (gt gone 0).mail).hops+1)⟩) (tick:=tick) hI.1 (Ku_ _)
      exact Mh_ tick f _ _ _ (Mx_ hI hs.1 hs.2.1 hn rfl hm e4.1 hs.2.2 rfl e4.2) (Oo_ hn hf rfl hm e4.1 hs.2.2 rfl e4.2)
theorem Pk_ {s:C_} {gone:List OutR} {tick:Int} (h:StOk s) (hg:gone.length<=600/\∀ g∈gone,MlOk g.mail):StOk (At_ s gone tick).1:=
  Mh_ tick _ gone 0 s (Xi_ h hg) (Nat.lt_succ_self _)
theorem settle_ok {s:C_} {d:DeedR} (h:StOk s):StOk (Ba_ s d).1:=by
  unfold Ba_ lt
  let Q:C_×U_×Int->Prop:=fun r=>StOk r.1
  refine bt (P:=Q) (fun _=>h) fun _=>?_
  refine bt (P:=Q) (fun _=>A7_ h (Uz_ h.stk)) fun _=>?_
  have hr:=G8_ (n:=d.name) (id:=d.id) h.stk
  refine bt (P:=Q) (fun _=>Pk_ (A7_ h hr.1) ⟨by simp,fun g hg=>?_⟩) fun _=>A7_ h hr.1
  rw[List.mem_singleton.1 hg];exact hr.2
theorem U3_ (t:Int):∀ (f:Nat) (gone:List OutR) (x:C_),StOk x->(∀ g∈gone,MlOk g.mail)->gone.length+nik x.x.stock<=512->nik x.x.stock<f->StOk (Bw_ t f gone x).1
  |0,_,_,_,_,_,h=>by omega
  |f+1,gone,x,h,hg,hl,hf=>by
    unfold Bw_ lt
    let Q:C_×U_->Prop:=fun r=>StOk r.1
    refine bt (P:=Q) (fun _=>Pk_ h ⟨by omega,hg⟩) fun e=>?_
    have e':(Q_ x.x.stock t).2.2=true:=by simpa using e
    have hr:=G8_ (n:=(Q_ x.x.stock t).1) (id:=(Q_ x.x.stock t).2.1.id) h.stk
    refine U3_ t f _ _ (A7_ h hr.1) (fun g q=>?_) (Tt_ h.stk rfl e' rfl hl) (Tu_ h.stk rfl e' rfl hf)
    rcases List.mem_append.1 q with q|q
    · exact hg g q
    · rw[List.mem_singleton.1 q];exact Qc_ h.stk
theorem late_ok {s:C_} {t:Int} (h:StOk s):StOk (Dg_ s t).1:=
  U3_ t _ [] s h (fun _ h=>by cases h) (by have :=nik_r h.stk;simpa using this) (Nat.lt_succ_self _)
theorem put_ok {s:C_} {d:DeedR} (h:StOk s) (hd:DdOk d) (h0:0<=d.mail.hops):StOk (B9_ s d).1:=by
  unfold B9_ lt
  let Q:C_×U_×Int->Prop:=fun r=>StOk r.1
  have hs:=Ir_ (s:=s) (m:=I_ d.mail) (tick:=d.tick) h h0
  have hl:=Iq_ (s:=s) (m:=I_ d.mail) (tick:=d.tick) h
  exact bt (P:=Q) (fun _=>h) fun _=>Pk_ hs.1 ⟨by omega,hs.2.1⟩
theorem pull_ok {s:C_} {d:DeedR} (h:StOk s) (hd:DdOk d):StOk (Bz_ s d).1:=by
  unfold Bz_ lt
  let Q:C_×U_×Int->Prop:=fun r=>StOk r.1
  refine bt (P:=Q) (fun _=>h) fun _=>?_
  refine bt (P:=Q) (fun _=>h) fun _=>?_
  refine bt (P:=Q) (fun _=>h) fun _=>?_
  refine lt1E (P:=Q) StOk ?_ fun x hx=>?_
  · exact bt (P:=StOk) (fun _=>(Gx_ (Bn_ h)).1) fun _=>Bn_ h
  · refine bt (P:=Q) (fun _=>(Gx_ hx).1) fun _=>?_
    have hs:=Ir_ (s:=x) (m:=⟨(I_ d.mail).id,(I_ d.mail).shop,(I_ d.mail).key,(I_ d.mail).head,(I_ d.mail).body,(I_ d.mail).due,IntKind.wrap .u8 ((I_ d.mail).hops+1)⟩) (tick:=d.tick) hx (Ku_ _)
    have hl:=Iq_ (s:=x) (m:=⟨(I_ d.mail).id,(I_ d.mail).shop,(I_ d.mail).key,(I_ d.mail).head,(I_ d.mail).body,(I_ d.mail).due,IntKind.wrap .u8 ((I_ d.mail).hops+1)⟩) (tick:=d.tick) hx
    exact Pk_ hs.1 ⟨by omega,hs.2.1⟩
theorem lt3E {σ τ ρ β:Type} {P:β->Prop} {o:σ×τ×ρ} {f:σ->τ->ρ->β} (I:σ×τ×ρ->Prop) (ho:I o) (hf:∀ a b c,I (a,b,c)->P (f a b c)):P (lt3 o f):=hf _ _ _ ho
theorem Xu_ {s:C_} {d:DeedR} (h:StOk s) (hd:DdOk d) (h0:0<=d.mail.hops):StOk (A9_ s d).1:=by
  unfold A9_ lt
  let Q:C_×U_×Int->Prop:=fun r=>StOk r.1
  refine bt (P:=Q) (fun _=>h) fun _=>?_
  let I:Int×C_×U_->Prop:=fun r=>StOk r.2.1
  refine lt3E (P:=Q) I ?_ fun a b c hb=>bt (P:=Q) (fun _=>h) fun _=>hb
  refine lt1E (P:=I) (fun _=>True) trivial fun v _=>?_
  refine bt (P:=I) (fun _=>Z2_ h) fun _=>?_
  refine bt (P:=I) (fun _=>put_ok h hd h0) fun _=>?_
  refine bt (P:=I) (fun _=>(lend_ok h).1) fun _=>?_
  refine bt (P:=I) (fun _=>settle_ok h) fun _=>?_
  refine bt (P:=I) (fun _=>late_ok h) fun _=>?_
  refine bt (P:=I) (fun _=>pull_ok h hd) fun _=>?_
  refine bt (P:=I) (fun _=>(Gx_ (A7_ h (U1_ h.stk))).1) fun _=>?_
  refine bt (P:=I) (fun _=>⟨⟨h.1.1,h.1.2.1,Qm_ h.1.2.2.1,h.1.2.2.2⟩,h.2⟩) fun _=>?_
  exact shops_ok h hd
instance {σ ρ:Type} [Inhabited ρ]:Inhabited (Lo σ ρ):=⟨.ret default⟩
theorem has_fd (a:LabelR) (i:Int) (h:0<=a.set_):0<=a.set_.fdiv (2 ^ min i.toNat IntKind.u32.bits):=
  Int.fdiv_nonneg h (Int.le_of_lt (Int.pow_pos (by decide)))
theorem poOk_l {p:PolicyR} (h:PoOk p):p.places.length<=100000/\p.slots.length<=100000/\p.grants.length<=100000:=by
  obtain⟨_,h2,_,h4,h5,_⟩:=h
  omega
def Qp_ (a:LabelR) (i:Int):Bool:=
 (decide (((Int.fdiv a.set_ (2 ^ (min (i:Int).toNat (IntKind.bits .u32))))%2)=1))
def Hx_ (a:LabelR) (b:LabelR):Nat->Nat->Bool
  |0,_=>default
  | f2+1,i=>(bif decide ((i:Int)<32) then
 (bif ((Qp_ a (i:Int))&&(!(Qp_ b (i:Int)))) then
 false
 else Hx_ a b f2 (i+1))
 else true)
def Le_ (a:LabelR) (b:LabelR):Bool:=
 (bif decide (b.level<a.level) then
 false
 else Hx_ a b (32-0+1) 0)
def Eb_ (y:PlaceR):List PlaceR->Lo Unit Int
  |[]=> .fin ()
  | x::t=>(bif ((decide ((x.name)=(y.name)))||(decide (x.label=y.label))) then
 .ret 9
 else Eb_ y t)
def Ec_ (y1:GrantR):List GrantR->Lo Unit Int
  |[]=> .fin ()
  | x1::t1=>(bif ((decide ((x1.frm)=(y1.frm)))&&(decide ((x1.to')=(y1.to')))) then
 .ret 9
 else Ec_ y1 t1)
def E0_ (i:Nat):List Int->Bool->Lo Unit Int
  | [],has=>(bif !has then
 .ret 15
 else .fin ())
  |x2::t2,has=>E0_ i t2 (has||(decide (x2=(i:Int))))
def Hy_ (p:PolicyR):Nat->Nat->Int
  |0,_=>default
  | f2+1,i=>(bif decide ((i:Int)<(p.places.length:Int)) then
 (lp0 (E0_ i p.slots false) (
 Hy_ p f2 (i+1)) (fun r=>r))
 else 0)
def Ds_ (p:PolicyR):List GrantR->Nat->Int
  |[],k3=>Hy_ p (p.places.length-0+1) 0
  | x3::t3,k3=>(lp0 ((bif ((((decide ((x3.frm)<0))||(decide ((p.places.length:Int)<=(x3.frm))))||(decide ((x3.to')<0)))||(decide ((p.places.length:Int)<=(x3.to')))) then
 .ret 10
 else (bif (Le_ ((gt p.places ((x3.frm).toNat)).label) ((gt p.places ((x3.to').toNat)).label)) then
 .ret 11
 else (bif ((decide ((x3.budget)<0))||(decide (16<(x3.budget)))) then
 .ret 7
 else Ec_ x3 (p.grants.take k3))))) (
 Ds_ p t3 (k3+1)) (fun r=>r))
def Da_ (p:PolicyR):List Int->Int
  | []=>(bif decide (8<(p.grants.length:Int)) then
 6
 else Ds_ p p.grants 0)
  | x4::t4=>(bif ((decide (x4<0))||(decide ((p.places.length:Int)<=x4))) then
 10
 else Da_ p t4)
def Dr_ (p:PolicyR):List PlaceR->Nat->Int
  | [],k=>(bif decide ((p.slots.length:Int)=0) then
 15
 else (bif decide (32<(p.slots.length:Int)) then
 6
 else Da_ p p.slots))
  | x5::t5,k=>(lp0 ((bif !decide ((Dw_ (x5.name))=0) then
 .ret (Dw_ (x5.name))
 else (bif ((((decide (15<(x5.label.level)))||(decide ((x5.bytes)<0)))||(decide (65536<(x5.bytes))))||(decide ((x5.base)=0))) then
 .ret 7
 else Eb_ x5 (p.places.take k)))) (
 Dr_ p t5 (k+1)) (fun r=>r))
def Je_ (p:PolicyR):Int:=
 (bif ((((decide (p.work<1))||(decide (16<p.work)))||(decide (p.give<1)))||(decide (16<p.give))) then
 7
 else (bif decide ((p.places.length:Int)=0) then
 15
 else (bif decide (16<(p.places.length:Int)) then
 6
 else Dr_ p p.places 0)))
def Jf_ (p:PolicyR) (tick:Int):Int:=
 ((IntKind.wrap .u64 (tick-(tick%(p.slots.length:Int))))/(p.slots.length:Int))
def J7_ (p:PolicyR) (n:Int):Int:=
 (n%(p.places.length:Int))
def Ex_:List PlaceR->Bool
  |[]=>true
  | x::t=>(bif decide (40<((x.name).length:Int)) then
 false
 else Ex_ t)
def H8_ (p:PolicyR):Bool:=
 (bif (((decide (20<(p.places.length:Int)))||(decide (40<(p.slots.length:Int))))||(decide (10<(p.grants.length:Int)))) then
 false
 else Ex_ p.places)
def Fd_:List GrantR->Int->Int->List PlaceR->List Int->List GrantR->PolicyR
  |[],work1,give_1,places1,slots1,grants1=>(⟨work1,give_1,places1,slots1,grants1⟩:PolicyR)
  |x::t,work1,give_1,places1,slots1,grants1=>Fd_ t work1 give_1 places1 slots1 (grants1++[x])
def Fc_ (p:PolicyR):List PlaceR->Int->Int->List PlaceR->List Int->List GrantR->PolicyR
  |[],work,give_,places,slots,grants=>Fd_ p.grants work give_ places (slots++p.slots) grants
  |x1::t1,work,give_,places,slots,grants=>Fc_ p t1 work give_ (places++[x1]) slots grants
def J6_ (p:PolicyR):PolicyR:=
 Fc_ p p.places p.work p.give [] [] []
theorem Yo_ {p:PolicyR} (h:H8_ p=true):p.places.length<=100000/\p.slots.length<=100000/\p.grants.length<=100000:=by
  unfold H8_ at h
  cases e:(decide (20<(p.places.length:Int)) || decide (40<(p.slots.length:Int)) || decide (10<(p.grants.length:Int))) with
  |true=>rw[e] at h;cases h
  |false=>
    simp only[Bool.or_eq_false_iff,decide_eq_false_iff_not] at e
    omega
def Kb_ (p:PolicyR):Bool:=
 ((H8_ p)&&(decide ((Je_ (J6_ p))=0)))
end Go.SW.V
namespace Go.SW
open Go.RowKit
def cuts (p:UInt8):Bs->List Bs
  |[]=>[[]]
  |c::r=>if c=p then []::cuts p r else match cuts p r with
    |[]=>[[c]]
    |w::t=>(c::w)::t
theorem Oc_ (p:UInt8):∀ s:Bs,Lib.splitK [p] 0 (Lib.count s [p]) s=cuts p s
  |[]=>by rw[Lib.count_miss (by simp[Lib.index])];rfl
  |b::l=>by
    have ih:=Oc_ p l
    by_cases hb:b=p
    · subst hb
      rw[Lib.count_cons_eq,Nat.add_comm]
      have hix:Lib.index (b::l) [b]=0:=by rw[Lib.index];simp[List.isPrefixOf]
      unfold Lib.splitK cuts
      rw[hix]
      simp[ih]
    · rw[Lib.count_cons_ne _ _ _ hb]
      have hp:([p]:List UInt8).isPrefixOf (b::l)=false:=by simp[List.isPrefixOf,Ne.symm hb]
      have hix:Lib.index (b::l) [p] = if Lib.index l [p] == -1 then -1 else Lib.index l [p]+1:=by rw[Lib.index,hp];simp
      unfold cuts
      rw[if_neg hb,<- ih]
      cases hc:Lib.count l [p] with
      |zero=>rfl
      |succ k=>
        unfold Lib.splitK
        rw[hix]
        by_cases hm:Lib.index l [p] = -1
        · rw[Lib.count_miss hm] at hc;cases hc
        · have hge:=Lib.index_ge l [p]
          obtain⟨j,hj⟩:∃ j:Nat,Lib.index l [p]=j:=⟨(Lib.index l [p]).toNat,by omega⟩
          rw[hj]
          have e1:¬(((j:Nat):Int) == -1)=true:=by simp<;>omega
          have e2:¬(((j:Nat):Int)+1 == -1)=true:=by simp<;>omega
          rw[if_neg e1,if_neg e1,if_neg e2]
          have e3:(((j:Nat):Int)+1).toNat=j+1:=by omega
          rw[e3,Int.toNat_natCast]
          simp
theorem Oa_ (p:UInt8) (s:Bs):(Lib.splitB ⟨#[p]⟩ 0 (Lib.countB ⟨s.toArray⟩ ⟨#[p]⟩) ⟨s.toArray⟩).map Value.string=(cuts p s).map str:=by
  have h:=Lib.splitB_data ⟨#[p]⟩ 0 (Lib.countB ⟨s.toArray⟩ ⟨#[p]⟩) ⟨s.toArray⟩
  have hc:Lib.countB ⟨s.toArray⟩ ⟨#[p]⟩=Lib.count s [p]:=by simp[Lib.countB]
  rw[hc] at h ⊢
  have e:=Oc_ p s
  simp only at h
  rw[e] at h
  rw[<- h,List.map_map]
  congr 1
theorem Ud_ (p:UInt8) (s:Bs):Lib.countB ⟨s.toArray⟩ ⟨#[p]⟩+1=(cuts p s).length:=by
  have h:=congrArg List.length (Oa_ p s)
  rw[List.length_map,List.length_map,Lib.splitB_all ⟨#[p]⟩ (by simp[ByteArray.size]) 0 _ _ rfl] at h
  exact h
theorem Lj_ (p:UInt8):∀ (s w:Bs),w∈cuts p s->w.length<=s.length
  |[],w,h=>by simp[cuts] at h;simp[h]
  |c::r,w,h=>by
    unfold cuts at h
    split at h
    · rcases List.mem_cons.1 h with rfl|h
      · simp
      · have :=Lj_ p r w h;simp;omega
    · split at h
      · simp at h;subst h;simp
      · rename_i x t e
        have ih:=Lj_ p r
        rw[e] at ih
        rcases List.mem_cons.1 h with rfl|h
        · have :=ih x (by simp);simp;omega
        · have :=ih w (by simp[h]);simp;omega
theorem Tf_ (p:UInt8):∀ s:Bs,(cuts p s).length<=s.length+1
  |[]=>by simp[cuts]
  |c::r=>by
    have ih:=Tf_ p r
    unfold cuts
    split
    · simp;omega
    · split
      · simp
      · rename_i e;rw[e] at ih;simp at ih ⊢;omega
theorem Mem.addH {N:Rest} {H:Hp} {L:Ls} {w w':World} (h:Mem N H L w) (hb:Below w.heap.size w w') {g:Nat} {o:Obj} (hg:w.heap.size<=g) (ho:w'.heap[g]? = some o):Mem N (hadd H g o) L w'/\HLe H (hadd H g o):=by
  have hs:∀ (b:Nat) o',w.heap[b]? = some o'->b<w.heap.size:=fun b o' x=>by
    by_cases q:b<w.heap.size
    · exact q
    · rw[Array.getElem?_eq_none (by omega)] at x;cases x
  have hk:∀ (b:Nat) o',w.heap[b]? = some o'->w'.heap[b]? = some o':=fun b o' x=>by rw[hb.block b (hs b o' x)];exact x
  have hH:H g=none:=by
    cases q:H g with
    |none=>rfl
    |some o1=>have :=hs _ _ (h.h _ _ q);omega
  refine⟨⟨hb.os.trans h.os,hb.tape.trans h.tape,hb.output.trans h.output,fun b o' x=>hk _ _ (h.n b o' x),fun b o' x=>?_,fun i b o' x=>hk _ _ (h.l i b o' x),fun b o' x=>?_,fun i b o' x=>⟨(h.nl i b o' x).1,?_⟩,h.ll⟩,P3_ hH⟩
  · by_cases e:b=g
    · subst e;simp[hadd] at x;subst x;exact ho
    · simp[hadd,e] at x;exact hk _ _ (h.h b o' x)
  · have :=hs b o' (h.n b o' x)
    have e:b≠g:=by omega
    simp[hadd,e];exact h.nh b o' x
  · have :=hs b o' (h.l i b o' x)
    have e:b≠g:=by omega
    simp[hadd,e];exact (h.nl i b o' x).2
theorem ph_rowB {P:Program} {f:FuncId} {args:Array Value} {H:Hp} {T:TypeId} {xs:List Bs} {ys:List Value} (hy:ys=xs.map str) (hx:∀ s∈xs,s.length<=9223372036854775807)
    (h:∀ N L w,Mem N H L w->Calls P f args w fun e w'=>∃ A,e = .returned (.slice (some ⟨A,0,none⟩) ys.length ys.length)/\w.heap.size<=A/\w'.ownsRow w.heap.size T 1 (.slice (some ⟨A,0,none⟩) ys.length ys.length) ys.length ys/\Below w.heap.size w w') :
    Ph P f args H (fun v H'=>∃ (a:Option Addr) (c:Nat),v = .slice a xs.length c/\SlH strE 1 H' (.slice a xs.length c) xs):=by
  subst hy
  intro N L w hm
  refine (h N L w hm).mono fun e w' ⟨A,he,hA,hr,hb⟩=>?_
  simp only[List.length_map] at he hr
  rcases hr.2 with ⟨h0,_⟩|⟨g,cap,cur,hv,hg,ho,hn,_,hc,ht⟩
  · cases h0
  · cases hv
    obtain⟨hm',hl⟩:=hm.addH hb hA ho
    have hcur:cur=(xs.map str).toArray:=by
      apply Array.ext'
      rw[<- ht]
      have :cur.toList.length=xs.length*1:=by simpa using hc
      rw[List.take_of_length_le (by omega)]
    refine⟨_,_,he,⟨_,_,rfl,⟨_,_,rfl,Nat.le_refl _⟩,fun m hmm=>⟨[str xs[m]],⟨rfl,hx _ (List.getElem_mem hmm)⟩,A,0,xs.length,xs.length,cur,T,(0,0),rfl,?_,rfl,fun j hj=>?_⟩⟩,hl,hm'⟩
    · simp[hadd]
    · obtain rfl :j=0:=by simpa using hj
      subst hcur
      simp[hmm]
def flds (s:Bs):List Bs:=(Lib.goFieldsP (fun x=>decide ((x:Int)=32)) ⟨s.toArray⟩).map fun b=>b.data.toList
theorem flds_str (s:Bs):(Lib.goFieldsP (fun x=>decide ((x:Int)=32)) ⟨s.toArray⟩).map Value.string=(flds s).map str:=by
  unfold flds
  rw[List.map_map]
  congr 1
theorem V9_ (s w:Bs) (h:w∈flds s):w.length<=s.length:=by
  simp only[flds,Lib.goFieldsP,List.map_map,List.mem_map,Function.comp] at h
  obtain⟨x,_,rfl⟩:=h
  simp only[Array.length_toList]
  show ((⟨s.toArray⟩:ByteArray).extract x.1 x.2).size<=s.length
  rw[ByteArray.size_extract]
  have :(⟨s.toArray⟩:ByteArray).size=s.length:=by simp[ByteArray.size]
  omega
def plen (s:Bs):Bool:=decide (s.length<=65536)&&(cuts 10 s).all fun l=>decide (l.length<=65536) && decide ((flds l).length<=65536)&&(flds l).all fun w=>decide (0<w.length) && decide (w.length<=19)
theorem plen_ok {s:Bs} (h:plen s=true):s.length<=65536/\∀ l∈cuts 10 s,l.length<=65536/\(flds l).length<=65536/\∀ w∈flds l,0<w.length/\w.length<=19:=by
  simp only[plen,Bool.and_eq_true,decide_eq_true_eq,List.all_eq_true] at h
  exact⟨h.1,fun l hl=>⟨(h.2 l hl).1.1,(h.2 l hl).1.2,(h.2 l hl).2⟩⟩
def dec (s:Bs):Nat:=match Lib.parseUintB 64 s with| .ok n=>n|_=>0
def Ev_ (s:Bs):Bool:=s.all fun c=>decide (48<=c.toNat) && decide (c.toNat<=57)
theorem pu_ok:∀ (s:Bs) (a k:Nat),a<10 ^ k->k+s.length<=19->Ev_ s=true->∃ n,Lib.parseUintM 18446744073709551615 a s = .ok n/\n<10 ^ 19
  |[],a,k,ha,hk,_=>⟨a,rfl,Nat.lt_of_lt_of_le ha (Nat.pow_le_pow_right (by decide) (by simpa using hk))⟩
  |c::r,a,k,ha,hk,hd=>by
    simp only[Ev_,List.all_cons,Bool.and_eq_true,decide_eq_true_eq,List.length_cons] at hd hk
    have h18:10 ^ k<=10 ^ 18:=Nat.pow_le_pow_right (by decide) (by omega)
    have h19:a*10+(c.toNat-48)<10 ^ (k+1):=by rw[Nat.pow_succ];omega
    have e18:(10:Nat) ^ 18=1000000000000000000:=by decide
    unfold Lib.parseUintM
    rw[if_pos hd.1,if_neg (by omega),if_neg (by omega)]
    exact pu_ok r _ (k+1) h19 (by omega) hd.2
theorem dec_ok {s:Bs} (hl:s.length<=19) (h0:0<s.length) (hd:Ev_ s=true):Lib.parseUintB 64 s = .ok (dec s)/\(dec s:Int)<=18446744073709551615:=by
  obtain⟨n,h,hn⟩:=pu_ok s 0 0 (by decide) (by simpa using hl) hd
  have h:Lib.parseUintB 64 s = .ok n:=by
    unfold Lib.parseUintB
    rw[if_neg (by intro q;subst q;cases h0)]
    exact h
  have e19:(10:Nat) ^ 19=10000000000000000000:=by decide
  have e:dec s=n:=by unfold dec;rw[h]
  rw[e];exact⟨h,by omega⟩
theorem Mem.below {N:Rest} {H:Hp} {L:Ls} {w w':World} (hm:Mem N H L w) (hb:Below w.heap.size w w'):Mem N H L w':=
  hm.of_same hb.os hb.tape hb.output fun c o ho=>by
    rw[hb.block c (by by_cases q:c<w.heap.size;exact q;rw[Array.getElem?_eq_none (by omega)] at ho;cases ho)]
    exact ho
theorem dig_step {s:Bs} {k:Nat} (h:Ev_ (s.take k)=true) (hk:k<s.length) (hc:(decide (((s.getD k 0).toNat:Int)<48) || decide (57<((s.getD k 0).toNat:Int)))=false):Ev_ (s.take (k+1))=true:=by
  have e:s.take (k+1)=s.take k++[s.getD k 0]:=by
    rw[List.take_add_one,List.getElem?_eq_getElem hk,List.getD_eq_getElem?_getD,List.getElem?_eq_getElem hk];rfl
  rw[e]
  simp only[Bool.or_eq_false_iff,decide_eq_false_iff_not] at hc
  simp only[Ev_,List.all_append,Bool.and_eq_true,List.all_cons,List.all_nil,decide_eq_true_eq,Bool.and_true]
  exact⟨h,by omega,by omega⟩
theorem dig_all {s:Bs} {k:Nat} (h:Ev_ (s.take k)=true) (hk:s.length<=k):Ev_ s=true:=by
  rwa [List.take_of_length_le hk] at h
end Go.SW
namespace Go.SW.V
open Go.SW
theorem Vr_:RiOk ⟨0,[]⟩:=⟨Nat.zero_le _,fun _ h=>by cases h⟩
theorem plen05:plen [119,111,114,107,32,52,10,103,105,118,101,32,49,10,108,97,98,101,108,32,108,111,119,32,48,32,53,49,50,32,49,10,115,108,111,116,32,108,111,119]=true:=by decide +kernel
theorem rput_ne {x:RiseR} {m:Mail} (h:x.total=0\/0<x.kept.length):(Ae_ x m).1.total=0\/0<(Ae_ x m).1.kept.length:=by
  unfold Ae_ lt
  let Q:RiseR×Int->Prop:=fun r=>r.1.total=0\/0<r.1.kept.length
  refine bt (P:=Q) (fun _=>h) fun _=>?_
  refine bt (P:=Q) (fun _=>h) fun _=> .inr ?_
  simp only[List.flatten_cons,List.flatten_nil,List.append_nil,List.length_drop,List.length_append,List.length_cons,List.length_nil]
  omega
theorem knew_ok (b n:Int) (h:n<=1000000):StkOk (Db_ b n):=by
  refine⟨⟨by simp[Db_],by simp[Db_],by simp[Db_]⟩,fun i hi=>?_,?_,?_⟩
  · have :(Db_ b n).rises.get i=⟨0,[]⟩:=by
      unfold Db_ A16.get
      repeat' split
      all_goals rfl
    rw[this];exact Vr_
  · show 0<=max 0 n
    omega
  · show max 0 n<=1000000
    omega
def poB (p:PolicyR):Bool:=decide (0<p.places.length) && decide (p.places.length<=16) && decide (0<p.slots.length) && decide (p.slots.length<=32) && decide (p.grants.length<=8)&&(p.grants.all fun g=>decide (0<=g.frm) && decide (g.frm<p.places.length) && decide (0<=g.to') && decide (g.to'<p.places.length) && decide (0<=g.budget) && decide (g.budget<=16))&&p.places.all fun x=>decide (0<=x.bytes) && decide (x.bytes<=65536)
theorem Vm_ {p:PolicyR} (h:poB p=true):PoOk p:=by
  simp only[poB,List.all_eq_true,Bool.and_eq_true,decide_eq_true_eq] at h
  obtain⟨⟨⟨⟨⟨⟨h1,h2⟩,h3⟩,h4⟩,h5⟩,h6⟩,h7⟩:=h
  exact⟨h1,h2,h3,h4,h5,fun g hg=>by have :=h6 g hg;omega,h7⟩
def ddB (l:List DeedR):Bool:=l.all fun d=>decide (d.bind.key.length<=1000) && decide (d.bind.want.length<=1000) && decide (d.mail.head.length<=1000) && decide (d.mail.key.length<=1000) && decide (0<=d.mail.hops)
theorem ddB_ok {l:List DeedR} (h:ddB l=true):∀ d∈l,DdOk d/\0<=d.mail.hops:=fun d hd=>by
  simp only[ddB,List.all_eq_true,Bool.and_eq_true,decide_eq_true_eq] at h
  have :=h d hd
  exact⟨⟨this.1.1.1.1,this.1.1.1.2,this.1.1.2,this.1.2⟩,this.2⟩
theorem dd1 {d:DeedR} (h:ddB [d]=true):DdOk d:=(ddB_ok h d List.mem_cons_self).1
theorem Vw_ (l0:List DeedR):∀ {l:List DeedR} {d:DeedR},Cs_ l0 l=true->d∈l->K4_ d=true
  |[],d,_,hd=>by simp at hd
  |x::l,d,h,hd=>by
    simp only[Cs_] at h
    cases e:K4_ x with
    |false=>rw[e] at h;cases h
    |true=>
      rw[e] at h
      rcases List.mem_cons.1 hd with rfl|q
      · exact e
      · exact Vw_ l0 h q
theorem Vv_ (l0:List DeedR):∀ {l:List DeedR},Cs_ l0 l=true->l0.length<=40
  |[],h=>by simp[Cs_] at h;omega
  |x::l,h=>by
    simp only[Cs_] at h
    cases e:K4_ x with
    |false=>rw[e] at h;cases h
    |true=>rw[e] at h;exact Vv_ l0 h
def DdA (l:List DeedR):Prop:=(∀ d∈l,DdOk d)/\l.length<=40
theorem l23_dd {l:List DeedR} (h:He_ l=true):DdA l:=⟨fun d hd=>by
  have e:=Vw_ _ h hd
  have h1:=O0_ d e
  simp only[K4_,Bool.and_eq_true,decide_eq_true_eq] at e
  have h2:=Np_ _ h1.2.2.2
  refine⟨by omega,by omega,by omega,by omega⟩,Vv_ _ h⟩
theorem dd_mem {l:List DeedR} {k:Nat} {d:DeedR} (h:DdA l) (hd:l[k]? = some d):DdOk d:=h.1 d (List.mem_of_getElem? hd)
theorem at_r (p:PolicyR) (n:Int) (h:0<p.places.length):0<=J7_ p n/\J7_ p n<p.places.length:=
  ⟨Int.emod_nonneg _ (by omega),Int.emod_lt_of_pos _ (by omega)⟩
theorem to_eq1:∀ (l:List GrantR) (w g:Int) (p:List PlaceR) (s:List Int) (o:List GrantR),Fd_ l w g p s o=⟨w,g,p,s,o++l⟩
  |[],w,g,p,s,o=>by simp[Fd_]
  |x::l,w,g,p,s,o=>by simp[Fd_,to_eq1 l]
theorem to_eq0 (q:PolicyR):∀ (l:List PlaceR) (w g:Int) (p:List PlaceR) (s:List Int) (o:List GrantR),Fc_ q l w g p s o=⟨w,g,p++l,s++q.slots,o++q.grants⟩
  |[],w,g,p,s,o=>by simp[Fc_,to_eq1]
  |x::l,w,g,p,s,o=>by simp[Fc_,to_eq0 q l]
theorem to_eq (p:PolicyR):J6_ p=p:=by simp[J6_,to_eq0]
theorem to_sl (p:PolicyR):(J6_ p).slots.length=p.slots.length:=by rw[to_eq]
theorem chk1 (y:PlaceR):∀ l:List PlaceR,LoP (fun _=>True) (fun r:Int=>r≠0) (Eb_ y l)
  |[]=>trivial
  |x::l=>by
    unfold Eb_
    exact bt (P:=LoP _ _) (fun _=>by show (9:Int)≠0;decide) fun _=>chk1 y l
theorem chk4 (y:GrantR):∀ l:List GrantR,LoP (fun _=>True) (fun r:Int=>r≠0) (Ec_ y l)
  |[]=>trivial
  |x::l=>by
    unfold Ec_
    exact bt (P:=LoP _ _) (fun _=>by show (9:Int)≠0;decide) fun _=>chk4 y l
theorem lp0Z {σ:Type} {I:Prop} {o:Lo Unit Int} {f:Int} (h:lp0 o f (fun r=>r)=0) (ho:LoP (fun _=>I) (fun r:Int=>r≠0) o):I/\f=0:=by
  cases o with
  |fin u=>exact⟨ho,h⟩
  |ret r=>exact absurd h ho
theorem LoP.imp {σ ρ:Type} {I J:σ->Prop} {R:ρ->Prop} {o:Lo σ ρ} (h:LoP I R o) (k:∀ s,I s->J s):LoP J R o:=by
  cases o with
  |fin s=>exact k s h
  |ret r=>exact h
theorem chk3 (p:PolicyR):∀ (l:List GrantR) (k:Nat),Ds_ p l k=0->∀ g∈l,0<=g.frm/\g.frm<p.places.length/\0<=g.to'/\g.to'<p.places.length/\0<=g.budget/\g.budget<=16
  |[],_,_,_,h=>by cases h
  |x::l,k,h,g,hg=>by
    unfold Ds_ at h
    obtain ⟨hx,h2⟩:=lp0Z (σ:=Unit) (I:=0<=x.frm/\x.frm<p.places.length/\0<=x.to'/\x.to'<p.places.length/\0<=x.budget/\x.budget<=16) h (by
      refine bt (P:=LoP _ _) (fun _=>by show (10:Int)≠0;decide) fun e=>?_
      refine bt (P:=LoP _ _) (fun _=>by show (11:Int)≠0;decide) fun _=>?_
      refine bt (P:=LoP _ _) (fun _=>by show (7:Int)≠0;decide) fun e2=>?_
      simp only[Bool.or_eq_false_iff,decide_eq_false_iff_not] at e e2
      exact (chk4 x _).imp fun _ _=>⟨by omega,by omega,by omega,by omega,by omega,by omega⟩)
    rcases List.mem_cons.1 hg with rfl|q
    · exact hx
    · exact chk3 p l (k+1) h2 g q
theorem chk2 (p:PolicyR):∀ l:List Int,Da_ p l=0->p.grants.length<=8/\Ds_ p p.grants 0=0
  |[],h=>by
    unfold Da_ at h
    cases e:decide (8<(p.grants.length:Int)) with
    |true=>rw[e] at h;cases h
    |false=>rw[e] at h;simp only[decide_eq_false_iff_not] at e;exact⟨by omega,h⟩
  |x::l,h=>by
    unfold Da_ at h
    cases e:(decide (x<0) || decide ((p.places.length:Int)<=x)) with
    |true=>rw[e] at h;cases h
    |false=>rw[e] at h;exact chk2 p l h
theorem chk0 (p:PolicyR):∀ (l:List PlaceR) (k:Nat),Dr_ p l k=0->(∀ x∈l,0<=x.bytes/\x.bytes<=65536)/\0<p.slots.length/\p.slots.length<=32/\Da_ p p.slots=0
  |[],k,h=>by
    unfold Dr_ at h
    cases e:decide ((p.slots.length:Int)=0) with
    |true=>rw[e] at h;cases h
    |false=>
      rw[e] at h
      cases e2:decide (32<(p.slots.length:Int)) with
      |true=>rw[e2] at h;cases h
      |false=>
        rw[e2] at h
        simp only[decide_eq_false_iff_not] at e e2
        exact⟨fun _ hx=>by (cases hx),by omega,by omega,h⟩
  |x::l,k,h=>by
    unfold Dr_ at h
    obtain ⟨hx,h2⟩:=lp0Z (σ:=Unit) (I:=0<=x.bytes/\x.bytes<=65536) h (by
      refine bt (P:=LoP _ _) (fun e=>?_) fun _=>?_
      · show Dw_ x.name≠0
        simpa using e
      refine bt (P:=LoP _ _) (fun _=>by show (7:Int)≠0;decide) fun e=>?_
      simp only[Bool.or_eq_false_iff,decide_eq_false_iff_not] at e
      exact (chk1 x _).imp fun _ _=>⟨by omega,by omega⟩)
    obtain⟨h3,h4⟩:=chk0 p l (k+1) h2
    exact⟨fun y hy=>by rcases List.mem_cons.1 hy with rfl|q;exact hx;exact h3 y q,h4⟩
theorem l05_ok {p:PolicyR} (h:Kb_ p=true):PoOk p:=by
  simp only[Kb_,Bool.and_eq_true,decide_eq_true_eq,to_eq] at h
  have h1:=h.2
  unfold Je_ at h1
  cases e0:(decide (p.work<1) || decide (16<p.work) || decide (p.give<1) || decide (16<p.give)) with
  |true=>rw[e0] at h1;cases h1
  |false=>
    rw[e0] at h1
    cases e1:decide ((p.places.length:Int)=0) with
    |true=>rw[e1] at h1;cases h1
    |false=>
      rw[e1] at h1
      cases e2:decide (16<(p.places.length:Int)) with
      |true=>rw[e2] at h1;cases h1
      |false=>
        rw[e2] at h1
        simp only[decide_eq_false_iff_not] at e1 e2
        obtain⟨a1,a2,a3,a4⟩:=chk0 p p.places 0 h1
        obtain⟨b1,b2⟩:=chk2 p p.slots a4
        exact⟨by omega,by omega,a2,a3,b1,chk3 p p.grants 0 b2,a1⟩
theorem Yp_ {p:PolicyR} (h:Kb_ p=true):PoOk p/\0<p.places.length/\p.places.length<=16/\0<p.slots.length/\p.slots.length<=32/\p.grants.length<=8:=by
  have q:=l05_ok h
  obtain⟨h1,h2,h3,h4,h5,_⟩:=id q
  exact⟨q,h1,h2,h3,h4,h5⟩
theorem Y1_ {l:List DeedR} (h:He_ l=true):DdA l/\l.length<=40:=⟨l23_dd h,(l23_dd h).2⟩
theorem Uc_:∀ i,i<16->0<=A16.get (⟨0,0,0,0,0,0,0,0,0,0,0,0,0,0,0,0⟩:A16_i64) i/\A16.get (⟨0,0,0,0,0,0,0,0,0,0,0,0,0,0,0,0⟩:A16_i64) i<=1000:=by
  intro i hi
  have :A16.get (⟨0,0,0,0,0,0,0,0,0,0,0,0,0,0,0,0⟩:A16_i64) i=0:=by
    unfold A16.get
    repeat' split
    all_goals rfl
  rw[this];decide
theorem sp_set {a:A16_i64} {v:Int} {k:Nat} (h:∀ i,i<16->0<=A16.get a i/\A16.get a i<=1000) (hk:k<16) (h1:0<=v) (h2:v<=1000):∀ i,i<16->0<=A16.get (A16.set a v k) i/\A16.get (A16.set a v k) i<=1000:=fun i hi=>by
  rw[A16.get_set _ _ _ _ hk hi]
  split
  · exact⟨h1,h2⟩
  · exact h i hi
variable {P:Program} {n:Nat} {N:Rest} {H0:Env} {all rest:List Oper} {Q:Qs} {ks:List Kt} {fF:Nat->PV} {fL:Nat->Blk} {T ty d:Nat} {pos:String} {af:Array Edge} {x y z:Operand} {K:St->Prop}
noncomputable def allH (H:Hp) (L:Ls):Hp:=fun b=>open Classical in if h:∃ o i,L i=some (b,o) then some h.choose else H b
theorem Uk_ {N:Rest} {H:Hp} {L:Ls} {w:World} (hm:Mem N H L w) {i b:Nat} {o:Obj} (h:L i=some (b,o)):allH H L b=some o:=by
  have he:∃ o i,L i=some (b,o):=⟨o,i,h⟩
  unfold allH
  rw[dif_pos he]
  obtain⟨j,hj⟩:=he.choose_spec
  have :=hm.ll i j b o _ h hj
  subst this
  rw[h] at hj
  cases hj
  simp
theorem W8_ {N:Rest} {H:Hp} {L:Ls} {w:World} (hm:Mem N H L w):HLe H (allH H L):=fun b o h=>by
  unfold allH
  split
  · rename_i he
    obtain⟨o',i,hi⟩:=he
    have :=(hm.nl i b o' hi).2
    rw[h] at this;cases this
  · exact h
theorem mem_lend {N:Rest} {H:Hp} {L:Ls} {w:World} (hm:Mem N H L w):Mem N (allH H L) (fun _=>none) w:=by
  refine⟨hm.os,hm.tape,hm.output,hm.n,fun b o h=>?_,(fun _ _ _ h=>by cases h),fun b o h=>?_,(fun _ _ _ h=>by cases h),(fun _ _ _ _ _ h=>by cases h)⟩
  · unfold allH at h
    split at h
    · rename_i he
      cases h
      obtain⟨j,hj⟩:=he.choose_spec
      exact hm.l _ _ _ hj
    · exact hm.h b o h
  · unfold allH
    split
    · rename_i he
      obtain⟨o',i,hi⟩:=he
      have :=(hm.nl i b o' hi).1
      rw[h] at this;cases this
    · exact hm.nh b o h
theorem mem_lent {N:Rest} {H H':Hp} {L:Ls} {w w':World} (hm:Mem N H L w) (hl:HLe (allH H L) H') (hm':Mem N H' (fun _=>none) w'):Mem N H L w':=
  ⟨hm'.os,hm'.tape,hm'.output,hm'.n,fun b o h=>hm'.h b o (hl b o (W8_ hm b o h)),fun i b o h=>hm'.h b o (hl b o (Uk_ hm h)),hm.nh,hm.nl,hm.ll⟩
inductive LentL (sL:Nat->Blk):List PV->List PV->Prop
  |nil:LentL sL [] []
  |same (p:PV) {ps qs:List PV} (h:LentL sL ps qs):LentL sL (p::ps) (p::qs)
  |lend (j:Nat) {α:Type} {u:Value} {k e:Nat} {enc:α->List PV} {xs:List α} {ps qs:List PV} (hj:sL j = .arr u k e enc xs) (h:LentL sL ps qs):LentL sL (.usl u::ps) (.sl enc xs::qs)
  |agg {ps qs rs ss:List PV} (h1:LentL sL ps qs) (h:LentL sL rs ss):LentL sL (.agg ps::rs) (.agg qs::ss)
theorem LentL.sims {sL:Nat->Blk} {H H':Hp} {L:Ls} (hl:HLe H H') (ho:∀ i b o,L i=some (b,o)->H' b=some o) (hb:∀ i,SimB sL H (sL i) (L i)) {ps qs:List PV} (h:LentL sL ps qs):∀ {vs:List Value},Sims H ps vs->Sims H' qs vs:=by
  induction h with
  |nil=>intro vs hs;cases hs.inv_nil;exact Sims.nil
  |same p _ ih=>
    intro vs hs
    obtain⟨v,us,rfl,h1,h2⟩:=hs.inv_cons
    exact (ih h2).cons (h1.mono hl)
  |lend j hj _ ih=>
    intro vs hs
    obtain⟨v,us,rfl,h1,h2⟩:=hs.inv_cons
    have e:=h1.inv_usl.1
    subst e
    have hi:=hb j
    rw[hj] at hi
    obtain⟨cs,h3,h4,h5⟩:=hi
    exact (ih h2).cons (Sim.of_slh (Vz_ Gp_ h3 (h4.mono Jh_ hl) fun b o q=>ho j b o q) h5)
  |agg _ _ ih1 ih=>
    intro vs hs
    obtain⟨v,us,rfl,h1,h2⟩:=hs.inv_cons
    obtain⟨zs,rfl,h3⟩:=h1.inv_agg
    exact (ih h2).cons (Sim.toAgg (ih1 h3))
theorem Q6_ {f:FuncId} {args args':List PV} {res:PV} {as0:Array Operand} {ats:Array TypeId} (h:Fn P H0.g f args' res) (hf:res.flat=true) (ha:argsP fF x as0.toList=some (f,args)) (hl:LentL fL args args') (hd:Nat.blt d n=true)
    (k:res.wf->K ⟨updp fF d res,fL⟩):E1 P n N H0 all ⟨some d, .call ⟨.value x,as0,ats⟩,ty,pos,af,none⟩ none ⟨fF,fL⟩ K:=by
  intro F H L hab a w hA hm
  obtain⟨vs,h1,h2⟩:=F6_ (ats:=ats) hab.f ha h.cb
  have hle:=W8_ hm
  have hs:=hl.sims hle (fun i b o q=>Uk_ hm q) hab.l h1
  rw[if_pos (by simp[Region.wanted])]
  unfold Oper.wp
  rw[hA.eval,h2]
  refine (h.run N (allH H L) _ w vs (H0.g.mono _ _ hle hab.g) hs (mem_lend hm)).mono fun e' w' ⟨v,H',he,hv,hl',hm'⟩=>?_
  subst he
  exact⟨_,H,L,hA.put (by simpa using hd) v,mem_lent hm hl' hm', .refl H,fun _ _=>rfl,_,hab.put d (Sim.simT (Sim.flat_any hf hv) h.no),k hv.wf⟩
end Go.SW.V
namespace Go.SW.V
open Go.SW
variable {P:Program} {N:Rest} {H0:Env} {s:St} {T T' ty:TypeId} {x:Operand}
theorem qnilN {q:Array (String×TypeId)} (hx:evP s.F x = .val .nilIface) (hT:P.underlying T=some (.interface q)):Qy P N H0 s (.binOp .neq T x (.const .nilIface) T') ty (.bool false):=fun F H L ha=>by
  have h1:=Bq_ ha.f x
  unfold Ok1 at h1
  rw[hx] at h1
  have h2:=h1.sim.inv_val
  have h:∀ d w,(Op.equalIn (d+1) T .nilIface .nilIface).run P w = .ok true w:=fun d w=>by simp[Op.equalIn,run_underlying hT]
  exact⟨_,Sim.bool,fun _ _ _=>Dv_ (b:= .nilIface) h2 rfl (fun w=>by simp[eqGuard]) fun w=>by simp[binOp,Ij_ (h · w)]⟩
theorem qfA {cs ps:List PV} {fs:Array Field} {f:Field} {i k:Nat} (hx:evP s.F x = .agg cs) (hT:P.underlying T=some (.struct fs)) (hf:fs[i]? = some f) (ha:Ag P f.type true) (hz:Sz P f.type k) (hc:(cs.drop f.offset).take k=ps):Qy P N H0 s (.field T x i) ty (.agg ps):=fun F H L hab=>by
  have h1:=Bq_ hab.f x
  unfold Ok1 at h1
  rw[hx] at h1
  obtain⟨vs,hv,hs⟩:=h1.sim.inv_agg
  refine⟨.agg ((vs.drop f.offset).take k).toArray,hc ▸ Sim.toAgg ((hs.drop f.offset).take k),fun H' L' _ d pos af g w _=>?_⟩
  have :=ha w
  have :=hz w
  simp[execOp,hv,Instr.field,run_underlying hT,hf,part,asAgg, *]
theorem qbz {tb:Tb} {ti:TI} {zs:List PV} {m e k:Nat} (ht:tbB P tb=true) (hti:lkT tb T=some ti) (hT:P.underlying T=some (.array m e)) (hk:Sz P e k) (hz:ti.zero=zs):Qy P N H0 s (.build T #[]) ty (.agg zs):=fun F H L hab=>by
  obtain⟨zv,h1,h2⟩:=(Co_ ht hti).zero
  subst hz
  refine⟨.agg zv.cells,Sim.toAgg (vs:=zv.cells.toList) (h2 H),fun H' L' _=>?_⟩
  have :=U5_ (P:=P) (N:=N) (F:=F) (H:=H') (L:=L') (ty:=ty) (T:=T) (ps:=[]) (v:= .agg zv.cells) rfl fun w=>by
    simp[Instr.build,h1 w,run_underlying hT,hk w,Instr.fill,evp]
  simpa using this
theorem inv_fn0 {H:Hp} {f:FuncId} {v:Value} (h:Sim H (.fn f [] []) v):v = .func (.func f) #[] #[]:=by
  obtain⟨vs,us,rfl,h1,h2⟩:=h.inv_fn
  cases h1.inv_nil;cases h2.inv_nil
  rfl
end Go.SW.V
namespace Go.SW.V
open Go.SW
def Go_ (s:Bs):(List Bs):=
 (flds s)
def Fq_ (n:Int) (least:Int) (most:Int):Int:=
 (bif decide (n<least) then
 15
 else (bif decide (most<n) then
 6
 else 0))
def G4_ (y:PlaceR) (x1:PlaceR):Bool:=
 ((decide (y.name=x1.name))||(decide (y.label=x1.label)))
def G3_ (y:GrantR) (x1:GrantR):Bool:=
 ((decide (y.frm=x1.frm))&&(decide (y.to'=x1.to')))
def I2_ (s:List Int) (v:Int):Bool:=
 lt (idxP (fun y=>decide (v=y)) s) fun r=>
 (decide (0<=r))
def Hc_:List Int->Int
  |[]=>0
  | x::t=>(bif !decide (x=0) then
 x
 else Hc_ t)
def Q1_ (vals:List Int):Int:=
 Hc_ vals
def Fs_ (a:LabelR):Bool:=
 (decide (a.level<=15))
def B0_ (s:Bs) (most:Int):Nat->Nat->Int->Int×Int
  |0,_,_=>default
  | f2+1,k1,n1=>(bif decide ((k1:Int)<(s.length:Int)) then
 (bif ((decide (((s.getD k1 0).toNat:Int)<48))||(decide (57<((s.getD k1 0).toNat:Int)))) then
 ((k1:Int),n1)
 else (bif decide (n1<=most) then
 B0_ s most f2 (k1+1) ((10*n1)+(IntKind.wrap .u8 (((s.getD k1 0).toNat:Int)-48)))
 else B0_ s most f2 (k1+1) n1))
 else ((k1:Int),n1))
def B4_ (s:Bs) (most:Int):Int×Bs×Int:=
 (lt2 (B0_ s most (s.length-0+1) 0 0) (fun k n=>
 (bif ((decide (k=0))&&(decide ((s.length:Int)=0))) then
 (0,[],3)
 else (lt1 ((bif decide (k=0) then
 (decide (k=0))
 else ((decide (1<k))&&(decide (((s.getD 0 0).toNat:Int)=48))))) (fun v=>
 (bif v then
 (0,[],4)
 else (bif decide (most<n) then
 (0,[],7)
 else (n,(s.drop (k).toNat),0))))))))
theorem plen_w {s l:Bs} {r:List Bs} (h:plen s=true) (hr:Go_ l=r) (hz:l.length<=65536/\(flds l).length<=65536/\∀ w∈flds l,0<w.length/\w.length<=19):∀ w∈r,0<w.length/\w.length<=19:=by
  subst hr;exact hz.2.2
theorem V1_ {p:PolicyR} {i:Int} (h:Ab_ p i=true):0<=i/\i<p.places.length:=by
  simp only[Ab_,Be_,Bool.and_eq_true,decide_eq_true_eq] at h
  omega
theorem wrap8_r (z:Int):0<=IntKind.wrap .u8 z/\IntKind.wrap .u8 z<=255:=Gz_ .u8 z
theorem Y5_ (s:Bs) (most:Int):∀ (f k:Nat) (n:Int),0<=n->0<=(B0_ s most f k n).2
  |0,_,_,_=>by simp[B0_,default]
  |f+1,k,n,hn=>by
    unfold B0_
    let Q:Int×Int->Prop:=fun r=>0<=r.2
    refine bt (P:=Q) (fun _=>?_) fun _=>hn
    refine bt (P:=Q) (fun _=>hn) fun _=>?_
    refine bt (P:=Q) (fun _=>Y5_ s most f _ _ ?_) fun _=>Y5_ s most f _ _ hn
    have :=(wrap8_r (((s.getD k 0).toNat:Int)-48)).1
    omega
theorem lnum_r (s:Bs) (most:Int) (hm:0<=most/\most<=1000):0<=(B4_ s most).1/\(B4_ s most).1<=1000/\(B4_ s most).2.1.length<=s.length:=by
  unfold B4_
  have h:=Y5_ s most (s.length-0+1) 0 0 (Int.le_refl _)
  generalize B0_ s most (s.length-0+1) 0 0=q at h ⊢
  obtain⟨k,n⟩:=q
  let Q:Int×Bs×Int->Prop:=fun r=>0<=r.1/\r.1<=1000/\r.2.1.length<=s.length
  have hno:∀ e:Int,Q (0,[],e):=fun e=>⟨Int.le_refl _,by show (0:Int)<=1000;decide,Nat.zero_le _⟩
  show Q (bif _ then _ else _)
  refine bt (P:=Q) (fun _=>hno _) fun _=>?_
  refine lt1E (P:=Q) (fun _=>True) trivial fun v _=>?_
  refine bt (P:=Q) (fun _=>hno _) fun _=>?_
  refine bt (P:=Q) (fun _=>hno _) fun e=>?_
  simp only[decide_eq_false_iff_not] at e
  exact⟨h,by show n<=1000;omega,by show (s.drop _).length<=_;rw[List.length_drop];omega⟩
def Gn_ (x:PlaceR) (ahead:List PlaceR):Int:=
 (bif !decide ((Dw_ x.name)=0) then
 (Dw_ x.name)
 else (lt1 ((bif !(Fs_ x.label) then
 (!(Fs_ x.label))
 else (bif !(Be_ x.bytes 0 65536) then
 (!(Be_ x.bytes 0 65536))
 else (decide (x.base=0))))) (fun v=>
 (bif v then
 7
 else (bif decide (0<=idxP (fun z_28:PlaceR=>(G4_ z_28 x)) ahead) then
 9
 else 0)))))
def Dx_ (p:PolicyR) (x:GrantR) (ahead:List GrantR):Int:=
 (bif !(Ab_ p x.frm) then
 10
 else (bif !(Ab_ p x.to') then
 10
 else (bif (Ej_ ((gt p.places ((x.frm).toNat)).label) ((gt p.places ((x.to').toNat)).label)) then
 11
 else (bif !(Be_ x.budget 0 16) then
 7
 else (bif decide (0<=idxP (fun z_32:GrantR=>(G3_ z_32 x)) ahead) then
 9
 else 0)))))
def Dn_ (p:PolicyR):Nat->Int->Nat->Int
  |0,_,_=>default
  | f2+1,e_1,i=>(bif ((decide (e_1=0))&&(decide ((i:Int)<(p.places.length:Int)))) then
 Dn_ p f2 (Gn_ (gt p.places i) (p.places.take i)) (i+1)
 else e_1)
def Cr_ (p:PolicyR):Int:=
 lt (Fq_ (p.places.length:Int) 1 16) fun r=>
 Dn_ p (p.places.length+1-0+1) r 0
def Cx_ (p:PolicyR):Nat->Int->Nat->Int
  |0,_,_=>default
  | f2+1,e_1,i=>(bif ((decide (e_1=0))&&(decide ((i:Int)<(p.slots.length:Int)))) then
 (bif !(Ab_ p (gt p.slots i)) then
 Cx_ p f2 10 (i+1)
 else Cx_ p f2 e_1 (i+1))
 else e_1)
def C0_ (p:PolicyR):Int:=
 lt (Fq_ (p.slots.length:Int) 1 32) fun r=>
 Cx_ p (p.slots.length+1-0+1) r 0
def Dm_ (p:PolicyR):Nat->Int->Nat->Int
  |0,_,_=>default
  | f2+1,e_1,i=>(bif ((decide (e_1=0))&&(decide ((i:Int)<(p.grants.length:Int)))) then
 Dm_ p f2 (Dx_ p (gt p.grants i) (p.grants.take i)) (i+1)
 else e_1)
def Cq_ (p:PolicyR):Int:=
 lt (Fq_ (p.grants.length:Int) 0 8) fun r=>
 Dm_ p (p.grants.length+1-0+1) r 0
def Bp_ (p:PolicyR):List PlaceR->Nat->Int
  |[],k=>0
  | x::t,k=>(bif !(I2_ p.slots (k:Int)) then
 15
 else Bp_ p t (k+1))
def Ek_ (p:PolicyR):Int:=
 (bif ((!(Be_ p.work 1 16))||(!(Be_ p.give 1 16))) then
 7
 else (bif !decide ((Q1_ [(Cr_ p),(C0_ p),(Cq_ p)])=0) then
 (Q1_ [(Cr_ p),(C0_ p),(Cq_ p)])
 else Bp_ p p.places 0))
def De_ (s:Bs) (most:Int):List UInt8->Int×Int
  | []=>(bif decide (most<(dec s:Int)) then
 (0,7)
 else ((dec s:Int),0))
  | x::t=>(bif ((decide ((x.toNat:Int)<48))||(decide (57<(x.toNat:Int)))) then
 (0,4)
 else De_ s most t)
def E4_ (s:Bs) (most:Int):Int×Int:=
 (bif ((decide (s=[]))||((decide (1<(s.length:Int)))&&(decide (((s.getD 0 0).toNat:Int)=48)))) then
 (0,4)
 else De_ s most s)
def C8_ (s:Bs):Int×Int:=
 lt (E4_ s 1048576) fun r=>
 ((IntKind.wrap .i64 r.1),r.2)
def Aa_ (p:PolicyR) (s:Bs):Int×Int:=
 lt (J_ p s) fun r=>
 (bif decide (0<=r) then
 (r,0)
 else (0,10))
def Fg_:Nat->Bs->Int->LabelR->LabelR×Int
  |0,_,_,_=>default
  | f2+1,s1,last,x=>(bif decide (0<(s1.length:Int)) then
 (bif !decide (((s1.getD 0 0).toNat:Int)=58) then
 ((⟨0,0⟩:LabelR),4)
 else lt (B4_ (s1.drop 1) 31) fun r1=>
 (bif !decide (r1.2.2=0) then
 ((⟨0,0⟩:LabelR),r1.2.2)
 else (bif decide (r1.1<=last) then
 ((⟨0,0⟩:LabelR),4)
 else Fg_ f2 r1.2.1 r1.1 (⟨x.level,(IntKind.wrap .u32 ((BitVec.ofInt (IntKind.bits .u32) x.set_ |||BitVec.ofInt (IntKind.bits .u32) (IntKind.wrap .u32 (1*2 ^ (min (r1.1:Int).toNat (IntKind.bits .u32))))).toNat))⟩:LabelR))))
 else (x,0))
def D7_ (s:Bs):LabelR×Int:=
 lt (B4_ s 15) fun r=>
 (bif !decide (r.2.2=0) then
 ((⟨0,0⟩:LabelR),r.2.2)
 else Fg_ (r.2.1.length+1) r.2.1 (-1) (⟨(IntKind.wrap .u8 r.1),0⟩:LabelR))
def Af_:List Bs->Nat->Int->Int->List PlaceR->List Int->List GrantR->PolicyR×Int×Int
  |[],k,work,give_,places,slots,grants=>lt (Ek_ (⟨work,give_,places,slots,grants⟩:PolicyR)) fun r16=>
 (bif !decide (r16=0) then
 ((⟨0,0,[],[],[]⟩:PolicyR),0,r16)
 else ((⟨work,give_,places,slots,grants⟩:PolicyR),0,0))
  |x::t,k,work,give_,places,slots,grants=>lt (Go_ x) fun r=>
 (bif ((decide ((r.length:Int)=0))||(decide ((((gt r 0).getD 0 0).toNat:Int)=35))) then
 Af_ t (k+1) work give_ places slots grants
 else (bif decide ((gt r 0)=[108,97,98,101,108]) then
 (bif !decide ((r.length:Int)=5) then
 ((⟨0,0,[],[],[]⟩:PolicyR),((k:Int)+1),4)
 else (bif decide ((gt r 0)=[119,111,114,107]) then
 lt (C8_ (gt r 1)) fun r1=>
 (bif !decide (r1.2=0) then
 ((⟨0,0,[],[],[]⟩:PolicyR),((k:Int)+1),r1.2)
 else Af_ t (k+1) r1.1 give_ places slots grants)
 else (bif decide ((gt r 0)=[103,105,118,101]) then
 lt (C8_ (gt r 1)) fun r2=>
 (bif !decide (r2.2=0) then
 ((⟨0,0,[],[],[]⟩:PolicyR),((k:Int)+1),r2.2)
 else Af_ t (k+1) work r2.1 places slots grants)
 else (bif decide ((gt r 0)=[115,108,111,116]) then
 lt (Aa_ (⟨work,give_,places,slots,grants⟩:PolicyR) (gt r 1)) fun r3=>
 (bif !decide (r3.2=0) then
 ((⟨0,0,[],[],[]⟩:PolicyR),((k:Int)+1),r3.2)
 else Af_ t (k+1) work give_ places (slots++[r3.1]) grants)
 else lt (D7_ (gt r 2)) fun r4=>
 (bif !decide (r4.2=0) then
 ((⟨0,0,[],[],[]⟩:PolicyR),((k:Int)+1),r4.2)
 else lt (C8_ (gt r 3)) fun r5=>
 (bif !decide (r5.2=0) then
 ((⟨0,0,[],[],[]⟩:PolicyR),((k:Int)+1),r5.2)
 else lt (E4_ (gt r 4) 18446744073709551615) fun r6=>
 (bif !decide (r6.2=0) then
 ((⟨0,0,[],[],[]⟩:PolicyR),((k:Int)+1),r6.2)
 else Af_ t (k+1) work give_ (places++[(⟨(gt r 1),r4.1,r5.1,r6.1⟩:PlaceR)]) slots grants)))))))
 else (bif decide ((gt r 0)=[103,114,97,110,116]) then
 (bif !decide ((r.length:Int)=4) then
 ((⟨0,0,[],[],[]⟩:PolicyR),((k:Int)+1),4)
 else (bif decide ((gt r 0)=[119,111,114,107]) then
 lt (C8_ (gt r 1)) fun r7=>
 (bif !decide (r7.2=0) then
 ((⟨0,0,[],[],[]⟩:PolicyR),((k:Int)+1),r7.2)
 else Af_ t (k+1) r7.1 give_ places slots grants)
 else (bif decide ((gt r 0)=[103,105,118,101]) then
 lt (C8_ (gt r 1)) fun r8=>
 (bif !decide (r8.2=0) then
 ((⟨0,0,[],[],[]⟩:PolicyR),((k:Int)+1),r8.2)
 else Af_ t (k+1) work r8.1 places slots grants)
 else (bif decide ((gt r 0)=[115,108,111,116]) then
 lt (Aa_ (⟨work,give_,places,slots,grants⟩:PolicyR) (gt r 1)) fun r9=>
 (bif !decide (r9.2=0) then
 ((⟨0,0,[],[],[]⟩:PolicyR),((k:Int)+1),r9.2)
 else Af_ t (k+1) work give_ places (slots++[r9.1]) grants)
 else lt (Aa_ (⟨work,give_,places,slots,grants⟩:PolicyR) (gt r 1)) fun r10=>
 (bif !decide (r10.2=0) then
 ((⟨0,0,[],[],[]⟩:PolicyR),((k:Int)+1),r10.2)
 else lt (Aa_ (⟨work,give_,places,slots,grants⟩:PolicyR) (gt r 2)) fun r11=>
 (bif !decide (r11.2=0) then
 ((⟨0,0,[],[],[]⟩:PolicyR),((k:Int)+1),r11.2)
 else lt (C8_ (gt r 3)) fun r12=>
 (bif !decide (r12.2=0) then
 ((⟨0,0,[],[],[]⟩:PolicyR),((k:Int)+1),r12.2)
 else Af_ t (k+1) work give_ places slots (grants++[(⟨r10.1,r11.1,r12.1⟩:GrantR)]))))))))
 else (bif decide ((gt r 0)=[119,111,114,107]) then
 (bif !decide ((r.length:Int)=2) then
 ((⟨0,0,[],[],[]⟩:PolicyR),((k:Int)+1),4)
 else lt (C8_ (gt r 1)) fun r13=>
 (bif !decide (r13.2=0) then
 ((⟨0,0,[],[],[]⟩:PolicyR),((k:Int)+1),r13.2)
 else Af_ t (k+1) r13.1 give_ places slots grants))
 else (bif decide ((gt r 0)=[103,105,118,101]) then
 (bif !decide ((r.length:Int)=2) then
 ((⟨0,0,[],[],[]⟩:PolicyR),((k:Int)+1),4)
 else lt (C8_ (gt r 1)) fun r14=>
 (bif !decide (r14.2=0) then
 ((⟨0,0,[],[],[]⟩:PolicyR),((k:Int)+1),r14.2)
 else Af_ t (k+1) work r14.1 places slots grants))
 else (bif decide ((gt r 0)=[115,108,111,116]) then
 (bif !decide ((r.length:Int)=2) then
 ((⟨0,0,[],[],[]⟩:PolicyR),((k:Int)+1),4)
 else lt (Aa_ (⟨work,give_,places,slots,grants⟩:PolicyR) (gt r 1)) fun r15=>
 (bif !decide (r15.2=0) then
 ((⟨0,0,[],[],[]⟩:PolicyR),((k:Int)+1),r15.2)
 else Af_ t (k+1) work give_ places (slots++[r15.1]) grants))
 else ((⟨0,0,[],[],[]⟩:PolicyR),((k:Int)+1),4)))))))
def Fp_ (s:Bs):PolicyR×Int×Int:=
 Af_ (cuts 10 s) 0 0 0 [] [] []
def Ne_:Bool:=
 lt (D7_ [50,58,48,58,53]) fun r=>
 lt (D7_ [51,58,48,58,53,58,55]) fun r1=>
 lt (D7_ [51,58,53]) fun r2=>
 ((((((decide (r.2=0))&&(decide (r1.2=0)))&&(decide (r2.2=0)))&&(Ej_ r.1 r1.1))&&(!(Ej_ r.1 r2.1)))&&(!(Ej_ r1.1 r.1)))
def Nd_:Bool:=
 (Ne_)
def Ng_:Bool:=
 lt (Fp_ [119,111,114,107,32,52,10,103,105,118,101,32,49,10,108,97,98,101,108,32,108,111,119,32,48,32,53,49,50,32,49,10,115,108,111,116,32,108,111,119]) fun r=>
 (((((((Nd_)&&true)&&(decide (r.2.1=0)))&&(decide (r.2.2=0)))&&(decide ((r.1.places.length:Int)=1)))&&(decide (r.1.work=4)))&&(decide (((gt r.1.places 0).bytes)=512)))
def Nf_:Bool:=
 (Ng_)
def Nj_:Bool:=
 lt (Ca_ (⟨[]⟩:LineR) (⟨3,[97],[],[],[],0,0⟩:Mail)) fun r=>
 lt (Ca_ r.1 (⟨5,[97],[],[],[],0,0⟩:Mail)) fun r1=>
 lt (B5_ r1.1) fun r2=>
 lt (B5_ r2.1) fun r3=>
 lt (Do_ r3.1 3) fun r4=>
 lt (C5_ r4.1) fun r5=>
 (((((((((decide (r.2=0))&&(decide (r1.2=0)))&&r2.2.2)&&(decide (r2.2.1.mail.id=3)))&&r3.2.2)&&(decide (r3.2.1.mail.id=5)))&&(decide (r4.2=0)))&&r5.2)&&(decide (r5.1.id=3)))
def Ni_:Bool:=
 (Nj_)
def Hr_:Nat->Nat->Ef_->Bool
  |0,_,_=>default
  | f2+1,v,x=>(bif decide ((v:Int)<40) then
 lt (B6_ x (⟨0,(IntKind.wrap .u8 (v:Int)),[]⟩:NoteR)) fun r=>
 Hr_ f2 (v+1) r.1
 else lt (Eg_ x 9) fun r1=>
 lt (Eg_ x 8) fun r2=>
 (((r1.2&&(decide (r1.1.kind=8)))&&(!r2.2))&&(decide ((F9_ x)=40))))
def K1_:Bool:=
 Hr_ (40-0+1) 0 (⟨0,[]⟩:Ef_)
def Nk_:Bool:=
 (K1_)
def Hs_:Nat->Nat->RiseR->Bool
  |0,_,_=>default
  | f2+1,v,x=>(bif decide ((v:Int)<20) then
 lt (Ae_ x (⟨0,[97],[],[],[],0,0⟩:Mail)) fun r=>
 Hs_ f2 (v+1) r.1
 else lt (Dy_ x 0) fun r1=>
 lt (Dy_ x 20) fun r2=>
 (((decide (r1.1=5))&&r1.2.2)&&(!r2.2.2)))
def K2_:Bool:=
 Hs_ (20-0+1) 0 (⟨0,[]⟩:RiseR)
def Nl_:Bool:=
 (K2_)
def Nn_:Bool:=
 lt (Db_ 7 100) fun r=>
 lt (By_ r (⟨[113],3,0,[]⟩:QueueR)) fun r1=>
 lt (Ao_ r1.1 [113] (⟨0,[97],[],[],[],0,0⟩:Mail)) fun r2=>
 (((((Ni_)&&(Nl_))&&(decide (r1.2=0)))&&(decide (r2.2.2.2=0)))&&(decide (r2.2.1=7)))
def Nm_:Bool:=
 (Nn_)
def Ht_:Nat->Nat->C_->Bool
  |0,_,_=>default
  | f2+1,v,x=>(bif decide ((v:Int)<([(⟨0,0,(⟨[97],1,[]⟩:ShopR),(⟨[],0,0,[]⟩:QueueR),(⟨[],[],false,[],[],false⟩:BindR),[],0,0,0,0,0,(⟨0,[],[],[],[],0,0⟩:Mail),[]⟩:DeedR),(⟨2,0,(⟨[],0,[]⟩:ShopR),(⟨[113],4,0,[]⟩:QueueR),(⟨[],[],false,[],[],false⟩:BindR),[],0,0,0,0,0,(⟨0,[],[],[],[],0,0⟩:Mail),[]⟩:DeedR),(⟨4,0,(⟨[],0,[]⟩:ShopR),(⟨[],0,0,[]⟩:QueueR),(⟨[97],[113],false,[],[],false⟩:BindR),[],0,0,0,0,0,(⟨0,[],[],[],[],0,0⟩:Mail),[]⟩:DeedR)].length:Int)) then
 lt (A9_ x (gt [(⟨0,0,(⟨[97],1,[]⟩:ShopR),(⟨[],0,0,[]⟩:QueueR),(⟨[],[],false,[],[],false⟩:BindR),[],0,0,0,0,0,(⟨0,[],[],[],[],0,0⟩:Mail),[]⟩:DeedR),(⟨2,0,(⟨[],0,[]⟩:ShopR),(⟨[113],4,0,[]⟩:QueueR),(⟨[],[],false,[],[],false⟩:BindR),[],0,0,0,0,0,(⟨0,[],[],[],[],0,0⟩:Mail),[]⟩:DeedR),(⟨4,0,(⟨[],0,[]⟩:ShopR),(⟨[],0,0,[]⟩:QueueR),(⟨[97],[113],false,[],[],false⟩:BindR),[],0,0,0,0,0,(⟨0,[],[],[],[],0,0⟩:Mail),[]⟩:DeedR)] v)) fun r1=>
 (bif !decide (r1.2.2=0) then
 false
 else Ht_ f2 (v+1) r1.1)
 else lt (A9_ x (⟨6,0,(⟨[],0,[]⟩:ShopR),(⟨[],0,0,[]⟩:QueueR),(⟨[],[],false,[],[],false⟩:BindR),[],0,0,0,0,0,(⟨0,[97],[],[],[120],0,0⟩:Mail),[]⟩:DeedR)) fun r2=>
 lt (A9_ r2.1 (⟨7,0,(⟨[],0,[]⟩:ShopR),(⟨[],0,0,[]⟩:QueueR),(⟨[],[],false,[],[],false⟩:BindR),[113],0,0,0,0,0,(⟨0,[],[],[],[],0,0⟩:Mail),[]⟩:DeedR)) fun r3=>
 ((((((((Nf_)&&(Nm_))&&true)&&(Nk_))&&(decide (r2.2.2=0)))&&(decide (r2.2.1.count=1)))&&(decide (r3.2.2=0)))&&(decide (r3.2.1.item.mail.body=[120]))))
def I4_:Bool:=
 lt (B8_ (⟨4,1,[(⟨[108,111,119],(⟨0,0⟩:LabelR),500,1⟩:PlaceR)],[0],[]⟩:PolicyR) 0) fun r=>
 Ht_ (([(⟨0,0,(⟨[97],1,[]⟩:ShopR),(⟨[],0,0,[]⟩:QueueR),(⟨[],[],false,[],[],false⟩:BindR),[],0,0,0,0,0,(⟨0,[],[],[],[],0,0⟩:Mail),[]⟩:DeedR),(⟨2,0,(⟨[],0,[]⟩:ShopR),(⟨[113],4,0,[]⟩:QueueR),(⟨[],[],false,[],[],false⟩:BindR),[],0,0,0,0,0,(⟨0,[],[],[],[],0,0⟩:Mail),[]⟩:DeedR),(⟨4,0,(⟨[],0,[]⟩:ShopR),(⟨[],0,0,[]⟩:QueueR),(⟨[97],[113],false,[],[],false⟩:BindR),[],0,0,0,0,0,(⟨0,[],[],[],[],0,0⟩:Mail),[]⟩:DeedR)].length)-0+1) 0 r
theorem Xs_ {l:List DeedR} {k:Nat} {d:DeedR} (h:(PV.sl DeedR.pc l).wf) (hd:l[k]? = some d):0<=d.mail.hops:=by
  have :=(h.2 d (List.mem_of_getElem? hd)).2.2.2.2.2.2.2.2.2.2.2.2.2.2.2.2.2.2.2.2.2.2.2.2.2.2.2.1
  exact this.1
theorem w100 {z:Int} (h:decide (100<IntKind.wrap .u64 z)=false):0<=IntKind.wrap .i64 (IntKind.wrap .u64 z)/\IntKind.wrap .i64 (IntKind.wrap .u64 z)<=100:=by
  have h:=of_decide_eq_false h
  have h1:0<=IntKind.wrap .u64 z:=by rw[IntKind.wrap_u64];omega
  have :IntKind.wrap .i64 (IntKind.wrap .u64 z)=IntKind.wrap .u64 z:=by
    generalize IntKind.wrap .u64 z=y at *
    rw[IntKind.wrap_i64];omega
  omega
theorem sp_set2 {a:A16_i64} {v b:Int} {k:Nat} (h:∀ i,i<16->0<=A16.get a i/\A16.get a i<=1000) (hk:k<16) (h1:0<=v) (h2:¬b<A16.get (A16.set a v k) k) (hb:b<=1000):∀ i,i<16->0<=A16.get (A16.set a v k) i/\A16.get (A16.set a v k) i<=1000:=by
  rw[A16.get_set _ _ _ _ hk hk,if_pos rfl] at h2
  exact sp_set h hk h1 (by omega)
def Cf_ (p:PolicyR) (r:Int) (tick:Int) (round2:Int) (r4:C_×U_×Int) (y:DeedR):Nat->Nat->A16_u64->A16_i64->Lo (Int×Int×C_×A16_u64×A16_i64) Bool
  |0,_,_,_=>default
  | f2+1,v,x7,x8=>(bif decide ((v:Int)<16) then
 lt (S_ r4.1) fun r5=>
 lt (Al_ (r5.stock) (v:Int)) fun r6=>
 lt (B7_ r6) fun r7=>
 (bif ((decide ((IntKind.wrap .u64 (r7-(A16.get x7 v)))=0))||((decide ((v:Int)<(p.places.length:Int)))&&(G_ p r (v:Int)))) then
 Cf_ p r tick round2 r4 y f2 (v+1) (A16.set x7 (IntKind.wrap .u64 ((A16.get x7 v)+(IntKind.wrap .u64 (r7-(A16.get x7 v))))) v) x8
 else (bif (((decide ((p.places.length:Int)<=(v:Int)))||(decide ((B_ p r (v:Int))<0)))||(decide (100<(IntKind.wrap .u64 (r7-(A16.get x7 v)))))) then
 .ret false
 else (bif decide (((gt p.grants (((B_ p r (v:Int))).toNat)).budget)<(A16.get (A16.set x8 ((A16.get x8 v)+(IntKind.wrap .i64 (IntKind.wrap .u64 (r7-(A16.get x7 v))))) v) v)) then
 .ret false
 else Cf_ p r tick round2 r4 y f2 (v+1) (A16.set x7 (IntKind.wrap .u64 ((A16.get x7 v)+(IntKind.wrap .u64 (r7-(A16.get x7 v))))) v) (A16.set x8 ((A16.get x8 v)+(IntKind.wrap .i64 (IntKind.wrap .u64 (r7-(A16.get x7 v))))) v))))
 else .fin (round2,(max (y.tick) tick),r4.1,x7,x8))
def Ay_ (p:PolicyR) (r:Int):List DeedR->Int->Int->C_->A16_u64->A16_i64->Bool
  |[],round,tick,x,x1,x2=>true
  | x9::t,round,tick,x,x1,x2=>(lp5 ((lt2 (lt (J6_ p) fun r2=>
 lt (Jf_ r2 (max (x9.tick) tick)) fun r3=>
 (bif !decide (r3=round) then
 (r3,(⟨0,0,0,0,0,0,0,0,0,0,0,0,0,0,0,0⟩:A16_i64))
 else (round,x2))) (fun round2 x6=>
 lt (A9_ x (⟨x9.kind,(max (x9.tick) tick),x9.shop,x9.queue,x9.bind,x9.name,x9.id,x9.how,x9.frm,x9.code,x9.number,x9.mail,x9.text⟩:DeedR)) fun r4=>
 Cf_ p r tick round2 r4 x9 (16-0+1) 0 x1 x6))) (fun round1 tick1 x3 x4 x5=>
 Ay_ p r t round1 tick1 x3 x4 x5) (fun r=>r))
def Fe_ (p:PolicyR) (place:Int) (l:List DeedR):Bool:=
 (bif !(I4_) then
 false
 else (bif ((!(Kb_ p))||(!(He_ l))) then
 true
 else lt (J7_ p place) fun r=>
 lt (B8_ p r) fun r1=>
 Ay_ p r l 0 0 r1 (⟨0,0,0,0,0,0,0,0,0,0,0,0,0,0,0,0⟩:A16_u64) (⟨0,0,0,0,0,0,0,0,0,0,0,0,0,0,0,0⟩:A16_i64)))
end Go.SW.V
