/-
  A part of the proof of ImageShort: What functions answer, printed by program out of their walks: stairwellref03.Has, stairwellref03.Under, stairwellref05.Check, stairwelllaw23.At, stairwelllaw05.Light.
-/
import Derived.Test.YtdanlhjbbojfgaaGreatDoorImageShortP3
import Derived.Test.YtdanlhjbbojfgaaGreatDoorImageShortP2
import Derived.Test.YtdanlhjbbojfgaaGreatDoorImageShortP1
import Derived.Below
import Derived.Laws.AppendOwn
import Derived.Lib.FieldsP
import Derived.Lib.ParseIntB
import Derived.Lib.SmallJoins
import Derived.Lib.ItoaLen
import Derived.Lib.Join
import Derived.Lib.LaidTab
import Derived.Shelf.LaysM
import Derived.Shelf.Strings.OnBuilder
import Derived.Shelf.Strconv.Itoa3
import Derived.Lib.AppendIntMem
import Derived.Lib.Walk
import Derived.WalkKit
import Derived.BigCall
import Derived.BigGuard
import Derived.Test.YtdanlhjbbojfgaaGreatDoorProg
import Derived.Shelf.Strings.FieldsFuncAny
import Derived.Shelf.Pu.ParseUintPublic10
import Derived.Shelf.Strings.Split
import Derived.KernelRfl
set_option linter.unusedVariables false
set_option linter.unusedSimpArgs false
set_option maxRecDepth 100000
set_option maxHeartbeats 4000000
namespace Go.SW.V
open Go.SW
def U9_ (a:LabelR) (i:Int):Bool:=
 (decide (((Int.fdiv a.set_ (2 ^ (min (i:Int).toNat (IntKind.bits .u32))))%2)=1))
def Ki_ (a:LabelR) (b:LabelR):Nat->Nat->Bool
  |0,_=>default
  | f2+1,i=>(bif decide ((i:Int)<32) then
 (bif ((U9_ a (i:Int))&&(!(U9_ b (i:Int)))) then
 false
 else Ki_ a b f2 (i+1))
 else true)
def Oq_ (a:LabelR) (b:LabelR):Bool:=
 (bif decide (b.level<a.level) then
 false
 else Ki_ a b (32-0+1) 0)
def Fr_ (y:PlaceR):List PlaceR->Lo Unit Int
  |[]=> .fin ()
  | x::t=>(bif ((decide ((x.name)=(y.name)))||(decide (x.label=y.label))) then
 .ret 9
 else Fr_ y t)
def Fs_ (y1:GrantR):List GrantR->Lo Unit Int
  |[]=> .fin ()
  | x1::t1=>(bif ((decide ((x1.frm)=(y1.frm)))&&(decide ((x1.to')=(y1.to')))) then
 .ret 9
 else Fs_ y1 t1)
def G0_ (i:Nat):List Int->Bool->Lo Unit Int
  | [],has=>(bif !has then
 .ret 15
 else .fin ())
  |x2::t2,has=>G0_ i t2 (has||(decide (x2=(i:Int))))
def Kj_ (p:PolicyR):Nat->Nat->Int
  |0,_=>default
  | f2+1,i=>(bif decide ((i:Int)<(p.places.length:Int)) then
 (lp0 (G0_ i p.slots false) (
 Kj_ p f2 (i+1)) (fun r=>r))
 else 0)
def E7_ (p:PolicyR):List GrantR->Nat->Int
  |[],k3=>Kj_ p (p.places.length-0+1) 0
  | x3::t3,k3=>(lp0 ((bif ((((decide ((x3.frm)<0))||(decide ((p.places.length:Int)<=(x3.frm))))||(decide ((x3.to')<0)))||(decide ((p.places.length:Int)<=(x3.to')))) then
 .ret 10
 else (bif (Oq_ ((gt p.places ((x3.frm).toNat)).label) ((gt p.places ((x3.to').toNat)).label)) then
 .ret 11
 else (bif ((decide ((x3.budget)<0))||(decide (16<(x3.budget)))) then
 .ret 7
 else Fs_ x3 (p.grants.take k3))))) (
 E7_ p t3 (k3+1)) (fun r=>r))
def Ei_ (p:PolicyR):List Int->Int
  | []=>(bif decide (8<(p.grants.length:Int)) then
 6
 else E7_ p p.grants 0)
  | x4::t4=>(bif ((decide (x4<0))||(decide ((p.places.length:Int)<=x4))) then
 10
 else Ei_ p t4)
def E6_ (p:PolicyR):List PlaceR->Nat->Int
  | [],k=>(bif decide ((p.slots.length:Int)=0) then
 15
 else (bif decide (32<(p.slots.length:Int)) then
 6
 else Ei_ p p.slots))
  | x5::t5,k=>(lp0 ((bif !decide ((En_ (x5.name))=0) then
 .ret (En_ (x5.name))
 else (bif ((((decide (15<(x5.label.level)))||(decide ((x5.bytes)<0)))||(decide (65536<(x5.bytes))))||(decide ((x5.base)=0))) then
 .ret 7
 else Fr_ x5 (p.places.take k)))) (
 E6_ p t5 (k+1)) (fun r=>r))
def Mg_ (p:PolicyR):Int:=
 (bif ((((decide (p.work<1))||(decide (16<p.work)))||(decide (p.give<1)))||(decide (16<p.give))) then
 7
 else (bif decide ((p.places.length:Int)=0) then
 15
 else (bif decide (16<(p.places.length:Int)) then
 6
 else E6_ p p.places 0)))
def Wy_ (p:PolicyR) (n:Int):Int:=
 (n%(p.places.length:Int))
def Fn_:List PlaceR->Bool
  |[]=>true
  | x::t=>(bif decide (40<((x.name).length:Int)) then
 false
 else Fn_ t)
def Jt_ (p:PolicyR):Bool:=
 (bif (((decide (20<(p.places.length:Int)))||(decide (40<(p.slots.length:Int))))||(decide (10<(p.grants.length:Int)))) then
 false
 else Fn_ p.places)
def Hi_:List GrantR->Int->Int->List PlaceR->List Int->List GrantR->PolicyR
  |[],work1,give_1,places1,slots1,grants1=>(⟨work1,give_1,places1,slots1,grants1⟩:PolicyR)
  |x::t,work1,give_1,places1,slots1,grants1=>Hi_ t work1 give_1 places1 slots1 (grants1++[x])
def Hh_ (p:PolicyR):List PlaceR->Int->Int->List PlaceR->List Int->List GrantR->PolicyR
  |[],work,give_,places,slots,grants=>Hi_ p.grants work give_ places (slots++p.slots) grants
  |x1::t1,work,give_,places,slots,grants=>Hh_ p t1 work give_ (places++[x1]) slots grants
def Q7_ (p:PolicyR):PolicyR:=
 Hh_ p p.places p.work p.give [] [] []
theorem l05_light {p:PolicyR} (h:Jt_ p=true):p.places.length<=100000/\p.slots.length<=100000/\p.grants.length<=100000:=by
  unfold Jt_ at h
  cases e:(decide (20<(p.places.length:Int)) || decide (40<(p.slots.length:Int)) || decide (10<(p.grants.length:Int))) with
  |true=>rw[e] at h;cases h
  |false=>
    simp only[Bool.or_eq_false_iff,decide_eq_false_iff_not] at e
    omega
def Kq_ (p:PolicyR):Bool:=
 ((Jt_ p)&&(decide ((Mg_ (Q7_ p))=0)))
end Go.SW.V
namespace Go.SW
open Go.RowKit
def cuts (p:UInt8):Bs->List Bs
  |[]=>[[]]
  |c::r=>if c=p then []::cuts p r else match cuts p r with
    |[]=>[[c]]
    |w::t=>(c::w)::t
theorem Sj_ (p:UInt8):∀ s:Bs,Lib.splitK [p] 0 (Lib.count s [p]) s=cuts p s
  |[]=>by rw[Lib.count_miss (by simp[Lib.index])];rfl
  |b::l=>by
    have ih:=Sj_ p l
    by_cases hb:b=p
    · subst hb
      rw[Lib.count_cons_eq,Nat.add_comm]
      have hix:Lib.index (b::l) [b]=0:=by rw[Lib.index];simp[List.isPrefixOf]
      unfold Lib.splitK cuts
      rw[hix]
      simp[ih]
    · rw[Lib.count_cons_ne _ _ _ hb]
      have hp:([p]:List UInt8).isPrefixOf (b::l)=false:=by simp[List.isPrefixOf,Ne.symm hb]
      have hix:Lib.index (b::l) [p] = if Lib.index l [p] == -1 then -1 else Lib.index l [p]+1:=by rw[Lib.index,hp];simp
      unfold cuts
      rw[if_neg hb,<- ih]
      cases hc:Lib.count l [p] with
      |zero=>rfl
      |succ k=>
        unfold Lib.splitK
        rw[hix]
        by_cases hm:Lib.index l [p] = -1
        · rw[Lib.count_miss hm] at hc;cases hc
        · have hge:=Lib.index_ge l [p]
          obtain⟨j,hj⟩:∃ j:Nat,Lib.index l [p]=j:=⟨(Lib.index l [p]).toNat,by omega⟩
          rw[hj]
          have e1:¬(((j:Nat):Int) == -1)=true:=by simp<;>omega
          have e2:¬(((j:Nat):Int)+1 == -1)=true:=by simp<;>omega
          rw[if_neg e1,if_neg e1,if_neg e2]
          have e3:(((j:Nat):Int)+1).toNat=j+1:=by omega
          rw[e3,Int.toNat_natCast]
          simp
theorem Sh_ (p:UInt8) (s:Bs):(Lib.splitB ⟨#[p]⟩ 0 (Lib.countB ⟨s.toArray⟩ ⟨#[p]⟩) ⟨s.toArray⟩).map Value.string=(cuts p s).map str:=by
  have h:=Lib.splitB_data ⟨#[p]⟩ 0 (Lib.countB ⟨s.toArray⟩ ⟨#[p]⟩) ⟨s.toArray⟩
  have hc:Lib.countB ⟨s.toArray⟩ ⟨#[p]⟩=Lib.count s [p]:=by simp[Lib.countB]
  rw[hc] at h ⊢
  have e:=Sj_ p s
  simp only at h
  rw[e] at h
  rw[<- h,List.map_map]
  congr 1
theorem Zn_ (p:UInt8) (s:Bs):Lib.countB ⟨s.toArray⟩ ⟨#[p]⟩+1=(cuts p s).length:=by
  have h:=congrArg List.length (Sh_ p s)
  rw[List.length_map,List.length_map,Lib.splitB_all ⟨#[p]⟩ (by simp[ByteArray.size]) 0 _ _ rfl] at h
  exact h
theorem Oz_ (p:UInt8):∀ (s w:Bs),w∈cuts p s->w.length<=s.length
  |[],w,h=>by simp[cuts] at h;simp[h]
  |c::r,w,h=>by
    unfold cuts at h
    split at h
    · rcases List.mem_cons.1 h with rfl|h
      · simp
      · have :=Oz_ p r w h;simp;omega
    · split at h
      · simp at h;subst h;simp
      · rename_i x t e
        have ih:=Oz_ p r
        rw[e] at ih
        rcases List.mem_cons.1 h with rfl|h
        · have :=ih x (by simp);simp;omega
        · have :=ih w (by simp[h]);simp;omega
theorem Yg_ (p:UInt8):∀ s:Bs,(cuts p s).length<=s.length+1
  |[]=>by simp[cuts]
  |c::r=>by
    have ih:=Yg_ p r
    unfold cuts
    split
    · simp;omega
    · split
      · simp
      · rename_i e;rw[e] at ih;simp at ih ⊢;omega
theorem Mem.addH {N:Rest} {H:Hp} {L:Ls} {w w':World} (h:Mem N H L w) (hb:Below w.heap.size w w') {g:Nat} {o:Obj} (hg:w.heap.size<=g) (ho:w'.heap[g]? = some o):Mem N (hadd H g o) L w'/\HLe H (hadd H g o):=by
  have hs:∀ (b:Nat) o',w.heap[b]? = some o'->b<w.heap.size:=fun b o' x=>by
    by_cases q:b<w.heap.size
    · exact q
    · rw[Array.getElem?_eq_none (by omega)] at x;cases x
  have hk:∀ (b:Nat) o',w.heap[b]? = some o'->w'.heap[b]? = some o':=fun b o' x=>by rw[hb.block b (hs b o' x)];exact x
  have hH:H g=none:=by
    cases q:H g with
    |none=>rfl
    |some o1=>have :=hs _ _ (h.h _ _ q);omega
  refine⟨⟨hb.os.trans h.os,hb.tape.trans h.tape,hb.output.trans h.output,fun b o' x=>hk _ _ (h.n b o' x),fun b o' x=>?_,fun i b o' x=>hk _ _ (h.l i b o' x),fun b o' x=>?_,fun i b o' x=>⟨(h.nl i b o' x).1,?_⟩,h.ll⟩,Um_ hH⟩
  · by_cases e:b=g
    · subst e;simp[hadd] at x;subst x;exact ho
    · simp[hadd,e] at x;exact hk _ _ (h.h b o' x)
  · have :=hs b o' (h.n b o' x)
    have e:b≠g:=by omega
    simp[hadd,e];exact h.nh b o' x
  · have :=hs b o' (h.l i b o' x)
    have e:b≠g:=by omega
    simp[hadd,e];exact (h.nl i b o' x).2
theorem ph_rowB {P:Program} {f:FuncId} {args:Array Value} {H:Hp} {T:TypeId} {xs:List Bs} {ys:List Value} (hy:ys=xs.map str) (hx:∀ s∈xs,s.length<=9223372036854775807)
    (h:∀ N L w,Mem N H L w->Calls P f args w fun e w'=>∃ A,e = .returned (.slice (some ⟨A,0,none⟩) ys.length ys.length)/\w.heap.size<=A/\w'.ownsRow w.heap.size T 1 (.slice (some ⟨A,0,none⟩) ys.length ys.length) ys.length ys/\Below w.heap.size w w') :
    Ph P f args H (fun v H'=>∃ (a:Option Addr) (c:Nat),v = .slice a xs.length c/\SlH strE 1 H' (.slice a xs.length c) xs):=by
  subst hy
  intro N L w hm
  refine (h N L w hm).mono fun e w' ⟨A,he,hA,hr,hb⟩=>?_
  simp only[List.length_map] at he hr
  rcases hr.2 with ⟨h0,_⟩|⟨g,cap,cur,hv,hg,ho,hn,_,hc,ht⟩
  · cases h0
  · cases hv
    obtain⟨hm',hl⟩:=hm.addH hb hA ho
    have hcur:cur=(xs.map str).toArray:=by
      apply Array.ext'
      rw[<- ht]
      have :cur.toList.length=xs.length*1:=by simpa using hc
      rw[List.take_of_length_le (by omega)]
    refine⟨_,_,he,⟨_,_,rfl,⟨_,_,rfl,Nat.le_refl _⟩,fun m hmm=>⟨[str xs[m]],⟨rfl,hx _ (List.getElem_mem hmm)⟩,A,0,xs.length,xs.length,cur,T,(0,0),rfl,?_,rfl,fun j hj=>?_⟩⟩,hl,hm'⟩
    · simp[hadd]
    · obtain rfl :j=0:=by simpa using hj
      subst hcur
      simp[hmm]
def flds (s:Bs):List Bs:=(Lib.goFieldsP (fun x=>decide ((x:Int)=32)) ⟨s.toArray⟩).map fun b=>b.data.toList
theorem flds_str (s:Bs):(Lib.goFieldsP (fun x=>decide ((x:Int)=32)) ⟨s.toArray⟩).map Value.string=(flds s).map str:=by
  unfold flds
  rw[List.map_map]
  congr 1
theorem flds_piece (s w:Bs) (h:w∈flds s):w.length<=s.length:=by
  simp only[flds,Lib.goFieldsP,List.map_map,List.mem_map,Function.comp] at h
  obtain⟨x,_,rfl⟩:=h
  simp only[Array.length_toList]
  show ((⟨s.toArray⟩:ByteArray).extract x.1 x.2).size<=s.length
  rw[ByteArray.size_extract]
  have :(⟨s.toArray⟩:ByteArray).size=s.length:=by simp[ByteArray.size]
  omega
def plen (s:Bs):Bool:=decide (s.length<=65536)&&(cuts 10 s).all fun l=>decide (l.length<=65536) && decide ((flds l).length<=65536)&&(flds l).all fun w=>decide (0<w.length) && decide (w.length<=19)
theorem plen_ok {s:Bs} (h:plen s=true):s.length<=65536/\∀ l∈cuts 10 s,l.length<=65536/\(flds l).length<=65536/\∀ w∈flds l,0<w.length/\w.length<=19:=by
  simp only[plen,Bool.and_eq_true,decide_eq_true_eq,List.all_eq_true] at h
  exact⟨h.1,fun l hl=>⟨(h.2 l hl).1.1,(h.2 l hl).1.2,(h.2 l hl).2⟩⟩
def dec (s:Bs):Nat:=match Lib.parseUintB 64 s with| .ok n=>n|_=>0
def Gs_ (s:Bs):Bool:=s.all fun c=>decide (48<=c.toNat) && decide (c.toNat<=57)
theorem pu_ok:∀ (s:Bs) (a k:Nat),a<10 ^ k->k+s.length<=19->Gs_ s=true->∃ n,Lib.parseUintM 18446744073709551615 a s = .ok n/\n<10 ^ 19
  |[],a,k,ha,hk,_=>⟨a,rfl,Nat.lt_of_lt_of_le ha (Nat.pow_le_pow_right (by decide) (by simpa using hk))⟩
  |c::r,a,k,ha,hk,hd=>by
    simp only[Gs_,List.all_cons,Bool.and_eq_true,decide_eq_true_eq,List.length_cons] at hd hk
    have h18:10 ^ k<=10 ^ 18:=Nat.pow_le_pow_right (by decide) (by omega)
    have h19:a*10+(c.toNat-48)<10 ^ (k+1):=by rw[Nat.pow_succ];omega
    have e18:(10:Nat) ^ 18=1000000000000000000:=by decide
    unfold Lib.parseUintM
    rw[if_pos hd.1,if_neg (by omega),if_neg (by omega)]
    exact pu_ok r _ (k+1) h19 (by omega) hd.2
theorem dec_ok {s:Bs} (hl:s.length<=19) (h0:0<s.length) (hd:Gs_ s=true):Lib.parseUintB 64 s = .ok (dec s)/\(dec s:Int)<=18446744073709551615:=by
  obtain⟨n,h,hn⟩:=pu_ok s 0 0 (by decide) (by simpa using hl) hd
  have h:Lib.parseUintB 64 s = .ok n:=by
    unfold Lib.parseUintB
    rw[if_neg (by intro q;subst q;cases h0)]
    exact h
  have e19:(10:Nat) ^ 19=10000000000000000000:=by decide
  have e:dec s=n:=by unfold dec;rw[h]
  rw[e];exact⟨h,by omega⟩
theorem Mem.below {N:Rest} {H:Hp} {L:Ls} {w w':World} (hm:Mem N H L w) (hb:Below w.heap.size w w'):Mem N H L w':=
  hm.of_same hb.os hb.tape hb.output fun c o ho=>by
    rw[hb.block c (by by_cases q:c<w.heap.size;exact q;rw[Array.getElem?_eq_none (by omega)] at ho;cases ho)]
    exact ho
theorem dig_step {s:Bs} {k:Nat} (h:Gs_ (s.take k)=true) (hk:k<s.length) (hc:(decide (((s.getD k 0).toNat:Int)<48) || decide (57<((s.getD k 0).toNat:Int)))=false):Gs_ (s.take (k+1))=true:=by
  have e:s.take (k+1)=s.take k++[s.getD k 0]:=by
    rw[List.take_add_one,List.getElem?_eq_getElem hk,List.getD_eq_getElem?_getD,List.getElem?_eq_getElem hk];rfl
  rw[e]
  simp only[Bool.or_eq_false_iff,decide_eq_false_iff_not] at hc
  simp only[Gs_,List.all_append,Bool.and_eq_true,List.all_cons,List.all_nil,decide_eq_true_eq,Bool.and_true]
  exact⟨h,by omega,by omega⟩
theorem dig_all {s:Bs} {k:Nat} (h:Gs_ (s.take k)=true) (hk:s.length<=k):Gs_ s=true:=by
  rwa [List.take_of_length_le hk] at h
end Go.SW
namespace Go.SW.V
open Go.SW
theorem Va_:RiOk ⟨0,[]⟩:=⟨Nat.zero_le _,fun _ h=>by cases h⟩
theorem plen05:plen [119,111,114,107,32,52,10,103,105,118,101,32,49,10,108,97,98,101,108,32,108,111,119,32,48,32,53,49,50,32,49,10,115,108,111,116,32,108,111,119]=true:=by decide +kernel
theorem rput_ne {x:RiseR} {m:Mail} (h:x.total=0\/0<x.kept.length):(Bp_ x m).1.total=0\/0<(Bp_ x m).1.kept.length:=by
  unfold Bp_ lt
  let Q:RiseR×Int->Prop:=fun r=>r.1.total=0\/0<r.1.kept.length
  refine bt (P:=Q) (fun _=>h) fun _=>?_
  refine bt (P:=Q) (fun _=>h) fun _=> .inr ?_
  simp only[List.flatten_cons,List.flatten_nil,List.append_nil,List.length_drop,List.length_append,List.length_cons,List.length_nil]
  omega
theorem Yx_ (b n:Int) (h:n<=1000000):StkOk (Dx_ b n):=by
  refine⟨⟨by simp[Dx_],by simp[Dx_],by simp[Dx_]⟩,fun i hi=>?_,?_,?_⟩
  · have :(Dx_ b n).rises.get i=⟨0,[]⟩:=by
      unfold Dx_ A16.get
      repeat' split
      all_goals rfl
    rw[this];exact Va_
  · show 0<=max 0 n
    omega
  · show max 0 n<=1000000
    omega
def poB (p:PolicyR):Bool:=decide (0<p.places.length) && decide (p.places.length<=16) && decide (0<p.slots.length) && decide (p.slots.length<=32) && decide (p.grants.length<=8)&&(p.grants.all fun g=>decide (0<=g.frm) && decide (g.frm<p.places.length) && decide (0<=g.to') && decide (g.to'<p.places.length) && decide (0<=g.budget) && decide (g.budget<=16))&&p.places.all fun x=>decide (0<=x.bytes) && decide (x.bytes<=65536)
theorem Mf_ {p:PolicyR} (h:poB p=true):PoOk p:=by
  simp only[poB,List.all_eq_true,Bool.and_eq_true,decide_eq_true_eq] at h
  obtain⟨⟨⟨⟨⟨⟨h1,h2⟩,h3⟩,h4⟩,h5⟩,h6⟩,h7⟩:=h
  exact⟨h1,h2,h3,h4,h5,fun g hg=>by have :=h6 g hg;omega,h7⟩
def ddB (l:List DeedR):Bool:=l.all fun d=>decide (d.bind.key.length<=1000) && decide (d.bind.want.length<=1000) && decide (d.mail.head.length<=1000) && decide (d.mail.key.length<=1000) && decide (0<=d.mail.hops)
theorem ddB_ok {l:List DeedR} (h:ddB l=true):∀ d∈l,DdOk d/\0<=d.mail.hops:=fun d hd=>by
  simp only[ddB,List.all_eq_true,Bool.and_eq_true,decide_eq_true_eq] at h
  have :=h d hd
  exact⟨⟨this.1.1.1.1,this.1.1.1.2,this.1.1.2,this.1.2⟩,this.2⟩
theorem dd1 {d:DeedR} (h:ddB [d]=true):DdOk d:=(ddB_ok h d List.mem_cons_self).1
theorem s23_mem0 (l0:List DeedR):∀ {l:List DeedR} {d:DeedR},D1_ l0 l=true->d∈l->Oe_ d=true
  |[],d,_,hd=>by simp at hd
  |x::l,d,h,hd=>by
    simp only[D1_] at h
    cases e:Oe_ x with
    |false=>rw[e] at h;cases h
    |true=>
      rw[e] at h
      rcases List.mem_cons.1 hd with rfl|q
      · exact e
      · exact s23_mem0 l0 h q
theorem s23_len0 (l0:List DeedR):∀ {l:List DeedR},D1_ l0 l=true->l0.length<=40
  |[],h=>by simp[D1_] at h;omega
  |x::l,h=>by
    simp only[D1_] at h
    cases e:Oe_ x with
    |false=>rw[e] at h;cases h
    |true=>rw[e] at h;exact s23_len0 l0 h
def DdA (l:List DeedR):Prop:=(∀ d∈l,DdOk d)/\l.length<=40
theorem l23_dd {l:List DeedR} (h:Ju_ l=true):DdA l:=⟨fun d hd=>by
  have e:=s23_mem0 _ h hd
  have h1:=S9_ d e
  simp only[Oe_,Bool.and_eq_true,decide_eq_true_eq] at e
  have h2:=Ri_ _ h1.2.2.2
  refine⟨by omega,by omega,by omega,by omega⟩,s23_len0 _ h⟩
theorem dd_mem {l:List DeedR} {k:Nat} {d:DeedR} (h:DdA l) (hd:l[k]? = some d):DdOk d:=h.1 d (List.mem_of_getElem? hd)
theorem at_r (p:PolicyR) (n:Int) (h:0<p.places.length):0<=Wy_ p n/\Wy_ p n<p.places.length:=
  ⟨Int.emod_nonneg _ (by omega),Int.emod_lt_of_pos _ (by omega)⟩
theorem to_eq1:∀ (l:List GrantR) (w g:Int) (p:List PlaceR) (s:List Int) (o:List GrantR),Hi_ l w g p s o=⟨w,g,p,s,o++l⟩
  |[],w,g,p,s,o=>by simp[Hi_]
  |x::l,w,g,p,s,o=>by simp[Hi_,to_eq1 l]
theorem to_eq0 (q:PolicyR):∀ (l:List PlaceR) (w g:Int) (p:List PlaceR) (s:List Int) (o:List GrantR),Hh_ q l w g p s o=⟨w,g,p++l,s++q.slots,o++q.grants⟩
  |[],w,g,p,s,o=>by simp[Hh_,to_eq1]
  |x::l,w,g,p,s,o=>by simp[Hh_,to_eq0 q l]
theorem to_eq (p:PolicyR):Q7_ p=p:=by simp[Q7_,to_eq0]
theorem chk1 (y:PlaceR):∀ l:List PlaceR,LoP (fun _=>True) (fun r:Int=>r≠0) (Fr_ y l)
  |[]=>trivial
  |x::l=>by
    unfold Fr_
    exact bt (P:=LoP _ _) (fun _=>by show (9:Int)≠0;decide) fun _=>chk1 y l
theorem chk4 (y:GrantR):∀ l:List GrantR,LoP (fun _=>True) (fun r:Int=>r≠0) (Fs_ y l)
  |[]=>trivial
  |x::l=>by
    unfold Fs_
    exact bt (P:=LoP _ _) (fun _=>by show (9:Int)≠0;decide) fun _=>chk4 y l
theorem lp0Z {σ:Type} {I:Prop} {o:Lo Unit Int} {f:Int} (h:lp0 o f (fun r=>r)=0) (ho:LoP (fun _=>I) (fun r:Int=>r≠0) o):I/\f=0:=by
  cases o with
  |fin u=>exact⟨ho,h⟩
  |ret r=>exact absurd h ho
theorem LoP.imp {σ ρ:Type} {I J:σ->Prop} {R:ρ->Prop} {o:Lo σ ρ} (h:LoP I R o) (k:∀ s,I s->J s):LoP J R o:=by
  cases o with
  |fin s=>exact k s h
  |ret r=>exact h
theorem chk3 (p:PolicyR):∀ (l:List GrantR) (k:Nat),E7_ p l k=0->∀ g∈l,0<=g.frm/\g.frm<p.places.length/\0<=g.to'/\g.to'<p.places.length/\0<=g.budget/\g.budget<=16
  |[],_,_,_,h=>by cases h
  |x::l,k,h,g,hg=>by
    unfold E7_ at h
    obtain ⟨hx,h2⟩:=lp0Z (σ:=Unit) (I:=0<=x.frm/\x.frm<p.places.length/\0<=x.to'/\x.to'<p.places.length/\0<=x.budget/\x.budget<=16) h (by
      refine bt (P:=LoP _ _) (fun _=>by show (10:Int)≠0;decide) fun e=>?_
      refine bt (P:=LoP _ _) (fun _=>by show (11:Int)≠0;decide) fun _=>?_
      refine bt (P:=LoP _ _) (fun _=>by show (7:Int)≠0;decide) fun e2=>?_
      simp only[Bool.or_eq_false_iff,decide_eq_false_iff_not] at e e2
      exact (chk4 x _).imp fun _ _=>⟨by omega,by omega,by omega,by omega,by omega,by omega⟩)
    rcases List.mem_cons.1 hg with rfl|q
    · exact hx
    · exact chk3 p l (k+1) h2 g q
theorem chk2 (p:PolicyR):∀ l:List Int,Ei_ p l=0->p.grants.length<=8/\E7_ p p.grants 0=0
  |[],h=>by
    unfold Ei_ at h
    cases e:decide (8<(p.grants.length:Int)) with
    |true=>rw[e] at h;cases h
    |false=>rw[e] at h;simp only[decide_eq_false_iff_not] at e;exact⟨by omega,h⟩
  |x::l,h=>by
    unfold Ei_ at h
    cases e:(decide (x<0) || decide ((p.places.length:Int)<=x)) with
    |true=>rw[e] at h;cases h
    |false=>rw[e] at h;exact chk2 p l h
theorem chk0 (p:PolicyR):∀ (l:List PlaceR) (k:Nat),E6_ p l k=0->(∀ x∈l,0<=x.bytes/\x.bytes<=65536)/\0<p.slots.length/\p.slots.length<=32/\Ei_ p p.slots=0
  |[],k,h=>by
    unfold E6_ at h
    cases e:decide ((p.slots.length:Int)=0) with
    |true=>rw[e] at h;cases h
    |false=>
      rw[e] at h
      cases e2:decide (32<(p.slots.length:Int)) with
      |true=>rw[e2] at h;cases h
      |false=>
        rw[e2] at h
        simp only[decide_eq_false_iff_not] at e e2
        exact⟨fun _ hx=>by (cases hx),by omega,by omega,h⟩
  |x::l,k,h=>by
    unfold E6_ at h
    obtain ⟨hx,h2⟩:=lp0Z (σ:=Unit) (I:=0<=x.bytes/\x.bytes<=65536) h (by
      refine bt (P:=LoP _ _) (fun e=>?_) fun _=>?_
      · show En_ x.name≠0
        simpa using e
      refine bt (P:=LoP _ _) (fun _=>by show (7:Int)≠0;decide) fun e=>?_
      simp only[Bool.or_eq_false_iff,decide_eq_false_iff_not] at e
      exact (chk1 x _).imp fun _ _=>⟨by omega,by omega⟩)
    obtain⟨h3,h4⟩:=chk0 p l (k+1) h2
    exact⟨fun y hy=>by rcases List.mem_cons.1 hy with rfl|q;exact hx;exact h3 y q,h4⟩
theorem l05_ok {p:PolicyR} (h:Kq_ p=true):PoOk p:=by
  simp only[Kq_,Bool.and_eq_true,decide_eq_true_eq,to_eq] at h
  have h1:=h.2
  unfold Mg_ at h1
  cases e0:(decide (p.work<1) || decide (16<p.work) || decide (p.give<1) || decide (16<p.give)) with
  |true=>rw[e0] at h1;cases h1
  |false=>
    rw[e0] at h1
    cases e1:decide ((p.places.length:Int)=0) with
    |true=>rw[e1] at h1;cases h1
    |false=>
      rw[e1] at h1
      cases e2:decide (16<(p.places.length:Int)) with
      |true=>rw[e2] at h1;cases h1
      |false=>
        rw[e2] at h1
        simp only[decide_eq_false_iff_not] at e1 e2
        obtain⟨a1,a2,a3,a4⟩:=chk0 p p.places 0 h1
        obtain⟨b1,b2⟩:=chk2 p p.slots a4
        exact⟨by omega,by omega,a2,a3,b1,chk3 p p.grants 0 b2,a1⟩
theorem l05_may {p:PolicyR} (h:Kq_ p=true):PoOk p/\0<p.places.length/\p.places.length<=16/\0<p.slots.length/\p.slots.length<=32/\p.grants.length<=8:=by
  have q:=l05_ok h
  obtain⟨h1,h2,h3,h4,h5,_⟩:=id q
  exact⟨q,h1,h2,h3,h4,h5⟩
theorem l23_ddl {l:List DeedR} (h:Ju_ l=true):DdA l/\l.length<=40:=⟨l23_dd h,(l23_dd h).2⟩
variable {P:Program} {n:Nat} {N:Rest} {H0:Env} {all rest:List Oper} {Q:Qs} {ks:List Kt} {fF:Nat->PV} {fL:Nat->Blk} {T ty d:Nat} {pos:String} {af:Array Edge} {x y z:Operand} {K:St->Prop}
noncomputable def allH (H:Hp) (L:Ls):Hp:=fun b=>open Classical in if h:∃ o i,L i=some (b,o) then some h.choose else H b
theorem Zw_ {N:Rest} {H:Hp} {L:Ls} {w:World} (hm:Mem N H L w) {i b:Nat} {o:Obj} (h:L i=some (b,o)):allH H L b=some o:=by
  have he:∃ o i,L i=some (b,o):=⟨o,i,h⟩
  unfold allH
  rw[dif_pos he]
  obtain⟨j,hj⟩:=he.choose_spec
  have :=hm.ll i j b o _ h hj
  subst this
  rw[h] at hj
  cases hj
  simp
theorem allH_le {N:Rest} {H:Hp} {L:Ls} {w:World} (hm:Mem N H L w):HLe H (allH H L):=fun b o h=>by
  unfold allH
  split
  · rename_i he
    obtain⟨o',i,hi⟩:=he
    have :=(hm.nl i b o' hi).2
    rw[h] at this;cases this
  · exact h
theorem mem_lend {N:Rest} {H:Hp} {L:Ls} {w:World} (hm:Mem N H L w):Mem N (allH H L) (fun _=>none) w:=by
  refine⟨hm.os,hm.tape,hm.output,hm.n,fun b o h=>?_,(fun _ _ _ h=>by cases h),fun b o h=>?_,(fun _ _ _ h=>by cases h),(fun _ _ _ _ _ h=>by cases h)⟩
  · unfold allH at h
    split at h
    · rename_i he
      cases h
      obtain⟨j,hj⟩:=he.choose_spec
      exact hm.l _ _ _ hj
    · exact hm.h b o h
  · unfold allH
    split
    · rename_i he
      obtain⟨o',i,hi⟩:=he
      have :=(hm.nl i b o' hi).1
      rw[h] at this;cases this
    · exact hm.nh b o h
theorem mem_lent {N:Rest} {H H':Hp} {L:Ls} {w w':World} (hm:Mem N H L w) (hl:HLe (allH H L) H') (hm':Mem N H' (fun _=>none) w'):Mem N H L w':=
  ⟨hm'.os,hm'.tape,hm'.output,hm'.n,fun b o h=>hm'.h b o (hl b o (allH_le hm b o h)),fun i b o h=>hm'.h b o (hl b o (Zw_ hm h)),hm.nh,hm.nl,hm.ll⟩
inductive LentL (sL:Nat->Blk):List PV->List PV->Prop
  |nil:LentL sL [] []
  |same (p:PV) {ps qs:List PV} (h:LentL sL ps qs):LentL sL (p::ps) (p::qs)
  |lend (j:Nat) {α:Type} {u:Value} {k e:Nat} {enc:α->List PV} {xs:List α} {ps qs:List PV} (hj:sL j = .arr u k e enc xs) (h:LentL sL ps qs):LentL sL (.usl u::ps) (.sl enc xs::qs)
  |agg {ps qs rs ss:List PV} (h1:LentL sL ps qs) (h:LentL sL rs ss):LentL sL (.agg ps::rs) (.agg qs::ss)
theorem LentL.sims {sL:Nat->Blk} {H H':Hp} {L:Ls} (hl:HLe H H') (ho:∀ i b o,L i=some (b,o)->H' b=some o) (hb:∀ i,SimB sL H (sL i) (L i)) {ps qs:List PV} (h:LentL sL ps qs):∀ {vs:List Value},Sims H ps vs->Sims H' qs vs:=by
  induction h with
  |nil=>intro vs hs;cases hs.inv_nil;exact Sims.nil
  |same p _ ih=>
    intro vs hs
    obtain⟨v,us,rfl,h1,h2⟩:=hs.inv_cons
    exact (ih h2).cons (h1.mono hl)
  |lend j hj _ ih=>
    intro vs hs
    obtain⟨v,us,rfl,h1,h2⟩:=hs.inv_cons
    have e:=h1.inv_usl.1
    subst e
    have hi:=hb j
    rw[hj] at hi
    obtain⟨cs,h3,h4,h5⟩:=hi
    exact (ih h2).cons (Sim.of_slh (slh_ownE I2_ h3 (h4.mono Mj_ hl) fun b o q=>ho j b o q) h5)
  |agg _ _ ih1 ih=>
    intro vs hs
    obtain⟨v,us,rfl,h1,h2⟩:=hs.inv_cons
    obtain⟨zs,rfl,h3⟩:=h1.inv_agg
    exact (ih h2).cons (Sim.toAgg (ih1 h3))
theorem V2_ {f:FuncId} {args args':List PV} {res:PV} {as0:Array Operand} {ats:Array TypeId} (h:Fn P H0.g f args' res) (hf:res.flat=true) (ha:argsP fF x as0.toList=some (f,args)) (hl:LentL fL args args') (hd:Nat.blt d n=true)
    (k:res.wf->K ⟨updp fF d res,fL⟩):E1 P n N H0 all ⟨some d, .call ⟨.value x,as0,ats⟩,ty,pos,af,none⟩ none ⟨fF,fL⟩ K:=by
  intro F H L hab a w hA hm
  obtain⟨vs,h1,h2⟩:=Ho_ (ats:=ats) hab.f ha h.cb
  have hle:=allH_le hm
  have hs:=hl.sims hle (fun i b o q=>Zw_ hm q) hab.l h1
  rw[if_pos (by simp[Region.wanted])]
  unfold Oper.wp
  rw[hA.eval,h2]
  refine (h.run N (allH H L) _ w vs (H0.g.mono _ _ hle hab.g) hs (mem_lend hm)).mono fun e' w' ⟨v,H',he,hv,hl',hm'⟩=>?_
  subst he
  exact⟨_,H,L,hA.put (by simpa using hd) v,mem_lent hm hl' hm', .refl H,fun _ _=>rfl,_,hab.put d (Sim.simT (Sim.flat_any hf hv) h.no),k hv.wf⟩
theorem tie_le {α:Type} {i j o b T0 k e:Nat} {cs:List PV} {u:Value} {enc:α->List PV} {xs:List α} (hb:fL i = .box b T0 cs) (hj:fL j = .arr u k e enc xs) (ho:cs[o]? = some (.usl u)):StLe ⟨fF,fL⟩ ⟨fF,lups fL i (.box b T0 (cs.set o (.osl j)))⟩:=by
  intro H0 F H L ha
  have hij:j≠i:=fun q=>by rw[q,hb] at hj;cases hj
  have hp:∀ {p v},SimT fL H p v->SimT (lups fL i (.box b T0 (cs.set o (.osl j)))) H p v:=fun {p v} h=>by
    cases p with
    |osl q=>
      simp only[SimT] at h ⊢
      by_cases hq:q=i
      · subst hq;simp only[lups,Nat.beq_refl,cond_true]
      · rw[Fw_ _ _ _ _ hq];exact h
    |_=>exact h
  refine⟨ha.le,ha.g,fun t=>hp (ha.f t),fun q=>?_⟩
  have hq:SimB fL H (fL q) (L q):=ha.l q
  by_cases e:q=i
  · subst e
    show SimB _ H (lups fL q _ q) (L q)
    rw[Cs_]
    rw[hb] at hq
    obtain⟨vs,h1,h2,h3⟩:=hq
    refine⟨vs,h1,by simp[h2],fun m p v hm hv=>?_⟩
    rw[List.getElem?_set] at hm
    split at hm
    · rename_i hom
      subst hom
      split at hm
      · cases hm
        have h4:=h3 _ _ _ ho hv
        have h5:v=u:=(Sim.inv_usl h4).1
        simp only[SimT]
        rw[Fw_ _ _ _ _ hij,hj]
        exact h5
      · cases hm
    · exact hp (h3 m p v hm hv)
  · show SimB _ H (lups fL i _ q) (L q)
    rw[Fw_ _ _ _ _ e]
    have hq':SimB fL H (fL q) (L q):=hq
    generalize fL q=B at hq' ⊢
    cases B with
    |box b' T' cs'=>obtain⟨vs,h1,h2,h3⟩:=hq';exact⟨vs,h1,h2,fun m p v hm hv=>hp (h3 m p v hm hv)⟩
    |_=>exact hq'
theorem bx_tie {α:Type} {i o b T0 k e:Nat} {cs:List PV} {u:Value} {enc:α->List PV} {xs:List α} (j:Nat) (hb:fL i = .box b T0 cs) (hj:fL j = .arr u k e enc xs) (ho:cs[o]? = some (.usl u)) (kk:Hd P n N H0 Q (.ops all rest) ks ⟨fF,lups fL i (.box b T0 (cs.set o (.osl j)))⟩):Hd P n N H0 Q (.ops all rest) ks ⟨fF,fL⟩:=
  So.le (tie_le hb hj ho) kk
end Go.SW.V
namespace Go.SW.V
open Go.SW
variable {P:Program} {N:Rest} {H0:Env} {s:St} {T T' ty:TypeId} {x:Operand}
theorem qnilN {q:Array (String×TypeId)} (hx:evP s.F x = .val .nilIface) (hT:P.underlying T=some (.interface q)):Qy P N H0 s (.binOp .neq T x (.const .nilIface) T') ty (.bool false):=fun F H L ha=>by
  have h1:=B6_ ha.f x
  unfold Ok1 at h1
  rw[hx] at h1
  have h2:=h1.sim.inv_val
  have h:∀ d w,(Op.equalIn (d+1) T .nilIface .nilIface).run P w = .ok true w:=fun d w=>by simp[Op.equalIn,run_underlying hT]
  exact⟨_,Sim.bool,fun _ _ _=>Fc_ (b:= .nilIface) h2 rfl (fun w=>by simp[eqGuard]) fun w=>by simp[binOp,K9_ (h · w)]⟩
theorem qfA {cs ps:List PV} {fs:Array Field} {f:Field} {i k:Nat} (hx:evP s.F x = .agg cs) (hT:P.underlying T=some (.struct fs)) (hf:fs[i]? = some f) (ha:Ag P f.type true) (hz:Sz P f.type k) (hc:(cs.drop f.offset).take k=ps):Qy P N H0 s (.field T x i) ty (.agg ps):=fun F H L hab=>by
  have h1:=B6_ hab.f x
  unfold Ok1 at h1
  rw[hx] at h1
  obtain⟨vs,hv,hs⟩:=h1.sim.inv_agg
  refine⟨.agg ((vs.drop f.offset).take k).toArray,hc ▸ Sim.toAgg ((hs.drop f.offset).take k),fun H' L' _ d pos af g w _=>?_⟩
  have :=ha w
  have :=hz w
  simp[execOp,hv,Instr.field,run_underlying hT,hf,part,asAgg, *]
theorem inv_fn0 {H:Hp} {f:FuncId} {v:Value} (h:Sim H (.fn f [] []) v):v = .func (.func f) #[] #[]:=by
  obtain⟨vs,us,rfl,h1,h2⟩:=h.inv_fn
  cases h1.inv_nil;cases h2.inv_nil
  rfl
end Go.SW.V
namespace Go.SW.V
open Go.SW
def I0_ (s:Bs):(List Bs):=
 (flds s)
def Hy_ (n:Int) (least:Int) (most:Int):Int:=
 (bif decide (n<least) then
 15
 else (bif decide (most<n) then
 6
 else 0))
def Ji_ (y:PlaceR) (x1:PlaceR):Bool:=
 ((decide (y.name=x1.name))||(decide (y.label=x1.label)))
def Jh_ (y:GrantR) (x1:GrantR):Bool:=
 ((decide (y.frm=x1.frm))&&(decide (y.to'=x1.to')))
def L1_ (s:List Int) (v:Int):Bool:=
 lt (idxP (fun y=>decide (v=y)) s) fun r=>
 (decide (0<=r))
def Jq_:List Int->Int
  |[]=>0
  | x::t=>(bif !decide (x=0) then
 x
 else Jq_ t)
def Vs_ (vals:List Int):Int:=
 Jq_ vals
def H2_ (a:LabelR):Bool:=
 (decide (a.level<=15))
def C2_ (s:Bs) (most:Int):Nat->Nat->Int->Int×Int
  |0,_,_=>default
  | f2+1,k1,n1=>(bif decide ((k1:Int)<(s.length:Int)) then
 (bif ((decide (((s.getD k1 0).toNat:Int)<48))||(decide (57<((s.getD k1 0).toNat:Int)))) then
 ((k1:Int),n1)
 else (bif decide (n1<=most) then
 C2_ s most f2 (k1+1) ((10*n1)+(IntKind.wrap .u8 (((s.getD k1 0).toNat:Int)-48)))
 else C2_ s most f2 (k1+1) n1))
 else ((k1:Int),n1))
def Da_ (s:Bs) (most:Int):Int×Bs×Int:=
 (lt2 (C2_ s most (s.length-0+1) 0 0) (fun k n=>
 (bif ((decide (k=0))&&(decide ((s.length:Int)=0))) then
 (0,[],3)
 else (lt1 ((bif decide (k=0) then
 (decide (k=0))
 else ((decide (1<k))&&(decide (((s.getD 0 0).toNat:Int)=48))))) (fun v=>
 (bif v then
 (0,[],4)
 else (bif decide (most<n) then
 (0,[],7)
 else (n,(s.drop (k).toNat),0))))))))
theorem plen_w {s l:Bs} {r:List Bs} (h:plen s=true) (hr:I0_ l=r) (hz:l.length<=65536/\(flds l).length<=65536/\∀ w∈flds l,0<w.length/\w.length<=19):∀ w∈r,0<w.length/\w.length<=19:=by
  subst hr;exact hz.2.2
theorem there_in {p:PolicyR} {i:Int} (h:Ar_ p i=true):0<=i/\i<p.places.length:=by
  simp only[Ar_,Cl_,Bool.and_eq_true,decide_eq_true_eq] at h
  omega
theorem wrap8_r (z:Int):0<=IntKind.wrap .u8 z/\IntKind.wrap .u8 z<=255:=Je_ .u8 z
theorem lnum_l (s:Bs) (most:Int):∀ (f k:Nat) (n:Int),0<=n->0<=(C2_ s most f k n).2
  |0,_,_,_=>by simp[C2_,default]
  |f+1,k,n,hn=>by
    unfold C2_
    let Q:Int×Int->Prop:=fun r=>0<=r.2
    refine bt (P:=Q) (fun _=>?_) fun _=>hn
    refine bt (P:=Q) (fun _=>hn) fun _=>?_
    refine bt (P:=Q) (fun _=>lnum_l s most f _ _ ?_) fun _=>lnum_l s most f _ _ hn
    have :=(wrap8_r (((s.getD k 0).toNat:Int)-48)).1
    omega
theorem lnum_r (s:Bs) (most:Int) (hm:0<=most/\most<=1000):0<=(Da_ s most).1/\(Da_ s most).1<=1000/\(Da_ s most).2.1.length<=s.length:=by
  unfold Da_
  have h:=lnum_l s most (s.length-0+1) 0 0 (Int.le_refl _)
  generalize C2_ s most (s.length-0+1) 0 0=q at h ⊢
  obtain⟨k,n⟩:=q
  let Q:Int×Bs×Int->Prop:=fun r=>0<=r.1/\r.1<=1000/\r.2.1.length<=s.length
  have hno:∀ e:Int,Q (0,[],e):=fun e=>⟨Int.le_refl _,by show (0:Int)<=1000;decide,Nat.zero_le _⟩
  show Q (bif _ then _ else _)
  refine bt (P:=Q) (fun _=>hno _) fun _=>?_
  refine lt1E (P:=Q) (fun _=>True) trivial fun v _=>?_
  refine bt (P:=Q) (fun _=>hno _) fun _=>?_
  refine bt (P:=Q) (fun _=>hno _) fun e=>?_
  simp only[decide_eq_false_iff_not] at e
  exact⟨h,by show n<=1000;omega,by show (s.drop _).length<=_;rw[List.length_drop];omega⟩
def Iz_ (x:PlaceR) (ahead:List PlaceR):Int:=
 (bif !decide ((En_ x.name)=0) then
 (En_ x.name)
 else (lt1 ((bif !(H2_ x.label) then
 (!(H2_ x.label))
 else (bif !(Cl_ x.bytes 0 65536) then
 (!(Cl_ x.bytes 0 65536))
 else (decide (x.base=0))))) (fun v=>
 (bif v then
 7
 else (bif decide (0<=idxP (fun z_28:PlaceR=>(Ji_ z_28 x)) ahead) then
 9
 else 0)))))
def Fe_ (p:PolicyR) (x:GrantR) (ahead:List GrantR):Int:=
 (bif !(Ar_ p x.frm) then
 10
 else (bif !(Ar_ p x.to') then
 10
 else (bif (F7_ ((gt p.places ((x.frm).toNat)).label) ((gt p.places ((x.to').toNat)).label)) then
 11
 else (bif !(Cl_ x.budget 0 16) then
 7
 else (bif decide (0<=idxP (fun z_32:GrantR=>(Jh_ z_32 x)) ahead) then
 9
 else 0)))))
def E2_ (p:PolicyR):Nat->Int->Nat->Int
  |0,_,_=>default
  | f2+1,e_1,i=>(bif ((decide (e_1=0))&&(decide ((i:Int)<(p.places.length:Int)))) then
 E2_ p f2 (Iz_ (gt p.places i) (p.places.take i)) (i+1)
 else e_1)
def Dz_ (p:PolicyR):Int:=
 lt (Hy_ (p.places.length:Int) 1 16) fun r=>
 E2_ p (p.places.length+1-0+1) r 0
def D6_ (p:PolicyR):Nat->Int->Nat->Int
  |0,_,_=>default
  | f2+1,e_1,i=>(bif ((decide (e_1=0))&&(decide ((i:Int)<(p.slots.length:Int)))) then
 (bif !(Ar_ p (gt p.slots i)) then
 D6_ p f2 10 (i+1)
 else D6_ p f2 e_1 (i+1))
 else e_1)
def D8_ (p:PolicyR):Int:=
 lt (Hy_ (p.slots.length:Int) 1 32) fun r=>
 D6_ p (p.slots.length+1-0+1) r 0
def E1_ (p:PolicyR):Nat->Int->Nat->Int
  |0,_,_=>default
  | f2+1,e_1,i=>(bif ((decide (e_1=0))&&(decide ((i:Int)<(p.grants.length:Int)))) then
 E1_ p f2 (Fe_ p (gt p.grants i) (p.grants.take i)) (i+1)
 else e_1)
def Dy_ (p:PolicyR):Int:=
 lt (Hy_ (p.grants.length:Int) 0 8) fun r=>
 E1_ p (p.grants.length+1-0+1) r 0
def Cj_ (p:PolicyR):List PlaceR->Nat->Int
  |[],k=>0
  | x::t,k=>(bif !(L1_ p.slots (k:Int)) then
 15
 else Cj_ p t (k+1))
def F8_ (p:PolicyR):Int:=
 (bif ((!(Cl_ p.work 1 16))||(!(Cl_ p.give 1 16))) then
 7
 else (bif !decide ((Vs_ [(Dz_ p),(D8_ p),(Dy_ p)])=0) then
 (Vs_ [(Dz_ p),(D8_ p),(Dy_ p)])
 else Cj_ p p.places 0))
def Eo_ (s:Bs) (most:Int):List UInt8->Int×Int
  | []=>(bif decide (most<(dec s:Int)) then
 (0,7)
 else ((dec s:Int),0))
  | x::t=>(bif ((decide ((x.toNat:Int)<48))||(decide (57<(x.toNat:Int)))) then
 (0,4)
 else Eo_ s most t)
def G9_ (s:Bs) (most:Int):Int×Int:=
 (bif ((decide (s=[]))||((decide (1<(s.length:Int)))&&(decide (((s.getD 0 0).toNat:Int)=48)))) then
 (0,4)
 else Eo_ s most s)
def Eg_ (s:Bs):Int×Int:=
 lt (G9_ s 1048576) fun r=>
 ((IntKind.wrap .i64 r.1),r.2)
def Ak_ (p:PolicyR) (s:Bs):Int×Int:=
 lt (Bo_ p s) fun r=>
 (bif decide (0<=r) then
 (r,0)
 else (0,10))
def Hl_:Nat->Bs->Int->LabelR->LabelR×Int
  |0,_,_,_=>default
  | f2+1,s1,last,x=>(bif decide (0<(s1.length:Int)) then
 (bif !decide (((s1.getD 0 0).toNat:Int)=58) then
 ((⟨0,0⟩:LabelR),4)
 else lt (Da_ (s1.drop 1) 31) fun r1=>
 (bif !decide (r1.2.2=0) then
 ((⟨0,0⟩:LabelR),r1.2.2)
 else (bif decide (r1.1<=last) then
 ((⟨0,0⟩:LabelR),4)
 else Hl_ f2 r1.2.1 r1.1 (⟨x.level,(IntKind.wrap .u32 ((BitVec.ofInt (IntKind.bits .u32) x.set_ |||BitVec.ofInt (IntKind.bits .u32) (IntKind.wrap .u32 (1*2 ^ (min (r1.1:Int).toNat (IntKind.bits .u32))))).toNat))⟩:LabelR))))
 else (x,0))
def Fo_ (s:Bs):LabelR×Int:=
 lt (Da_ s 15) fun r=>
 (bif !decide (r.2.2=0) then
 ((⟨0,0⟩:LabelR),r.2.2)
 else Hl_ (r.2.1.length+1) r.2.1 (-1) (⟨(IntKind.wrap .u8 r.1),0⟩:LabelR))
def Ap_:List Bs->Nat->Int->Int->List PlaceR->List Int->List GrantR->PolicyR×Int×Int
  |[],k,work,give_,places,slots,grants=>lt (F8_ (⟨work,give_,places,slots,grants⟩:PolicyR)) fun r16=>
 (bif !decide (r16=0) then
 ((⟨0,0,[],[],[]⟩:PolicyR),0,r16)
 else ((⟨work,give_,places,slots,grants⟩:PolicyR),0,0))
  |x::t,k,work,give_,places,slots,grants=>lt (I0_ x) fun r=>
 (bif ((decide ((r.length:Int)=0))||(decide ((((gt r 0).getD 0 0).toNat:Int)=35))) then
 Ap_ t (k+1) work give_ places slots grants
 else (bif decide ((gt r 0)=[108,97,98,101,108]) then
 (bif !decide ((r.length:Int)=5) then
 ((⟨0,0,[],[],[]⟩:PolicyR),((k:Int)+1),4)
 else (bif decide ((gt r 0)=[119,111,114,107]) then
 lt (Eg_ (gt r 1)) fun r1=>
 (bif !decide (r1.2=0) then
 ((⟨0,0,[],[],[]⟩:PolicyR),((k:Int)+1),r1.2)
 else Ap_ t (k+1) r1.1 give_ places slots grants)
 else (bif decide ((gt r 0)=[103,105,118,101]) then
 lt (Eg_ (gt r 1)) fun r2=>
 (bif !decide (r2.2=0) then
 ((⟨0,0,[],[],[]⟩:PolicyR),((k:Int)+1),r2.2)
 else Ap_ t (k+1) work r2.1 places slots grants)
 else (bif decide ((gt r 0)=[115,108,111,116]) then
 lt (Ak_ (⟨work,give_,places,slots,grants⟩:PolicyR) (gt r 1)) fun r3=>
 (bif !decide (r3.2=0) then
 ((⟨0,0,[],[],[]⟩:PolicyR),((k:Int)+1),r3.2)
 else Ap_ t (k+1) work give_ places (slots++[r3.1]) grants)
 else lt (Fo_ (gt r 2)) fun r4=>
 (bif !decide (r4.2=0) then
 ((⟨0,0,[],[],[]⟩:PolicyR),((k:Int)+1),r4.2)
 else lt (Eg_ (gt r 3)) fun r5=>
 (bif !decide (r5.2=0) then
 ((⟨0,0,[],[],[]⟩:PolicyR),((k:Int)+1),r5.2)
 else lt (G9_ (gt r 4) 18446744073709551615) fun r6=>
 (bif !decide (r6.2=0) then
 ((⟨0,0,[],[],[]⟩:PolicyR),((k:Int)+1),r6.2)
 else Ap_ t (k+1) work give_ (places++[(⟨(gt r 1),r4.1,r5.1,r6.1⟩:PlaceR)]) slots grants)))))))
 else (bif decide ((gt r 0)=[103,114,97,110,116]) then
 (bif !decide ((r.length:Int)=4) then
 ((⟨0,0,[],[],[]⟩:PolicyR),((k:Int)+1),4)
 else (bif decide ((gt r 0)=[119,111,114,107]) then
 lt (Eg_ (gt r 1)) fun r7=>
 (bif !decide (r7.2=0) then
 ((⟨0,0,[],[],[]⟩:PolicyR),((k:Int)+1),r7.2)
 else Ap_ t (k+1) r7.1 give_ places slots grants)
 else (bif decide ((gt r 0)=[103,105,118,101]) then
 lt (Eg_ (gt r 1)) fun r8=>
 (bif !decide (r8.2=0) then
 ((⟨0,0,[],[],[]⟩:PolicyR),((k:Int)+1),r8.2)
 else Ap_ t (k+1) work r8.1 places slots grants)
 else (bif decide ((gt r 0)=[115,108,111,116]) then
 lt (Ak_ (⟨work,give_,places,slots,grants⟩:PolicyR) (gt r 1)) fun r9=>
 (bif !decide (r9.2=0) then
 ((⟨0,0,[],[],[]⟩:PolicyR),((k:Int)+1),r9.2)
 else Ap_ t (k+1) work give_ places (slots++[r9.1]) grants)
 else lt (Ak_ (⟨work,give_,places,slots,grants⟩:PolicyR) (gt r 1)) fun r10=>
 (bif !decide (r10.2=0) then
 ((⟨0,0,[],[],[]⟩:PolicyR),((k:Int)+1),r10.2)
 else lt (Ak_ (⟨work,give_,places,slots,grants⟩:PolicyR) (gt r 2)) fun r11=>
 (bif !decide (r11.2=0) then
 ((⟨0,0,[],[],[]⟩:PolicyR),((k:Int)+1),r11.2)
 else lt (Eg_ (gt r 3)) fun r12=>
 (bif !decide (r12.2=0) then
 ((⟨0,0,[],[],[]⟩:PolicyR),((k:Int)+1),r12.2)
 else Ap_ t (k+1) work give_ places slots (grants++[(⟨r10.1,r11.1,r12.1⟩:GrantR)]))))))))
 else (bif decide ((gt r 0)=[119,111,114,107]) then
 (bif !decide ((r.length:Int)=2) then
 ((⟨0,0,[],[],[]⟩:PolicyR),((k:Int)+1),4)
 else lt (Eg_ (gt r 1)) fun r13=>
 (bif !decide (r13.2=0) then
 ((⟨0,0,[],[],[]⟩:PolicyR),((k:Int)+1),r13.2)
 else Ap_ t (k+1) r13.1 give_ places slots grants))
 else (bif decide ((gt r 0)=[103,105,118,101]) then
 (bif !decide ((r.length:Int)=2) then
 ((⟨0,0,[],[],[]⟩:PolicyR),((k:Int)+1),4)
 else lt (Eg_ (gt r 1)) fun r14=>
 (bif !decide (r14.2=0) then
 ((⟨0,0,[],[],[]⟩:PolicyR),((k:Int)+1),r14.2)
 else Ap_ t (k+1) work r14.1 places slots grants))
 else (bif decide ((gt r 0)=[115,108,111,116]) then
 (bif !decide ((r.length:Int)=2) then
 ((⟨0,0,[],[],[]⟩:PolicyR),((k:Int)+1),4)
 else lt (Ak_ (⟨work,give_,places,slots,grants⟩:PolicyR) (gt r 1)) fun r15=>
 (bif !decide (r15.2=0) then
 ((⟨0,0,[],[],[]⟩:PolicyR),((k:Int)+1),r15.2)
 else Ap_ t (k+1) work give_ places (slots++[r15.1]) grants))
 else ((⟨0,0,[],[],[]⟩:PolicyR),((k:Int)+1),4)))))))
def Hx_ (s:Bs):PolicyR×Int×Int:=
 Ap_ (cuts 10 s) 0 0 0 [] [] []
def Q5_:Bool:=
 lt (Fo_ [50,58,48,58,53]) fun r=>
 lt (Fo_ [51,58,48,58,53,58,55]) fun r1=>
 lt (Fo_ [51,58,53]) fun r2=>
 ((((((decide (r.2=0))&&(decide (r1.2=0)))&&(decide (r2.2=0)))&&(F7_ r.1 r1.1))&&(!(F7_ r.1 r2.1)))&&(!(F7_ r1.1 r.1)))
def Q4_:Bool:=
 (Q5_)
def Q8_:Bool:=
 lt (Hx_ [119,111,114,107,32,52,10,103,105,118,101,32,49,10,108,97,98,101,108,32,108,111,119,32,48,32,53,49,50,32,49,10,115,108,111,116,32,108,111,119]) fun r=>
 (((((((Q4_)&&true)&&(decide (r.2.1=0)))&&(decide (r.2.2=0)))&&(decide ((r.1.places.length:Int)=1)))&&(decide (r.1.work=4)))&&(decide (((gt r.1.places 0).bytes)=512)))
def Q6_:Bool:=
 (Q8_)
def Rb_:Bool:=
 lt (De_ (⟨[]⟩:LineR) (⟨3,[97],[],[],[],0,0⟩:Mail)) fun r=>
 lt (De_ r.1 (⟨5,[97],[],[],[],0,0⟩:Mail)) fun r1=>
 lt (Db_ r1.1) fun r2=>
 lt (Db_ r2.1) fun r3=>
 lt (E3_ r3.1 3) fun r4=>
 lt (Ee_ r4.1) fun r5=>
 (((((((((decide (r.2=0))&&(decide (r1.2=0)))&&r2.2.2)&&(decide (r2.2.1.mail.id=3)))&&r3.2.2)&&(decide (r3.2.1.mail.id=5)))&&(decide (r4.2=0)))&&r5.2)&&(decide (r5.1.id=3)))
def Ra_:Bool:=
 (Rb_)
def Kb_:Nat->Nat->A4_->Bool
  |0,_,_=>default
  | f2+1,v,x=>(bif decide ((v:Int)<40) then
 lt (Cu_ x (⟨0,(IntKind.wrap .u8 (v:Int)),[]⟩:NoteR)) fun r=>
 Kb_ f2 (v+1) r.1
 else lt (F1_ x 9) fun r1=>
 lt (F1_ x 8) fun r2=>
 (((r1.2&&(decide (r1.1.kind=8)))&&(!r2.2))&&(decide ((Ij_ x)=40))))
def Oa_:Bool:=
 Kb_ (40-0+1) 0 (⟨0,[]⟩:A4_)
def Rc_:Bool:=
 (Oa_)
def Kc_:Nat->Nat->RiseR->Bool
  |0,_,_=>default
  | f2+1,v,x=>(bif decide ((v:Int)<20) then
 lt (Bp_ x (⟨0,[97],[],[],[],0,0⟩:Mail)) fun r=>
 Kc_ f2 (v+1) r.1
 else lt (Ff_ x 0) fun r1=>
 lt (Ff_ x 20) fun r2=>
 (((decide (r1.1=5))&&r1.2.2)&&(!r2.2.2)))
def Ob_:Bool:=
 Kc_ (20-0+1) 0 (⟨0,[]⟩:RiseR)
def Rd_:Bool:=
 (Ob_)
def Rf_:Bool:=
 lt (Dx_ 7 100) fun r=>
 lt (A3_ r (⟨[113],3,0,[]⟩:QueueR)) fun r1=>
 lt (Az_ r1.1 [113] (⟨0,[97],[],[],[],0,0⟩:Mail)) fun r2=>
 (((((Ra_)&&(Rd_))&&(decide (r1.2=0)))&&(decide (r2.2.2.2=0)))&&(decide (r2.2.1=7)))
def Re_:Bool:=
 (Rf_)
def Kd_:Nat->Nat->C_->Bool
  |0,_,_=>default
  | f2+1,v,x=>(bif decide ((v:Int)<([(⟨0,0,(⟨[97],1,[]⟩:ShopR),(⟨[],0,0,[]⟩:QueueR),(⟨[],[],false,[],[],false⟩:BindR),[],0,0,0,0,0,(⟨0,[],[],[],[],0,0⟩:Mail),[]⟩:DeedR),(⟨2,0,(⟨[],0,[]⟩:ShopR),(⟨[113],4,0,[]⟩:QueueR),(⟨[],[],false,[],[],false⟩:BindR),[],0,0,0,0,0,(⟨0,[],[],[],[],0,0⟩:Mail),[]⟩:DeedR),(⟨4,0,(⟨[],0,[]⟩:ShopR),(⟨[],0,0,[]⟩:QueueR),(⟨[97],[113],false,[],[],false⟩:BindR),[],0,0,0,0,0,(⟨0,[],[],[],[],0,0⟩:Mail),[]⟩:DeedR)].length:Int)) then
 lt (Bh_ x (gt [(⟨0,0,(⟨[97],1,[]⟩:ShopR),(⟨[],0,0,[]⟩:QueueR),(⟨[],[],false,[],[],false⟩:BindR),[],0,0,0,0,0,(⟨0,[],[],[],[],0,0⟩:Mail),[]⟩:DeedR),(⟨2,0,(⟨[],0,[]⟩:ShopR),(⟨[113],4,0,[]⟩:QueueR),(⟨[],[],false,[],[],false⟩:BindR),[],0,0,0,0,0,(⟨0,[],[],[],[],0,0⟩:Mail),[]⟩:DeedR),(⟨4,0,(⟨[],0,[]⟩:ShopR),(⟨[],0,0,[]⟩:QueueR),(⟨[97],[113],false,[],[],false⟩:BindR),[],0,0,0,0,0,(⟨0,[],[],[],[],0,0⟩:Mail),[]⟩:DeedR)] v)) fun r1=>
 (bif !decide (r1.2.2=0) then
 false
 else Kd_ f2 (v+1) r1.1)
 else lt (Bh_ x (⟨6,0,(⟨[],0,[]⟩:ShopR),(⟨[],0,0,[]⟩:QueueR),(⟨[],[],false,[],[],false⟩:BindR),[],0,0,0,0,0,(⟨0,[97],[],[],[120],0,0⟩:Mail),[]⟩:DeedR)) fun r2=>
 lt (Bh_ r2.1 (⟨7,0,(⟨[],0,[]⟩:ShopR),(⟨[],0,0,[]⟩:QueueR),(⟨[],[],false,[],[],false⟩:BindR),[113],0,0,0,0,0,(⟨0,[],[],[],[],0,0⟩:Mail),[]⟩:DeedR)) fun r3=>
 ((((((((Q6_)&&(Re_))&&true)&&(Rc_))&&(decide (r2.2.2=0)))&&(decide (r2.2.1.count=1)))&&(decide (r3.2.2=0)))&&(decide (r3.2.1.item.mail.body=[120]))))
def Oc_:Bool:=
 lt (A8_ (⟨4,1,[(⟨[108,111,119],(⟨0,0⟩:LabelR),500,1⟩:PlaceR)],[0],[]⟩:PolicyR) 0) fun r=>
 Kd_ (([(⟨0,0,(⟨[97],1,[]⟩:ShopR),(⟨[],0,0,[]⟩:QueueR),(⟨[],[],false,[],[],false⟩:BindR),[],0,0,0,0,0,(⟨0,[],[],[],[],0,0⟩:Mail),[]⟩:DeedR),(⟨2,0,(⟨[],0,[]⟩:ShopR),(⟨[113],4,0,[]⟩:QueueR),(⟨[],[],false,[],[],false⟩:BindR),[],0,0,0,0,0,(⟨0,[],[],[],[],0,0⟩:Mail),[]⟩:DeedR),(⟨4,0,(⟨[],0,[]⟩:ShopR),(⟨[],0,0,[]⟩:QueueR),(⟨[97],[113],false,[],[],false⟩:BindR),[],0,0,0,0,0,(⟨0,[],[],[],[],0,0⟩:Mail),[]⟩:DeedR)].length)-0+1) 0 r
theorem Vz_ {l:List DeedR} {k:Nat} {d:DeedR} (h:(PV.sl DeedR.pc l).wf) (hd:l[k]? = some d):0<=d.mail.hops:=by
  have :=(h.2 d (List.mem_of_getElem? hd)).2.2.2.2.2.2.2.2.2.2.2.2.2.2.2.2.2.2.2.2.2.2.2.2.2.2.2.1
  exact this.1
theorem Zx_:∀ (t out:List ItemR),(Df_ t out).length=out.length+t.length
  |[],out=>rfl
  |x::t,out=>by
    unfold Df_ lt
    rw[Zx_ t];simp;omega
theorem all_len {l:LineR} (h:LnOk l):(Ea_ l).length<=64:=by
  unfold Ea_
  rw[Zx_]
  have :=h.1
  simp;omega
structure Clo (B:BookR->Prop) (K:E_->Prop) (M:A4_->Prop):Prop where
  ma:∀ {b x},0<=x.sort->B b->B (By_ b x).1
  bd:∀ {b x},(∀ p∈x.want,p.wf)->B b->B (Ay_ b x).1
  dp:∀ {b n},B b->B (Dw_ b n).1
  ub:∀ {b x},B b->B (C5_ b x).1
  fg:∀ {b q},B b->B (E8_ b q)
  km:∀ {k q},K k->K (A3_ k q).1
  kd:∀ {k n},K k->K (Di_ k n).1
  kp:∀ {k n m},StkOk k->K k->K (Az_ k n m).1
  kl:∀ {k n},K k->K (B8_ k n).1
  kr:∀ {k n i},K k->K (Ad_ k n i).1
  kb:∀ {k n i},K k->K (Dh_ k n i).1
  ks:∀ {k p m},K k->K (Bm_ k p m).1
  kw:∀ {k},StkOk k->K k->K (Er_ k)
  na:∀ {n x},0<=x.kind/\x.kind<=255->M n->M (Cu_ n x).1
def Cl (B:BookR->Prop) (K:E_->Prop) (M:A4_->Prop) (s:C_):Prop:=B s.x.book/\K s.x.stock/\M s.x.notes
section
variable {B:BookR->Prop} {K:E_->Prop} {M:A4_->Prop} (C:Clo B K M)
include C
variable {s:C_}
omit C in
theorem Cl.stock (h:Cl B K M s) {k:E_} (hk:K k):Cl B K M ⟨⟨s.x.book,k,s.x.notes,s.x.seen,s.x.spent⟩,s.policy,s.place⟩:=⟨h.1,hk,h.2.2⟩
theorem Cl.note (h:Cl B K M s) {t k:Int} {x:Bs} (hk:0<=k/\k<=255):Cl B K M (Bn_ s t k x):=⟨h.1,h.2.1,C.na hk h.2.2⟩
theorem Cl.spend (h:Cl B K M s) (to' t:Int):Cl B K M (Ch_ s to' t).1:=by
  unfold Ch_ lt
  let Q:C_×Int->Prop:=fun r=>Cl B K M r.1
  refine bt (P:=Q) (fun _=>h) fun _=>?_
  exact lt1E (P:=Q) (fun _=>True) trivial fun x _=>bt (P:=Q) (fun _=>h) fun _=>⟨h.1,h.2.1,C.na ⟨(by decide :(0:Int)<=2),(by decide :(2:Int)<=255)⟩ h.2.2⟩
section
variable {m:Mail} {tick:Int} {r:List Bs×List Bs×Int}
theorem send1_c {gone:List OutR} (hs:Cl B K M s):∀ (t:List Bs) (n:Int) (x:C_),Cl B K M x->Cl B K M (At_ s m tick r gone t n x).1
  |[],n,x,hx=>hx
  |q::t,n,x,hx=>by
    unfold At_ lt
    let Q:C_×List OutR×Int×Int->Prop:=fun r=>Cl B K M r.1
    refine lp1E (P:=Q) (Cl B K M) ?_ fun y hy=>?_
    · refine bt (P:=LoP _ _) (fun _=>?_) fun _=>hx
      exact bt (P:=LoP _ _) (fun _=>hs) fun _=>Cl.spend C hx _ _
    · exact bt (P:=Q) (fun _=>hs) fun _=>send1_c hs t _ _ (hy.stock (C.ks hy.2.1))
theorem Vd_ (hs:Cl B K M s) (h0:0<=m.hops):∀ (t:List Bs) (gone:List OutR) (n:Int) (x:C_),StOk x->Cl B K M x->Cl B K M (V_ s m tick r t gone n x).1
  |[],gone,n,x,_,hx=>by
    unfold V_
    exact send1_c C hs _ _ _ hx
  |q::t,gone,n,x,ho,hx=>by
    unfold V_ lt
    let Q:C_×List OutR×Int×Int->Prop:=fun r=>Cl B K M r.1
    refine bt (P:=Q) (fun _=>Vd_ hs h0 t _ _ x ho hx) fun _=>?_
    generalize K5_ m.due tick (Ao_ x.x.stock q).1.life=due
    have hp:=(Uv_ (s:=x.x.stock) (n:=q) (m:=⟨0,m.shop,m.key,m.head,m.body,due,m.hops⟩) ho.stk h0).1
    have hk:=C.kp (n:=q) (m:=⟨0,m.shop,m.key,m.head,m.body,due,m.hops⟩) ho.stk hx.2.1
    refine bt (P:=Q) (fun _=>hs) fun _=>?_
    exact bt (P:=Q) (fun _=>Vd_ hs h0 t _ _ _ (Bj_ ho hp) (hx.stock hk)) fun _=>Vd_ hs h0 t _ _ _ (Bj_ ho hp) (hx.stock hk)
theorem send_c (ho:StOk s) (hs:Cl B K M s) (h0:0<=m.hops):Cl B K M (M_ s m tick).1:=by
  unfold M_ lt
  let Q:C_×List OutR×Int×Int->Prop:=fun r=>Cl B K M r.1
  exact bt (P:=Q) (fun _=>hs) fun _=>Vd_ C hs h0 _ _ _ _ ho hs
end
theorem Ty_ (tick:Int):∀ (f:Nat) (gone:List OutR) (lost:Int) (x:C_),Qj_ gone lost x->wtk x.x.stock+wto gone<f->Cl B K M x->Cl B K M (Bs_ tick f gone lost x).1
  |0,_,_,_,_,h,_=>by omega
  |f+1,gone,lost,x,hI,hf,hx=>by
    unfold Bs_ lt
    let Q:C_×Int->Prop:=fun r=>Cl B K M r.1
    refine bt (P:=Q) (fun e=>?_) fun _=>hx
    have hn:0<gone.length:=by simpa using e
    refine bt (P:=Q) (fun _=>Ty_ tick f _ _ _ (Qm_ hI hn) (Sx_ hn hf) hx) fun _=>?_
    have hm:MlOk (gt gone 0).mail:=hI.2.1 _ (Lt_ hn)
    refine bt (P:=Q) (fun _=>?_) fun e4=>?_
    · have h:=I9_ (s:=x) (t:=tick) (k:=1) (x:=(gt gone 0).queue) hI.1
      exact Ty_ tick f _ _ _ (Qn_ hI h.1 h.2 hn) (Vr_ h.2 hn hf) (Cl.note C hx (by decide))
    · simp only[Bool.or_eq_false_iff,decide_eq_false_iff_not,Bool.not_eq_false',decide_eq_true_eq] at e4
      have hs:=Ln_ (s:=x) (m:=⟨(H_ (gt gone 0).mail).id,(Ao_ x.x.stock (gt gone 0).queue).1.dead,(H_ (gt gone 0).mail).key,(H_ (gt gone 0).mail).head,(H_ (gt gone 0).mail).body,0,IntKind.wrap .u8 ((H_ (gt gone 0).mail).hops+1)⟩) (tick:=tick) hI.1 (Lq_ _)
      exact Ty_ tick f _ _ _ (Qo_ hI hs.1 hs.2.1 hn rfl hm e4.1 hs.2.2 rfl e4.2) (Sy_ hn hf rfl hm e4.1 hs.2.2 rfl e4.2) (send_c C hI.1 hx (Lq_ _))
theorem Tx_ {gone:List OutR} {tick:Int} (h:StOk s) (hg:gone.length<=600/\∀ g∈gone,MlOk g.mail) (hs:Cl B K M s):Cl B K M (Ba_ s gone tick).1:=
  Ty_ C tick _ gone 0 s (buryI0 h hg) (Nat.lt_succ_self _) hs
section
variable {d:DeedR}
theorem settle_c (h:StOk s) (hs:Cl B K M s):Cl B K M (B2_ s d).1:=by
  unfold B2_ lt
  let Q:C_×Ae_×Int->Prop:=fun r=>Cl B K M r.1
  refine bt (P:=Q) (fun _=>hs) fun _=>?_
  refine bt (P:=Q) (fun _=>hs.stock (C.kb hs.2.1)) fun _=>?_
  have hr:=Jn_ (n:=d.name) (id:=d.id) h.stk
  refine bt (P:=Q) (fun _=>Tx_ C (Bj_ h hr.1) ⟨by simp,fun g hg=>?_⟩ (hs.stock (C.kr hs.2.1))) fun _=>hs.stock (C.kr hs.2.1)
  rw[List.mem_singleton.1 hg];exact hr.2
theorem late_c0 {t:Int}:∀ (f:Nat) (gone:List OutR) (x:C_),StOk x->(∀ g∈gone,MlOk g.mail)->gone.length+nik x.x.stock<=512->nik x.x.stock<f->Cl B K M x->Cl B K M (Cx_ t f gone x).1
  |0,_,_,_,_,_,h,_=>by omega
  |f+1,gone,x,h,hg,hl,hf,hs=>by
    unfold Cx_ lt
    let Q:C_×Ae_->Prop:=fun r=>Cl B K M r.1
    refine bt (P:=Q) (fun _=>Tx_ C h ⟨by omega,hg⟩ hs) fun e=>?_
    have e':(Z_ x.x.stock t).2.2=true:=by simpa using e
    have hr:=Jn_ (n:=(Z_ x.x.stock t).1) (id:=(Z_ x.x.stock t).2.1.id) h.stk
    refine late_c0 f _ _ (Bj_ h hr.1) (fun g q=>?_) (Yz_ h.stk rfl e' rfl hl) (Y0_ h.stk rfl e' rfl hf) (hs.stock (C.kr hs.2.1))
    rcases List.mem_append.1 q with q|q
    · exact hg g q
    · rw[List.mem_singleton.1 q];exact Uu_ h.stk
theorem late_c {t:Int} (h:StOk s) (hs:Cl B K M s):Cl B K M (Es_ s t).1:=
  late_c0 C _ [] s h (fun _ h=>by cases h) (by have :=nik_r h.stk;simpa using this) (Nat.lt_succ_self _) hs
theorem put_c (h:StOk s) (h0:0<=d.mail.hops) (hs:Cl B K M s):Cl B K M (Dc_ s d).1:=by
  unfold Dc_ lt
  let Q:C_×Ae_×Int->Prop:=fun r=>Cl B K M r.1
  have h1:=Ln_ (s:=s) (m:=H_ d.mail) (tick:=d.tick) h h0
  have hl:=Lm_ (s:=s) (m:=H_ d.mail) (tick:=d.tick) h
  exact bt (P:=Q) (fun _=>hs) fun _=>Tx_ C h1.1 ⟨by omega,h1.2.1⟩ (send_c C h hs h0)
theorem queues_c (hs:Cl B K M s):Cl B K M (Cm_ s d).1:=by
  unfold Cm_ lt
  let Q:C_×Int->Prop:=fun r=>Cl B K M r.1
  refine bt (P:=Q) (fun _=>hs.stock (C.km hs.2.1)) fun _=>?_
  exact bt (P:=Q) (fun _=>⟨C.fg hs.1,C.kd hs.2.1,hs.2.2⟩) fun _=>hs.stock (C.kd hs.2.1)
theorem lend_c (hs:Cl B K M s):Cl B K M (Ca_ s d).1:=by
  unfold Ca_ lt
  let Q:C_×Ae_×Int->Prop:=fun r=>Cl B K M r.1
  refine bt (P:=Q) (fun _=>hs) fun _=>?_
  exact bt (P:=Q) (fun _=>hs) fun _=>hs.stock (C.kl hs.2.1)
theorem shops_c (hq:0<=d.shop.sort) (hw:∀ p∈d.bind.want,p.wf) (hs:Cl B K M s):Cl B K M (C7_ s d).1:=by
  unfold C7_ lt
  let Q:C_×Int->Prop:=fun r=>Cl B K M r.1
  have hn:∀ e,Q (s,e):=fun e=>hs
  have hb:∀ {b e},B b->Q (⟨⟨b,s.x.stock,s.x.notes,s.x.seen,s.x.spent⟩,s.policy,s.place⟩,e):=fun h=>⟨h,hs.2⟩
  refine bt (P:=Q) (fun _=>?_) fun _=>?_
  · refine lp0E (P:=Q) (fun _=>True) ?_ fun _=>hb (C.ma hq hs.1)
    refine bt (P:=LoP _ _) (fun _=>?_) fun _=>trivial
    refine bt (P:=LoP _ _) (fun _=>hn _) fun _=>?_
    exact bt (P:=LoP _ _) (fun _=>hn _) fun _=>trivial
  · refine bt (P:=Q) (fun _=>hb (C.dp hs.1)) fun _=>?_
    refine bt (P:=Q) (fun _=>hb (C.ub hs.1)) fun _=>?_
    refine lp0E (P:=Q) (fun _=>True) ?_ fun _=>hb (C.bd hw hs.1)
    refine lt1E (P:=LoP _ _) (fun _=>True) trivial fun v _=>?_
    refine bt (P:=LoP _ _) (fun _=>hn _) fun _=>?_
    exact bt (P:=LoP _ _) (fun _=>hn _) fun _=>trivial
theorem pull_c (h:StOk s) (hs:Cl B K M s):Cl B K M (C1_ s d).1:=by
  unfold C1_ lt
  let Q:C_×Ae_×Int->Prop:=fun r=>Cl B K M r.1
  refine bt (P:=Q) (fun _=>hs) fun _=>bt (P:=Q) (fun _=>hs) fun _=>bt (P:=Q) (fun _=>hs) fun _=>?_
  let I:C_->Prop:=fun x=>StOk x/\Cl B K M x
  have h2:Cl B K M (⟨(⟨s.x.book,s.x.stock,s.x.notes,(A16.set s.x.seen d.number ((d.frm).toNat)),s.x.spent⟩:K_),s.policy,s.place⟩:C_):=hs
  refine lt1E (P:=Q) I ?_ fun x hx=>?_
  · exact bt (P:=I) (fun _=>⟨(I9_ (Cg_ h)).1,Cl.note C h2 (by decide)⟩) fun _=>⟨Cg_ h,h2⟩
  · refine bt (P:=Q) (fun _=>Cl.note C hx.2 (by decide)) fun _=>?_
    have h1:=Ln_ (s:=x) (m:=⟨(H_ d.mail).id,(H_ d.mail).shop,(H_ d.mail).key,(H_ d.mail).head,(H_ d.mail).body,(H_ d.mail).due,IntKind.wrap .u8 ((H_ d.mail).hops+1)⟩) (tick:=d.tick) hx.1 (Lq_ _)
    have hl:=Lm_ (s:=x) (m:=⟨(H_ d.mail).id,(H_ d.mail).shop,(H_ d.mail).key,(H_ d.mail).head,(H_ d.mail).body,(H_ d.mail).due,IntKind.wrap .u8 ((H_ d.mail).hops+1)⟩) (tick:=d.tick) hx.1
    exact Tx_ C h1.1 ⟨by omega,h1.2.1⟩ (send_c C hx.1 hx.2 (Lq_ _))
theorem do_c (hc:0<=d.code/\d.code<=255) (h:StOk s) (h0:0<=d.mail.hops) (hq:0<=d.shop.sort) (hw:∀ p∈d.bind.want,p.wf) (hs:Cl B K M s):Cl B K M (Bh_ s d).1:=by
  unfold Bh_ lt
  let Q:C_×Ae_×Int->Prop:=fun r=>Cl B K M r.1
  refine bt (P:=Q) (fun e=>hs) fun _=>?_
  let I:Int×C_×Ae_->Prop:=fun r=>Cl B K M r.2.1
  refine lt3E (P:=Q) I ?_ fun a b c hb=>bt (P:=Q) (fun e=>hs) fun e=>hb
  refine lt1E (P:=I) (fun v:Bool=>True) trivial fun v hv=>?_
  refine bt (P:=I) (fun e=>queues_c C hs) fun _=>bt (P:=I) (fun e=>put_c C h h0 hs) fun _=>bt (P:=I) (fun e=>lend_c C hs) fun _=>bt (P:=I) (fun e=>settle_c C h hs) fun _=>bt (P:=I) (fun e=>late_c C h hs) fun _=>bt (P:=I) (fun e=>pull_c C h hs) fun _=>?_
  refine bt (P:=I) (fun _=>Cl.note C (s:=⟨⟨s.x.book,Er_ s.x.stock,s.x.notes,s.x.seen,s.x.spent⟩,s.policy,s.place⟩) (hs.stock (C.kw h.stk hs.2.1)) (by decide)) fun _=>bt (P:=I) (fun _=>⟨hs.1,hs.2.1,C.na hc hs.2.2⟩) fun _=>shops_c C hq hw hs
end
end
def BiB (y:BindR):Prop:=y.shop.length<=16/\En_ y.to'=0/\y.key.length<=64/\Fu_ y.want=0/\∀ p∈y.want,p.wf
def BkB (b:BookR):Prop:=(∀ s∈b.shops,Lo_ s=0/\0<=s.sort)/\∀ y∈b.binds,BiB y
def RoB (k:E_):Prop:=∀ r∈k.rows,Do_ r.q=0
def NoB (n:A4_):Prop:=∀ x∈n.kept,x.text.length<=64/\0<=x.kind/\x.kind<=255
theorem Jy_ {s:Bs} (h:En_ s=0):s.length<=16:=by
  unfold En_ at h
  split at h
  · cases h
  · split at h
    · cases h
    · omega
theorem keyE_len {l:List Bs} {s:Bs} (h:keyE l s=0):s.length<=64:=by
  unfold keyE at h
  split at h
  · cases h
  · omega
theorem Sg_ {x:ShopR} (h:Lo_ x=0):x.name.length<=16/\x.to'.length<=16/\x.sort<=4:=by
  unfold Lo_ at h
  split at h
  · rename_i q;exact (q h).elim
  · rename_i q
    split at h
    · cases h
    · refine⟨Jy_ (by simpa using q),?_,by omega⟩
      split at h
      · exact Jy_ h
      · split at h
        · cases h
        · rename_i q2;rw[show x.to'=[] by simpa using q2];simp
theorem qcheck_f {q:QueueR} (h:Do_ q=0):q.name.length<=16/\q.dead.length<=16/\1<=q.most/\q.most<=64:=by
  unfold Do_ at h
  by_cases q1:En_ q.name=0
  · rw[decide_eq_true q1] at h
    simp only[Bool.not_true,cond_false] at h
    cases e:(decide (q.most<1) || decide (64<q.most)) with
    |true=>rw[e] at h;cases h
    |false=>
      rw[e] at h
      simp only[cond_false] at h
      simp only[Bool.or_eq_false_iff,decide_eq_false_iff_not] at e
      refine⟨Jy_ q1,?_,by omega,by omega⟩
      by_cases q2:q.dead=[]
      · rw[q2];simp
      · rw[decide_eq_false q2] at h;exact Jy_ h
  · rw[decide_eq_false q1] at h;exact (q1 h).elim
theorem mem_td {α:Type} {l:List α} {a b:Nat} {x:α} (h:x∈[l.take a,l.drop b].flatten):x∈l:=by
  simp only[List.flatten_cons,List.flatten_nil,List.append_nil,List.mem_append] at h
  rcases h with h|h
  · exact List.mem_of_mem_take h
  · exact List.mem_of_mem_drop h
theorem U4_ {α:Type} {l:List α} {y x:α} (h:x∈[l,[y]].flatten):x∈l\/x=y:=by
  simpa using h
theorem P9_ (f:BindR->Bool):∀ (t out:List BindR) (y:BindR),y∈A0_ f t out->y∈out\/y∈t
  |[],out,y,h=> .inl h
  |x::t,out,y,h=>by
    unfold A0_ at h
    cases e:f x with
    |true=>
      rw[e] at h
      rcases P9_ f t _ y h with q|q
      · rcases List.mem_append.1 q with q|q
        · exact .inl q
        · exact .inr (by rw[List.mem_singleton.1 q];simp)
      · exact .inr (by simp[q])
    |false=>
      rw[e] at h
      rcases P9_ f t _ y h with q|q
      · exact .inl q
      · exact .inr (by simp[q])
theorem ruleE_f {r:Rule} (h:Se_ r=0):r.key.length<=64/\Fu_ r.want=0:=by
  unfold Se_ at h
  split at h
  · cases h
  · split at h
    · split at h
      · rename_i q;exact (q h).elim
      · rename_i q;exact⟨keyE_len (by simpa using q),h⟩
    · split at h
      · rename_i q;exact (q h).elim
      · rename_i q;exact⟨keyE_len (by simpa using q),h⟩
theorem shopOf_mem {l:List ShopR} {n:Bs} (h:(Ft_ l n).isSome=true):∃ s∈l,s.name=n:=by
  obtain⟨s,hs⟩:=Option.isSome_iff_exists.1 h
  exact⟨s,List.mem_of_find?_eq_some hs,by simpa using List.find?_some hs⟩
theorem M2_ {s:E_} {k:Int} {l:LineR} (h:RoB s):RoB (Ac_ s k l):=fun r hr=>by
  have hr:r∈s.rows.set k.toNat ⟨(gt s.rows k.toNat).q,l⟩:=hr
  by_cases q:k.toNat<s.rows.length
  · rcases List.mem_or_eq_of_mem_set hr with e|e
    · exact h r e
    · rw[e];exact h (gt s.rows k.toNat) (List.mem_of_getElem? (getG q))
  · rw[List.set_eq_of_length_le (by omega)] at hr;exact h r hr
theorem rob_wake:∀ (t:List RowR) (k:Nat) (x:E_),RoB x->RoB (Br_ t k x)
  |[],_,_,h=>h
  |_::t,k,_,h=>rob_wake t (k+1) _ (M2_ h)
theorem cloB:Clo BkB RoB NoB where
  ma:=fun {b x} hq h=>by
    unfold By_
    let Q:BookR×Int->Prop:=fun r=>BkB r.1
    refine bt (P:=Q) (fun _=>h) fun e=>bt (P:=Q) (fun _=>h) fun _=>bt (P:=Q) (fun _=>h) fun _=>bt (P:=Q) (fun _=>h) fun _=>⟨fun s hs=>?_,h.2⟩
    rcases U4_ hs with q|q
    · exact h.1 s q
    · rw[q];exact⟨by simpa using e,hq⟩
  bd:=fun {b x} hw h=>by
    unfold Ay_ lt
    let Q:BookR×Int->Prop:=fun r=>BkB r.1
    refine bt (P:=Q) (fun _=>h) fun e1=>bt (P:=Q) (fun _=>h) fun _=>bt (P:=Q) (fun _=>h) fun e2=>bt (P:=Q) (fun _=>h) fun e3=>bt (P:=Q) (fun _=>h) fun _=>bt (P:=Q) (fun _=>h) fun _=>⟨h.1,fun y hy=>?_⟩
    rcases U4_ hy with q|q
    · exact h.2 y q
    · rw[q]
      obtain⟨s,hs,hn⟩:=shopOf_mem (by simpa using e1)
      have hr:=ruleE_f (by simpa using e3)
      exact⟨by rw[<- hn];exact (Sg_ (h.1 s hs).1).1,by simpa using e2,hr.1,hr.2,hw⟩
  dp:=fun {b n} h=>by
    unfold Dw_ lt
    let Q:BookR×Int->Prop:=fun r=>BkB r.1
    refine bt (P:=Q) (fun _=>h) fun _=>⟨fun s hs=>h.1 s (mem_td hs),fun y hy=>?_⟩
    rcases P9_ _ _ _ y hy with q|q
    · cases q
    · exact h.2 y q
  ub:=fun {b x} h=>by
    unfold C5_ lt
    let Q:BookR×Int->Prop:=fun r=>BkB r.1
    exact bt (P:=Q) (fun _=>h) fun _=>⟨h.1,fun y hy=>h.2 y (mem_td hy)⟩
  fg:=fun {b q} h=>⟨h.1,fun y hy=>by
    rcases P9_ _ _ _ y hy with q|q
    · cases q
    · exact h.2 y q⟩
  km:=fun {k q} h=>by
    unfold A3_ lt
    let Q:E_×Int->Prop:=fun r=>RoB r.1
    refine bt (P:=Q) (fun _=>h) fun e=>bt (P:=Q) (fun _=>h) fun _=>bt (P:=Q) (fun _=>h) fun _=>bt (P:=Q) (fun _=>h) fun _=>fun r hr=>?_
    rcases U4_ hr with q|q
    · exact h r q
    · rw[q];simpa using e
  kd:=fun {k n} h=>by
    unfold Di_ lt
    let Q:E_×Int->Prop:=fun r=>RoB r.1
    exact bt (P:=Q) (fun _=>h) fun _=>fun r hr=>h r (mem_td hr)
  kp:=fun {k n m} _ h=>by
    unfold Az_ lt
    let Q:E_×Int×Mail×Int->Prop:=fun r=>RoB r.1
    refine bt (P:=Q) (fun _=>h) fun _=>bt (P:=Q) (fun _=>h) fun _=>bt (P:=Q) (fun _=>h) fun _=>?_
    refine lp2E (P:=Q) (fun _=>True) ?_ fun x x1 _=>?_
    · exact bt (P:=LoP _ _) (fun _=>bt (P:=LoP _ _) (fun _=>h) fun _=>trivial) fun _=>trivial
    · exact bt (P:=Q) (fun _=>h) fun _=>bt (P:=Q) (fun _=>h) fun _=>fun r hr=>M2_ (k:=X_ k n) h r hr
  kl:=fun {k n} h=>by
    unfold B8_ lt
    let Q:E_×ItemR×Bool->Prop:=fun r=>RoB r.1
    exact bt (P:=Q) (fun _=>h) fun _=>M2_ h
  kr:=fun {k n i} h=>by
    unfold Ad_ lt
    let Q:E_×ItemR×Int->Prop:=fun r=>RoB r.1
    exact bt (P:=Q) (fun _=>h) fun _=>M2_ h
  kb:=fun {k n i} h=>by
    unfold Dh_ lt
    let Q:E_×Int->Prop:=fun r=>RoB r.1
    exact bt (P:=Q) (fun _=>h) fun _=>M2_ h
  ks:=fun {k p m} h=>by
    unfold Bm_ lt
    let Q:E_×Int->Prop:=fun r=>RoB r.1
    exact bt (P:=Q) (fun _=>h) fun _=>bt (P:=Q) (fun _=>h) fun _=>bt (P:=Q) (fun _=>h) fun _=>h
  kw:=fun {k} _ h=>rob_wake _ _ _ h
  na:=fun {n x} hk h=>by
    unfold Cu_
    let Q:A4_×Int->Prop:=fun r=>NoB r.1
    refine bt (P:=Q) (fun _=>h) fun e=>bt (P:=Q) (fun _=>h) fun _=>fun y hy=>?_
    simp only[decide_eq_false_iff_not] at e
    rcases U4_ (List.mem_of_mem_drop hy) with q|q
    · exact h y q
    · rw[q];exact⟨by omega,hk⟩
def StB (s:C_):Prop:=Cl BkB RoB NoB s
theorem doB {s:C_} {d:DeedR} (hc:0<=d.code/\d.code<=255) (h:StOk s) (h0:0<=d.mail.hops) (hq:0<=d.shop.sort) (hw:∀ p∈d.bind.want,p.wf) (hs:StB s):StB (Bh_ s d).1:=do_c cloB hc h h0 hq hw hs
theorem newB (p:PolicyR) (k:Int):StB (A8_ p k):=⟨⟨(fun _ h=>by cases h),fun _ h=>by cases h⟩,(fun _ h=>by cases h),fun _ h=>by cases h⟩
variable {r r':Bs}
theorem app_pf {a b:Bs} (hl:a.length=b.length) (h:a++r=b++r'):r=r':=(List.append_inj h hl).2
theorem Tf_ {k n m:Nat} (h:numB k n++r=numB k m++r'):r=r':=app_pf (by rw[Q_,Q_]) h
theorem Zd_ {n m:Nat} (hn:n<=255) (hm:m<=255) (h:numB 1 n++r=numB 1 m++r'):n=m/\r=r':=by
  have h1:=Wc_ (n:=n) (r:=r) hn
  rw[h,Wc_ hm] at h1
  injection h1 with h2 h3
  injection h3 with h4
  exact⟨by omega,h4.symm⟩
theorem num4_pf {n m:Nat} (hn:n<4294967296) (hm:m<4294967296) (h:numB 4 n++r=numB 4 m++r'):n=m/\r=r':=by
  have e:(256:Int) ^ 4=4294967296:=by decide
  have h1:=It_ (r:=r) (n:=(n:Int)) (k:=4) (by decide) (by omega) (by show (n:Int)<(256:Int) ^ 4;rw[e];omega) (by decide)
  have h2:=It_ (r:=r') (n:=(m:Int)) (k:=4) (by decide) (by omega) (by show (m:Int)<(256:Int) ^ 4;rw[e];omega) (by decide)
  rw[Int.toNat_natCast] at h1 h2
  rw[h,h2] at h1
  injection h1 with h3 h4
  injection h4 with h5
  exact⟨by omega,h5.symm⟩
theorem Tq_ {s t:Bs} (hs:s.length<=65535) (ht:t.length<=65535) (h:txtB s++r=txtB t++r'):s=t/\r=r':=by
  have h1:=Mu_ (s:=s) (r:=r) (m:=65535) (by omega) (by omega)
  have h2:=Mu_ (s:=t) (r:=r') (m:=65535) (by omega) (by omega)
  simp only[txtB,List.append_assoc] at h
  rw[h,h2] at h1
  injection h1 with h3 h4
  injection h4 with h5
  exact⟨h3.symm,h5.symm⟩
theorem head_pf {a b:List Pair} (ha:Fu_ a=0) (hb:Fu_ b=0) (wa:∀ p∈a,p.wf) (wb:∀ p∈b,p.wf) (h:Ax_ a++r=Ax_ b++r'):r=r':=by
  have h1:=Pn_ (r:=r) ha wa
  rw[h,Pn_ hb wb] at h1
  injection h1 with h3 h4
  injection h4 with h5
  exact h5.symm
theorem U1_ {α:Type} {f:α->Bs} {ok:α->Prop} (hf:∀ a b (r r':Bs),ok a->ok b->f a++r=f b++r'->r=r'):∀ (l m:List α) (r r':Bs),l.length=m.length->(∀ a∈l,ok a)->(∀ a∈m,ok a)->l.flatMap f++r=m.flatMap f++r'->r=r'
  |[],[],_,_,_,_,_,h=>h
  |[],_::_,_,_,h,_,_,_=>by cases h
  |_::_,[],_,_,h,_,_,_=>by cases h
  |a::l,b::m,r,r',hl,h1,h2,h=>by
    rw[List.flatMap_cons,List.flatMap_cons,List.append_assoc,List.append_assoc] at h
    exact U1_ hf l m r r' (by simpa using hl) (fun x hx=>h1 x (by simp[hx])) (fun x hx=>h2 x (by simp[hx])) (hf a b _ _ (h1 a (by simp)) (h2 b (by simp)) h)
def bitM (y:Bool):Nat:=if y then 1 else 0
def Zk_ (s:ShopR):Bs:=txtB s.name++(numB 1 s.sort.toNat++txtB s.to')
def Yb_ (y:BindR):Bs:=txtB y.shop++(txtB y.to'++(numB 1 (bitM y.up)++(txtB y.key++(Ax_ y.want++numB 1 (bitM y.all)))))
def noteB (n:NoteR):Bs:=numB 8 n.tick.toNat++(numB 1 n.kind.toNat++txtB n.text)
theorem shop_pf (a b:ShopR) (r r':Bs) (ha:Lo_ a=0) (hb:Lo_ b=0) (h:Zk_ a++r=Zk_ b++r'):r=r':=by
  have h1:=Sg_ ha;have h2:=Sg_ hb
  simp only[Zk_,List.append_assoc] at h
  exact (Tq_ (by omega) (by omega) (Tf_ (Tq_ (by omega) (by omega) h).2)).2
theorem bind_pf (a b:BindR) (r r':Bs) (ha:BiB a) (hb:BiB b) (h:Yb_ a++r=Yb_ b++r'):r=r':=by
  obtain⟨h1,h2,h3,h4,h5⟩:=ha;obtain⟨g1,g2,g3,g4,g5⟩:=hb
  have :=Jy_ h2;have :=Jy_ g2
  simp only[Yb_,List.append_assoc] at h
  exact Tf_ (head_pf h4 g4 h5 g5 (Tq_ (by omega) (by omega) (Tf_ (Tq_ (by omega) (by omega) (Tq_ (by omega) (by omega) h).2).2)).2)
theorem note_pf (a b:NoteR) (r r':Bs) (ha:a.text.length<=64) (hb:b.text.length<=64) (h:noteB a++r=noteB b++r'):r=r':=by
  simp only[noteB,List.append_assoc] at h
  exact (Tq_ (by omega) (by omega) (Tf_ (Tf_ h))).2
def Te_ (n:A4_):Bs:=numB 8 n.total.toNat++(numB 1 n.kept.length++n.kept.flatMap noteB)
theorem notes_pf {a b:A4_} (ha:NoB a) (hb:NoB b) (la:a.kept.length<=255) (lb:b.kept.length<=255) (h:Te_ a++r=Te_ b++r'):r=r':=by
  simp only[Te_,List.append_assoc] at h
  obtain⟨h1,h2⟩:=Zd_ la lb (Tf_ h)
  exact U1_ (ok:=fun x:NoteR=>x.text.length<=64) note_pf _ _ _ _ h1 (fun x hx=>(ha x hx).1) (fun x hx=>(hb x hx).1) h2
def bookB (b:BookR):Bs:=numB 1 b.shops.length++(b.shops.flatMap Zk_++(numB 1 b.binds.length++b.binds.flatMap Yb_))
theorem book_pf {a b:BookR} (ha:BkB a) (hb:BkB b) (oa:BkOk a) (ob:BkOk b) (h:bookB a++r=bookB b++r'):r=r':=by
  simp only[bookB,List.append_assoc] at h
  have :=oa.1;have :=oa.2.1;have :=ob.1;have :=ob.2.1
  obtain⟨h1,h2⟩:=Zd_ (by omega) (by omega) h
  have h3:=U1_ (ok:=fun x:ShopR=>Lo_ x=0/\0<=x.sort) (fun a b r r' ha hb=>shop_pf a b r r' ha.1 hb.1) _ _ _ _ h1 ha.1 hb.1 h2
  obtain⟨h4,h5⟩:=Zd_ (by omega) (by omega) h3
  exact U1_ (ok:=BiB) bind_pf _ _ _ _ h4 ha.2 hb.2 h5
end Go.SW.V
namespace Go.SW.V
open Go.SW
end Go.SW.V
namespace Go.SW
def GPow (H:Hp) (g:Nat):Prop:=∃ T fr,H g=some (.cells (Go.Lib.pow10Tab.map (Value.int .u64)).toArray T fr)
theorem GPow.mono {H H':Hp} {g:Nat} (h:GPow H g) (hl:HLe H H'):GPow H' g:=by
  obtain⟨T,fr,e⟩:=h;exact⟨T,fr,hl _ _ e⟩
end Go.SW
namespace Go.SW
open Go.RowKit
variable {P:Program}
end Go.SW
namespace Go.SW.V
open Go.SW
def Pc_ (x:ItemR) (y:ItemR):Bool:=
 (((decide (x.mail=y.mail))&&(x.lent==y.lent))&&(x.again==y.again))
def Hp_ (s2:List BindR):List BindR->Nat->Bool
  |[],k=>true
  | x::t,k=>(bif !(decide (x=(gt s2 k))) then
 false
 else Hp_ s2 t (k+1))
def P5_ (s1:List BindR) (s2:List BindR):Bool:=
 (bif !decide ((s1.length:Int)=(s2.length:Int)) then
 false
 else Hp_ s2 s1 0)
def Hq_ (s2:List ItemR):List ItemR->Nat->Bool
  |[],k=>true
  | x::t,k=>(bif !(Pc_ x (gt s2 k)) then
 false
 else Hq_ s2 t (k+1))
def P6_ (s1:List ItemR) (s2:List ItemR):Bool:=
 (bif !decide ((s1.length:Int)=(s2.length:Int)) then
 false
 else Hq_ s2 s1 0)
def Hr_ (s2:List Mail):List Mail->Nat->Bool
  |[],k=>true
  | x::t,k=>(bif !(decide (x=(gt s2 k))) then
 false
 else Hr_ s2 t (k+1))
def P7_ (s1:List Mail) (s2:List Mail):Bool:=
 (bif !decide ((s1.length:Int)=(s2.length:Int)) then
 false
 else Hr_ s2 s1 0)
def Rj_ (a:LineR) (b:LineR):Bool:=
 (P6_ a.items b.items)
def Mi_ (a:RiseR) (b:RiseR):Bool:=
 ((decide (a.total=b.total))&&(P7_ a.kept b.kept))
def Pe_ (a:A4_) (b:A4_):Bool:=
 ((decide (a.total=b.total))&&(decide (a.kept=b.kept)))
def M3_ (a:BookR) (b:BookR):Bool:=
 ((decide (a.shops=b.shops))&&(P5_ a.binds b.binds))
def Nr_ (x:RowR) (y:RowR):Bool:=
 ((decide (x.q=y.q))&&(Rj_ x.l y.l))
def Id_ (s2:List RowR):List RowR->Nat->Bool
  |[],k=>true
  | x::t,k=>(bif !(Nr_ x (gt s2 k)) then
 false
 else Id_ s2 t (k+1))
def Ua_ (s1:List RowR) (s2:List RowR):Bool:=
 (bif !decide ((s1.length:Int)=(s2.length:Int)) then
 false
 else Id_ s2 s1 0)
def Jj_ (a:E_) (b:E_):Nat->Nat->Bool
  |0,_=>default
  | f2+1,v=>(bif decide ((v:Int)<16) then
 (bif !(Mi_ (A16.get a.rises v) (A16.get b.rises v)) then
 false
 else Jj_ a b f2 (v+1))
 else true)
def M4_ (a:E_) (b:E_):Bool:=
 (bif (((!decide (a.next = b.next))||(!decide (a.bytes=b.bytes)))||(!(Ua_ a.rows b.rows))) then
 false
 else Jj_ a b (16-0+1) 0)
def M5_ (a:K_) (b:K_):Bool:=
 (((((M3_ a.book b.book)&&(M4_ a.stock b.stock))&&(Pe_ a.notes b.notes))&&(decide (a.seen=b.seen)))&&(decide (a.spent=b.spent)))
def Eq_ (b:BookR):(List ShopR):=
 b.shops
def Bq_:List BindR->List BindR->(List BindR)
  |[],out=>out
  |x::t,out=>Bq_ t (out++[x])
def C0_ (b:BookR):(List BindR):=
 Bq_ b.binds []
end Go.SW.V
namespace Go.SW
variable {P:Program} {n:Nat} {N:Rest} {H0:Env} {all rest:List Oper} {Q:Qs} {ks:List Kt} {T ty d:Nat} {pos:String} {af:Array Edge} {x:Operand} {K:St->Prop}
end Go.SW
namespace Go.SW.V
open Go.SW
variable {P:Program} {n:Nat} {N:Rest} {H0:Env} {all rest:List Oper} {Q:Qs} {ks:List Kt} {fF:Nat->PV} {fL:Nat->Blk} {T ty d:Nat} {pos:String} {af:Array Edge} {x:Operand} {K:St->Prop}
end Go.SW.V
namespace Go.SW.V
open Go.SW
theorem Vp_:∀ (l out:List BindR),Bq_ l out=out++l
  |[],out=>by simp[Bq_]
  |x::t,out=>by unfold Bq_;rw[Vp_ t];simp
theorem Tt_ (b:BookR):C0_ b=b.binds:=by unfold C0_;rw[Vp_];rfl
theorem Ve_ (b:BookR):Eq_ b=b.shops:=rfl
theorem headE_len {h:List Pair} (e:Fu_ h=0):h.length<=8:=by
  unfold Fu_ at e
  split at e
  · cases e
  · omega
theorem bk_want {b:BookR} (h:BkOk b) (k:BkB b):b.binds.length<=1000/\∀ y∈b.binds,y.want.length<=1000:=
  ⟨by have :=h.2.1;omega,fun y hy=>by have :=headE_len (k.2 y hy).2.2.2.1;omega⟩
def Rg_:Bool:=
 (Oc_)
theorem V0_ {l:List DeedR} {k:Nat} {d:DeedR} (h:(PV.sl DeedR.pc l).wf) (hd:l[k]? = some d):0<=d.shop.sort:=by
  have :=(h.2 d (List.mem_of_getElem? hd)).2.2.2.1
  exact this.1
theorem V1_ {l:List DeedR} {k:Nat} {d:DeedR} (h:(PV.sl DeedR.pc l).wf) (hd:l[k]? = some d):∀ p∈d.bind.want,p.wf:=fun p hp=>by
  have :=(h.2 d (List.mem_of_getElem? hd)).2.2.2.2.2.2.2.2.2.2.2.2.2.1
  exact Pair.pwf (this.2 p hp)
theorem Vy_ {l:List DeedR} {k:Nat} {d:DeedR} (h:(PV.sl DeedR.pc l).wf) (hd:l[k]? = some d):0<=d.code/\d.code<=255:=by
  have :=(h.2 d (List.mem_of_getElem? hd)).2.2.2.2.2.2.2.2.2.2.2.2.2.2.2.2.2.2.2.1
  exact this
theorem Pp_:∀ (l:List PlaceR),Fn_ l=true->∀ y∈l,y.name.length<=40
  |[],_,y,h=>by cases h
  |x::t,h,y,hy=>by
    unfold Fn_ at h
    cases e:decide (40<(x.name.length:Int)) with
    |true=>rw[e] at h;cases h
    |false=>
      rw[e] at h
      rcases List.mem_cons.1 hy with q|q
      · rw[q];have :=of_decide_eq_false e;omega
      · exact Pp_ t h y q
theorem may_names {p:PolicyR} (h:Kq_ p=true):∀ y∈p.places,y.name.length<=300:=by
  unfold Kq_ at h
  rw[Bool.and_eq_true] at h
  have h1:=h.1
  unfold Jt_ at h1
  cases e:(decide (20<(p.places.length:Int)) || decide (40<(p.slots.length:Int)) || decide (10<(p.grants.length:Int))) with
  |true=>rw[e] at h1;cases h1
  |false=>
    rw[e] at h1
    intro y hy
    have :=Pp_ _ h1 y hy
    omega
theorem l05_may2 {p:PolicyR} (h:Kq_ p=true):PoOk p/\0<p.places.length/\p.places.length<=16/\0<p.slots.length/\p.slots.length<=32/\p.grants.length<=8/\∀ y∈p.places,y.name.length<=300:=by
  obtain⟨a,b,c,d,e,f⟩:=l05_may h
  exact⟨a,b,c,d,e,f,may_names h⟩
def D4_ (yes:Bool):Int:=
 (bif yes then
 1
 else 0)
def Fh_ (x:ItemR):Int:=
 (bif x.lent then
 (bif x.again then
 (IntKind.wrap .u64 (1+2))
 else 1)
 else (bif x.again then
 (IntKind.wrap .u64 (0+2))
 else 0))
def An_:List NoteR->Out->Bs
  |[],x=>x.s
  |x1::t,x=>An_ t (D_ (B_ (B_ x (x1.tick) 8) (x1.kind) 1) (x1.text))
def Bw_ (n:A4_):Bs:=
 An_ n.kept (B_ (B_ (⟨[],0⟩:Out) n.total 8) (n.kept.length:Int) 1)
def B1_:List Mail->Out->Bs
  |[],x1=>x1.s
  |x2::t,x1=>B1_ t (W_ x1 (B3_ x2))
def Cv_ (x:RiseR):Bs:=
 B1_ x.kept (B_ (B_ (⟨[],0⟩:Out) x.total 8) (x.kept.length:Int) 1)
def G5_:List ItemR->LineR->LineR×Int
  |[],x=>(x,0)
  |x1::t,x=>lt (Ew_ x x1) fun r=>
 (bif !decide (r.2=0) then
 ((⟨[]⟩:LineR),r.2)
 else G5_ t r.1)
def Pb_ (items:List ItemR):LineR×Int:=
 G5_ items (⟨[]⟩:LineR)
theorem Li_ (i:In):MlOk (Dv_ i).1:=by
  unfold Dv_
  dsimp only
  split
  · split
    · rename_i h
      by_cases hc:Gy_ ⟨(J_ i 8).1,(I_ (J_ i 8).2 16).1,(I_ (I_ (J_ i 8).2 16).2 64).1,(Aw_ (I_ (I_ (J_ i 8).2 16).2 64).2).1,(I_ (Aw_ (I_ (I_ (J_ i 8).2 16).2 64).2).2 256).1,(J_ (I_ (Aw_ (I_ (I_ (J_ i 8).2 16).2 64).2).2 256).2 8).1,(J_ (J_ (I_ (Aw_ (I_ (I_ (J_ i 8).2 16).2 64).2).2 256).2 8).2 1).1⟩=0
      · exact mlOk_of hc (Ah_ _ _).1
      · exact (Is_ hc h).elim
    · exact Ge_
  · exact Ge_
theorem mls_nil:∀ y∈([]:List ItemR),MlOk y.mail:=fun _ h=>by cases h
theorem Zb_ {l:List ItemR} {x:ItemR} (h:∀ y∈l,MlOk y.mail) (hx:MlOk x.mail):∀ y∈l++[x],MlOk y.mail:=fun y hy=>by
  rcases List.mem_append.1 hy with q|q
  · exact h y q
  · rw[List.mem_singleton.1 q];exact hx
theorem lof_ok0:∀ (t:List ItemR) (l:LineR),LnOk l->(∀ y∈t,MlOk y.mail)->LnOk (G5_ t l).1
  |[],_,h,_=>h
  |x::t,l,h,hx=>by
    unfold G5_ lt
    refine bt (P:=fun r:LineR×Int=>LnOk r.1) (fun _=>Ok_) fun _=>?_
    exact lof_ok0 t _ (lput_ok h (hx x (by simp)).2.1) fun y hy=>hx y (by simp[hy])
theorem lof_ok {t:List ItemR} (h:∀ y∈t,MlOk y.mail):LnOk (Pb_ t).1:=lof_ok0 t _ Ok_ h
theorem nb_len0:∀ (t:List NoteR) (x:Out),(∀ y∈t,y.text.length<=64)->(An_ t x).length<=x.s.length+100*t.length
  |[],x,_=>by simp[An_]
  |y::t,x,h=>by
    have h1:=nb_len0 t (D_ (B_ (B_ x (y.tick) 8) (y.kind) 1) (y.text)) (fun z hz=>h z (by simp[hz]))
    have h2:=U_ (B_ (B_ x (y.tick) 8) (y.kind) 1) y.text
    have h3:=F_ (B_ x (y.tick) 8) (y.kind) 1
    have h4:=F_ x (y.tick) 8
    have h5:=h y (by simp)
    rw[An_]
    simp only[List.length_cons]
    omega
theorem nb_len {n:A4_} (hn:n.kept.length<=32) (h:NoB n):(Bw_ n).length<=4000:=by
  have h1:=nb_len0 n.kept (B_ (B_ (⟨[],0⟩:Out) n.total 8) (n.kept.length:Int) 1) (fun y hy=>(h y hy).1)
  have h2:=F_ (B_ (⟨[],0⟩:Out) n.total 8) (n.kept.length:Int) 1
  have h3:=F_ (⟨[],0⟩:Out) n.total 8
  have h4:(⟨[],0⟩:Out).s.length=0:=rfl
  unfold Bw_
  omega
theorem rb_len0:∀ (t:List Mail) (x:Out),(B1_ t x).length<=x.s.length+3000*t.length
  |[],x=>by simp[B1_]
  |y::t,x=>by
    have h1:=rb_len0 t (W_ x (B3_ y))
    have h2:=C3_ x (B3_ y)
    have h3:=Ex_ y
    rw[B1_]
    simp only[List.length_cons]
    omega
theorem rb_len {x:RiseR} (h:RiOk x):(Cv_ x).length<=50000:=by
  have h1:=rb_len0 x.kept (B_ (B_ (⟨[],0⟩:Out) x.total 8) (x.kept.length:Int) 1)
  have h2:=F_ (B_ (⟨[],0⟩:Out) x.total 8) (x.kept.length:Int) 1
  have h3:=F_ (⟨[],0⟩:Out) x.total 8
  have h4:(⟨[],0⟩:Out).s.length=0:=rfl
  have h5:=h.1
  unfold Cv_
  omega
theorem mks_app {l:List Mail} {x:Mail} (h:∀ y∈l,MlOk y) (hx:MlOk x):∀ y∈l++[x],MlOk y:=fun y hy=>by
  rcases List.mem_append.1 hy with q|q
  · exact h y q
  · rw[List.mem_singleton.1 q];exact hx
theorem mks_nil:∀ y∈([]:List Mail),MlOk y:=fun _ h=>by cases h
def ImOk (x:K_):Prop:=BkOk x.book/\BkB x.book/\StkOk x.stock/\RoB x.stock/\x.notes.kept.length<=32/\NoB x.notes
def DdG (d:DeedR):Prop:=DdOk d/\0<=d.code/\d.code<=255/\0<=d.mail.hops/\0<=d.shop.sort/\∀ p∈d.bind.want,p.wf
def DdsG (i:In) (l:List DeedR):Prop:=i.err=0->∀ d∈l,DdG d
theorem ddq (q:QueueR):DdG (⟨2,0,(⟨[],0,[]⟩:ShopR),q,(⟨[],[],false,[],[],false⟩:BindR),[],0,0,0,0,0,(⟨0,[],[],[],[],0,0⟩:Mail),[]⟩:DeedR):=
  ⟨⟨by simp,by simp,by simp,by simp⟩,by simp,by simp,by simp,by simp,fun _ h=>by cases h⟩
theorem dds_nil (i:In):DdsG i []:=fun _ _ h=>by cases h
theorem dds_app {i j:In} {l:List DeedR} {d:DeedR} (h:DdsG i l) (he:j.err=0->i.err=0/\DdG d):DdsG j (l++[d]):=fun e y hy=>by
  obtain⟨e1,e2⟩:=he e
  rcases List.mem_append.1 hy with q|q
  · exact h e1 y q
  · rw[List.mem_singleton.1 q];exact e2
theorem Z5_ {i:In} {r1 r2 r3:_} {l:List DeedR} (h:DdsG i l) (h1:I_ i 16=r1) (h2:J_ r1.2 1=r2) (h3:I_ r2.2 16=r3):DdsG r3.2 (l++[(⟨0,0,(⟨r1.1,r2.1,r3.1⟩:ShopR),(⟨[],0,0,[]⟩:QueueR),(⟨[],[],false,[],[],false⟩:BindR),[],0,0,0,0,0,(⟨0,[],[],[],[],0,0⟩:Mail),[]⟩:DeedR)]):=by
  refine dds_app h fun e=>?_
  subst h3
  have e2:=(Kw_ e).1
  subst h2
  have e1:=(Le_ e2).1
  subst h1
  exact⟨(Kw_ e1).1,⟨by simp,by simp,by simp,by simp⟩,by simp,by simp,by simp,(Ah_ _ _).1,fun _ h=>by cases h⟩
theorem Z4_ {i:In} {r5 r6 r7 r8 r9 r10:_} {l:List DeedR} (h:DdsG i l) (h5:I_ i 16=r5) (h6:I_ r5.2 16=r6) (h7:J_ r6.2 1=r7) (h8:I_ r7.2 64=r8) (h9:Aw_ r8.2=r9) (h10:J_ r9.2 1=r10):DdsG r10.2 (l++[(⟨4,0,(⟨[],0,[]⟩:ShopR),(⟨[],0,0,[]⟩:QueueR),(⟨r5.1,r6.1,decide (r7.1=1),r8.1,r9.1,decide (r10.1=1)⟩:BindR),[],0,0,0,0,0,(⟨0,[],[],[],[],0,0⟩:Mail),[]⟩:DeedR)]):=by
  refine dds_app h fun e=>?_
  subst h10
  have e9:=(Le_ e).1
  subst h9
  obtain⟨e8,_,hd⟩:=Uo_ e9
  subst h8
  have k8:=Kw_ e8
  subst h7
  have e6:=(Le_ k8.1).1
  subst h6
  have e5:=(Kw_ e6).1
  subst h5
  refine⟨(Kw_ e5).1,⟨?_,?_,by simp,by simp⟩,by simp,by simp,by simp,by simp,Yr_ _⟩
  · have :=k8.2.2;show (I_ _ 64).1.length<=1000;omega
  · have :=(La_ hd).1;show (Aw_ _).1.length<=1000;omega
def Av_:List ItemR->Out->Out
  |[],x2=>x2
  |x3::t,x2=>Av_ t (W_ (B_ x2 (Fh_ x3) 1) (B3_ (x3.mail)))
def C9_ (s:E_) (x:Out):Nat->Int->Nat->Out->Bs
  |0,_,_,_=>default
  | f2+1,many,v,x4=>(bif decide ((v:Int)<16) then
 lt (J2_ (A16.get s.rises v)) fun r1=>
 (bif decide (0<r1) then
 C9_ s x f2 (IntKind.wrap .u64 (many+1)) (v+1) (W_ (B_ x4 (v:Int) 1) (Cv_ (A16.get s.rises v)))
 else C9_ s x f2 many (v+1) x4)
 else ((W_ (B_ x many 1) x4.s).s))
def A7_ (s:E_):List RowR->Out->Bs
  |[],x=>C9_ s x (16-0+1) 0 0 (⟨[],0⟩:Out)
  | x5::t1,x=>(lt1 (lt (Ea_ (x5.l)) fun r=>
 Av_ r (B_ (D_ (B_ (B_ (D_ x (x5.q.name)) (x5.q.most) 8) (x5.q.life) 8) (x5.q.dead)) (IntKind.wrap .u64 (Eb_ (x5.l))) 1)) (fun x1=>
 A7_ s t1 x1))
def Bl_ (s:E_):Bs:=
 A7_ s s.rows (B_ (B_ (⟨[],0⟩:Out) s.next 8) (s.rows.length:Int) 1)
theorem kb_len1:∀ (t:List ItemR) (x:Out),(Av_ t x).s.length<=x.s.length+3100*t.length
  |[],x=>by simp[Av_]
  |y::t,x=>by
    have h1:=kb_len1 t (W_ (B_ x (Fh_ y) 1) (B3_ (y.mail)))
    have h2:=C3_ (B_ x (Fh_ y) 1) (B3_ (y.mail))
    have h3:=Ex_ y.mail
    have h4:=F_ x (Fh_ y) 1
    rw[Av_]
    simp only[List.length_cons]
    omega
theorem Yv_ {s:E_} (hs:StkOk s) (x:Out):∀ (f:Nat) (many:Int) (v:Nat) (x4:Out),(C9_ s x f many v x4).length<=x.s.length+8+x4.s.length+60000*(16-v)
  |0,_,_,_=>Nat.zero_le _
  |f+1,many,v,x4=>by
    rw[C9_]
    refine bt (P:=fun r:Bs=>r.length<=_) (fun e=>?_) fun e=>?_
    · simp only[decide_eq_true_eq] at e
      unfold lt
      refine bt (P:=fun r:Bs=>r.length<=_) (fun _=>?_) fun _=>?_
      · have h1:=Yv_ hs x f (IntKind.wrap .u64 (many+1)) (v+1) (W_ (B_ x4 (v:Int) 1) (Cv_ (A16.get s.rises v)))
        have h2:=C3_ (B_ x4 (v:Int) 1) (Cv_ (A16.get s.rises v))
        have h3:=F_ x4 (v:Int) 1
        have h4:=rb_len (hs.2.1 v (by omega))
        have h5:(Cv_ (A16.get s.rises v)).length<=50000:=h4
        omega
      · have h1:=Yv_ hs x f many (v+1) x4
        omega
    · have h2:=C3_ (B_ x many 1) x4.s
      have h3:=F_ x many 1
      omega
theorem kb_len0 {s:E_} (hs:StkOk s):∀ (t:List RowR) (x:Out),(∀ r∈t,LnOk r.l/\Do_ r.q=0)->(A7_ s t x).length<=x.s.length+200000*(t.length+5)
  |[],x,_=>by
    have h1:=Yv_ hs x (16-0+1) 0 0 (⟨[],0⟩:Out)
    have h4:(⟨[],0⟩:Out).s.length=0:=rfl
    rw[A7_]
    simp only[List.length_nil]
    omega
  |r::t,x,h=>by
    rw[A7_]
    obtain⟨hl,hq⟩:=h r (by simp)
    obtain⟨q1,q2,_,_⟩:=qcheck_f hq
    show (A7_ s t (Av_ (Ea_ r.l) (B_ (D_ (B_ (B_ (D_ x (r.q.name)) (r.q.most) 8) (r.q.life) 8) (r.q.dead)) (IntKind.wrap .u64 (Eb_ (r.l))) 1))).length<=_
    have h7:=U_ x (r.q.name)
    generalize D_ x (r.q.name)=o1 at h7 ⊢
    have h6:=F_ o1 (r.q.most) 8
    generalize B_ o1 (r.q.most) 8=o2 at h6 ⊢
    have h5:=F_ o2 (r.q.life) 8
    generalize B_ o2 (r.q.life) 8=o3 at h5 ⊢
    have h4:=U_ o3 (r.q.dead)
    generalize D_ o3 (r.q.dead)=o4 at h4 ⊢
    have h3:=F_ o4 (IntKind.wrap .u64 (Eb_ (r.l))) 1
    generalize B_ o4 (IntKind.wrap .u64 (Eb_ (r.l))) 1=o5 at h3 ⊢
    have h8:=all_len hl
    have h2:=kb_len1 (Ea_ r.l) o5
    generalize Av_ (Ea_ r.l) o5=o6 at h2 ⊢
    have h1:=kb_len0 hs t o6 (fun z hz=>h z (by simp[hz]))
    refine Nat.le_trans h1 ?_
    clear h1
    generalize (Ea_ r.l).length=n at h2 h8
    simp only[List.length_cons]
    omega
theorem kb_len {s:E_} (hs:StkOk s) (hq:RoB s):(Bl_ s).length<=3000000:=by
  unfold Bl_
  have h3:=F_ (⟨[],0⟩:Out) s.next 8
  have h4:(⟨[],0⟩:Out).s.length=0:=rfl
  generalize B_ (⟨[],0⟩:Out) s.next 8=o1 at h3 ⊢
  have h2:=F_ o1 (s.rows.length:Int) 1
  generalize B_ o1 (s.rows.length:Int) 1=o2 at h2 ⊢
  have h1:=kb_len0 hs s.rows o2 (fun r hr=>⟨hs.1.2.1 r hr,hq r hr⟩)
  have h5:=hs.1.1
  refine Nat.le_trans h1 ?_
  clear h1
  omega
theorem Cp_ {z:Int} (h0:0<=z) (h1:z<=18446744073709551615):IntKind.wrap .u64 z=z:=N2_ ⟨h0,h1⟩
def Hz_ (r1:Int×In):Nat->Int->Int->List Mail->In->RiseR×In
  |0,_,_,_,_=>default
  | f2+1,k,total,kept,x1=>(bif ((decide (k<r1.1))&&(decide (x1.err=0))) then
 lt (Dv_ x1) fun r2=>
 Hz_ r1 f2 (IntKind.wrap .u64 (k+1)) total (kept++[r2.1]) r2.2
 else (bif !decide (x1.err=0) then
 ((⟨0,[]⟩:RiseR),x1)
 else ((⟨total,kept⟩:RiseR),x1)))
def I1_ (i:In):RiseR×In:=
 lt (J_ i 8) fun r=>
 lt (J_ r.2 1) fun r1=>
 (lt1 ((bif !decide (r1.2.err=0) then
 r1.2
 else (bif decide (16<r1.1) then
 (Ai_ r1.2 6)
 else (bif !decide (r1.1=(min r.1 16)) then
 (Ai_ r1.2 7)
 else r1.2)))) (fun x=>
 Hz_ r1 ((r1.1-0).toNat+1) 0 r.1 [] x))
def Ey_ (r1:Int×In):Nat->Int->Int->List NoteR->In->A4_×In
  |0,_,_,_,_=>default
  | f2+1,k,total,kept,x1=>(bif ((decide (k<r1.1))&&(decide (x1.err=0))) then
 lt (J_ x1 8) fun r2=>
 lt (J_ r2.2 1) fun r3=>
 lt (I_ r3.2 64) fun r4=>
 Ey_ r1 f2 (IntKind.wrap .u64 (k+1)) total (kept++[(⟨r2.1,r3.1,r4.1⟩:NoteR)]) r4.2
 else (bif !decide (x1.err=0) then
 ((⟨0,[]⟩:A4_),x1)
 else ((⟨total,kept⟩:A4_),x1)))
def Cq_ (i:In):A4_×In:=
 lt (J_ i 8) fun r=>
 lt (J_ r.2 1) fun r1=>
 (lt1 ((bif !decide (r1.2.err=0) then
 r1.2
 else (bif decide (32<r1.1) then
 (Ai_ r1.2 6)
 else (bif !decide (r1.1=(min r.1 32)) then
 (Ai_ r1.2 7)
 else r1.2)))) (fun x=>
 Ey_ r1 ((r1.1-0).toNat+1) 0 r.1 [] x))
theorem Xt_ (r1:Int×In):∀ (f:Nat) (k total:Int) (kept:List Mail) (x:In),(∀ m∈kept,MlOk m)->(kept.length:Int)=k->k<=16->(x.err=0->r1.1<=16)->RiOk (Hz_ r1 f k total kept x).1
  |0,_,_,_,_,_,_,_,_=>⟨Nat.zero_le _,fun _ h=>by cases h⟩
  |f+1,k,total,kept,x,h,hk,h16,he=>by
    rw[Hz_]
    refine bt (P:=fun r:RiseR×In=>RiOk r.1) (fun e=>?_) fun e=>?_
    · simp only[Bool.and_eq_true,decide_eq_true_eq] at e
      have h1:=he e.2
      refine Xt_ r1 f _ _ _ _ (mks_app h (Li_ x)) ?_ ?_ (fun _=>h1)
      · rw[Cp_ (by omega) (by omega)]
        simp only[List.length_append,List.length_cons,List.length_nil]
        omega
      · rw[Cp_ (by omega) (by omega)];omega
    · refine bt (P:=fun r:RiseR×In=>RiOk r.1) (fun _=>Va_) fun _=>?_
      exact⟨by show kept.length<=16;omega,fun m hm=>(h m hm).1⟩
theorem P8_ {i:In} {c:Int} (h:(Ai_ i c).err=0):i.err=0/\c=0:=by
  by_cases hc:c=0
  · subst hc;rw[inFail_0] at h;exact⟨h,rfl⟩
  · exact (Is_ hc h).elim
theorem rread_ok (i:In):RiOk (I1_ i).1:=by
  unfold I1_ lt lt1
  refine Xt_ _ _ _ _ _ _ mks_nil rfl (by decide) fun e=>?_
  revert e
  refine bt (P:=fun j:In=>j.err=0->_) (fun e1 e2=>?_) fun e1=>bt (P:=fun j:In=>j.err=0->_) (fun e2 e3=>(Is_ (by decide) e3).elim) fun e2 _=>?_
  · simp only[Bool.not_eq_true',decide_eq_false_iff_not] at e1
    exact (e1 e2).elim
  · simp only[decide_eq_false_iff_not] at e2
    omega
theorem Xf_ (r1:Int×In):∀ (f:Nat) (k total:Int) (kept:List NoteR) (x:In),(x.err=0->NoB ⟨0,kept⟩)->(kept.length:Int)=k->k<=32->(x.err=0->r1.1<=32)->(Ey_ r1 f k total kept x).1.kept.length<=32/\NoB (Ey_ r1 f k total kept x).1
  |0,_,_,_,_,_,_,_,_=>⟨Nat.zero_le _,fun _ h=>by cases h⟩
  |f+1,k,total,kept,x,h,hk,h16,he=>by
    rw[Ey_]
    refine bt (P:=fun r:A4_×In=>r.1.kept.length<=32/\NoB r.1) (fun e=>?_) fun e=>?_
    · simp only[Bool.and_eq_true,decide_eq_true_eq] at e
      have h1:=he e.2
      unfold lt
      refine Xf_ r1 f _ _ _ _ (fun e4=>?_) ?_ ?_ (fun _=>h1)
      · intro y hy
        rcases List.mem_append.1 hy with q|q
        · exact h e.2 y q
        · rw[List.mem_singleton.1 q]
          have k1:=(Kw_ e4).2.2
          have k2:=Ah_ (J_ x 8).2 1
          refine⟨?_,k2.1,k2.2.2.2 (by decide)⟩
          show (I_ _ 64).1.length<=64
          omega
      · rw[Cp_ (by omega) (by omega)]
        simp only[List.length_append,List.length_cons,List.length_nil]
        omega
      · rw[Cp_ (by omega) (by omega)];omega
    · refine bt (P:=fun r:A4_×In=>r.1.kept.length<=32/\NoB r.1) (fun _=>⟨Nat.zero_le _,fun _ h=>by cases h⟩) fun e1=>?_
      simp only[Bool.not_eq_false',decide_eq_true_eq] at e1
      exact⟨by show kept.length<=32;omega,h e1⟩
theorem nread_ok (i:In):(Cq_ i).1.kept.length<=32/\NoB (Cq_ i).1:=by
  unfold Cq_ lt lt1
  refine Xf_ _ _ _ _ _ _ (fun _ _ h=>by cases h) rfl (by decide) fun e=>?_
  revert e
  refine bt (P:=fun j:In=>j.err=0->_) (fun e1 e2=>?_) fun e1=>bt (P:=fun j:In=>j.err=0->_) (fun e2 e3=>(Is_ (by decide) e3).elim) fun e2 _=>?_
  · simp only[Bool.not_eq_true',decide_eq_false_iff_not] at e1
    exact (e1 e2).elim
  · simp only[decide_eq_false_iff_not] at e2
    omega
theorem nread_e0 (r1:Int×In):∀ (f:Nat) (k total:Int) (kept:List NoteR) (x:In),k<r1.1+1->(r1.1-k).toNat<f->0<=k->r1.1<=255->(Ey_ r1 f k total kept x).2.err=0->x.err=0
  |0,_,_,_,_,_,hf,_,_,_=>by omega
  |f+1,k,total,kept,x,hk,hf,h0,h5,h=>by
    rw[Ey_] at h
    revert h
    refine bt (P:=fun r:A4_×In=>r.2.err=0->x.err=0) (fun e h=>?_) fun e=>?_
    · simp only[Bool.and_eq_true,decide_eq_true_eq] at e
      exact e.2
    · exact bt (P:=fun r:A4_×In=>r.2.err=0->x.err=0) (fun _ h=>h) fun _ h=>h
theorem Zz_ (b:BookR):C0_ b=b.binds:=Tt_ b
theorem shops_f {b:BookR} (h:BkOk b) (h2:BkB b):(Eq_ b).length<=8/\∀ s∈Eq_ b,Lo_ s=0:=⟨h.1,fun s hs=>(h2.1 s hs).1⟩
theorem binds_f {b:BookR} (h:BkOk b) (h2:BkB b):(C0_ b).length<=32/\∀ s∈C0_ b,BiB s:=by
  rw[Zz_];exact⟨h.2.1,h2.2⟩
theorem bib_f {y:BindR} (h:BiB y):y.shop.length<=16/\y.to'.length<=16/\y.key.length<=64:=⟨h.1,Jy_ h.2.1,h.2.2.1⟩
theorem Wg_ (s:E_) (q:QueueR):(A3_ s q).2=0->0<(A3_ s q).1.rows.length:=by
  unfold A3_ lt
  let R:E_×Int->Prop:=fun r=>r.2=0->0<r.1.rows.length
  refine bt (P:=R) (fun e h=>?_) fun _=>bt (P:=R) (fun e _=>?_) fun _=>bt (P:=R) (fun _ h=>by cases h) fun _=>bt (P:=R) (fun _ h=>by cases h) fun _ _=>?_
  · simp only[Bool.not_eq_true',decide_eq_false_iff_not] at e
    exact (e h).elim
  · simp only[Bool.and_eq_true,decide_eq_true_eq] at e
    have :=at_b s q.name;have :=e.1
    show 0<s.rows.length
    omega
  · simp
def Gi_ (x:K_):Nat->Nat->Out->Bs
  |0,_,_=>default
  | f4+1,v1,x4=>(bif decide ((v1:Int)<8) then
 Gi_ x f4 (v1+1) (B_ (B_ x4 ((A8.get x.spent v1).round) 8) (IntKind.wrap .u64 ((A8.get x.spent v1).count)) 1)
 else x4.s)
def Gh_ (x:K_):Nat->Nat->Out->Bs
  |0,_,_=>default
  | f5+1,v,x3=>(bif decide ((v:Int)<16) then
 Gh_ x f5 (v+1) (B_ x3 (A16.get x.seen v) 8)
 else Gi_ x (8-0+1) 0 x3)
def Cy_ (x:K_):List BindR->Out->Bs
  |[],x2=>lt (Bl_ x.stock) fun r2=>
 Gh_ x (16-0+1) 0 (W_ (W_ (B_ x2 (r2.length:Int) 4) r2) (Bw_ x.notes))
  |x5::t,x2=>Cy_ x t (B_ (W_ (D_ (B_ (D_ (D_ x2 (x5.shop)) (x5.to')) (D4_ (x5.up)) 1) (x5.key)) (Ax_ (x5.want))) (D4_ (x5.all)) 1)
def Ds_ (x:K_) (r1:(List BindR)):List ShopR->Out->Bs
  |[],x1=>Cy_ x r1 (B_ x1 (r1.length:Int) 1)
  |x6::t1,x1=>Ds_ x r1 t1 (D_ (B_ (D_ x1 (x6.name)) (x6.sort) 1) (x6.to'))
def Bb_ (x:K_):Bs:=
 lt (Eq_ x.book) fun r=>
 lt (C0_ x.book) fun r1=>
 Ds_ x r1 r (B_ (⟨[],0⟩:Out) (r.length:Int) 1)
def Bt_ (s:E_) (r:Bs×In) (r1:Int×In) (r2:Int×In) (r3:Bs×In):Nat->List ItemR->Int->In->E_×In
  |0,_,_,_=>default
  | f2+1,items,n,x=>(bif ((decide (0<n))&&(decide (x.err=0))) then
 lt (J_ x 1) fun r5=>
 lt (Dv_ r5.2) fun r6=>
 (bif ((decide (3<r5.1))||((!decide (s.next = 0))&&(decide (s.next <= r6.1.id)))) then
 Bt_ s r r1 r2 r3 f2 (items++[(⟨r6.1,decide ((r5.1%2)=1),decide ((r5.1/2)=1)⟩:ItemR)]) (IntKind.wrap .u64 (n-1)) (Ai_ r6.2 4)
 else Bt_ s r r1 r2 r3 f2 (items++[(⟨r6.1,decide ((r5.1%2)=1),decide ((r5.1/2)=1)⟩:ItemR)]) (IntKind.wrap .u64 (n-1)) r6.2)
 else lt (Pb_ items) fun r7=>
 (lt1 ((bif ((decide (r1.1<(IntKind.wrap .u64 (Eb_ r7.1))))||(decide (0<=(X_ s r.1)))) then
 (Ai_ (Ai_ x r7.2) 4)
 else (Ai_ x r7.2))) (fun x1=>
 lt (A3_ s (⟨r.1,r1.1,r2.1,r3.1⟩:QueueR)) fun r8=>
 (bif decide (((Ai_ x1 r8.2).err)=0) then
 lt (Ac_ r8.1 ((r8.1.rows.length:Int)-1) r7.1) fun r9=>
 (r9,(Ai_ x1 r8.2))
 else (r8.1,(Ai_ x1 r8.2))))))
def B5_ (s:E_) (i:In):E_×In:=
 lt (I_ i 16) fun r=>
 lt (J_ r.2 8) fun r1=>
 lt (J_ r1.2 8) fun r2=>
 lt (I_ r2.2 16) fun r3=>
 lt (J_ r3.2 1) fun r4=>
 Bt_ s r r1 r2 r3 ((r4.1).toNat+1) [] r4.1 r4.2
theorem Zo_:StkOk default/\RoB default:=⟨Yx_ 0 0 (by decide),fun _ h=>by cases h⟩
theorem rob_make {s:E_} {q:QueueR} (h:RoB s):RoB (A3_ s q).1:=cloB.km h
theorem Vb_ {s:E_} (hs:StkOk s) (hq:RoB s) (r:Bs×In) (r1 r2:Int×In) (r3:Bs×In):∀ (f:Nat) (items:List ItemR) (n:Int) (x:In),(∀ y∈items,MlOk y.mail)->StkOk (Bt_ s r r1 r2 r3 f items n x).1/\RoB (Bt_ s r r1 r2 r3 f items n x).1
  |0,_,_,_,_=>Zo_
  |f+1,items,n,x,hi=>by
    rw[Bt_]
    let R:E_×In->Prop:=fun y=>StkOk y.1/\RoB y.1
    refine bt (P:=R) (fun _=>?_) fun _=>?_
    · have h1:=Zb_ (x:=(⟨(Dv_ (J_ x 1).2).1,decide (((J_ x 1).1%2)=1),decide (((J_ x 1).1/2)=1)⟩:ItemR)) hi (Li_ (J_ x 1).2)
      unfold lt
      exact bt (P:=R) (fun _=>Vb_ hs hq r r1 r2 r3 f _ _ _ h1) fun _=>Vb_ hs hq r r1 r2 r3 f _ _ _ h1
    · unfold lt lt1
      refine bt (P:=R) (fun e=>?_) fun _=>⟨Lg_ hs,rob_make hq⟩
      simp only[decide_eq_true_eq] at e
      have h2:=Wg_ s _ (P8_ e).2
      exact⟨Lh_ (Lg_ hs) (lof_ok hi) (by omega),M2_ (rob_make hq)⟩
theorem rrow_ok {s:E_} (hs:StkOk s) (hq:RoB s) (i:In):StkOk (B5_ s i).1/\RoB (B5_ s i).1:=by
  unfold B5_ lt
  exact Vb_ hs hq _ _ _ _ _ _ _ _ mls_nil
theorem knew_f (b n:Int) (h:n<=1000000):StkOk (Dx_ b n)/\RoB (Dx_ b n):=⟨Yx_ b n h,fun _ h=>by cases h⟩
def Hu_:Nat->Int->In->E_->In×E_
  |0,_,_,_=>default
  | f4+1,n1,x4,x5=>(bif ((decide (0<n1))&&(decide (x4.err=0))) then
 lt (J_ x4 1) fun r5=>
 lt (I1_ r5.2) fun r6=>
 (bif decide (16<=r5.1) then
 ((Ai_ r6.2 4),x5)
 else Hu_ f4 (IntKind.wrap .u64 (n1-1)) r6.2 (⟨x5.next,x5.bytes,x5.rows,(A16.set x5.rises r6.1 ((r5.1).toNat))⟩:E_))
 else (x4,x5))
def Ht_ (text:Bs):Nat->Int->In->E_->E_×Int
  |0,_,_,_=>default
  | f5+1,n,x,x1=>(bif ((decide (0<n))&&(decide (x.err=0))) then
 lt (B5_ x1 x) fun r3=>
 Ht_ text f5 (IntKind.wrap .u64 (n-1)) r3.2 r3.1
 else (lt2 (lt (J_ x 1) fun r4=>
 Hu_ ((r4.1).toNat+1) r4.1 r4.2 x1) (fun x2 x3=>
 (bif (((!decide ((Yt_ x2)=0))||(decide ((Fk_ x3)<0)))||(!decide ((Bl_ x3)=text))) then
 ((⟨0,0,[],(⟨(⟨0,[]⟩:RiseR),(⟨0,[]⟩:RiseR),(⟨0,[]⟩:RiseR),(⟨0,[]⟩:RiseR),(⟨0,[]⟩:RiseR),(⟨0,[]⟩:RiseR),(⟨0,[]⟩:RiseR),(⟨0,[]⟩:RiseR),(⟨0,[]⟩:RiseR),(⟨0,[]⟩:RiseR),(⟨0,[]⟩:RiseR),(⟨0,[]⟩:RiseR),(⟨0,[]⟩:RiseR),(⟨0,[]⟩:RiseR),(⟨0,[]⟩:RiseR),(⟨0,[]⟩:RiseR)⟩:A16_RiseR)⟩:E_),4)
 else (x3,0)))))
def F9_ (text:Bs) (bytes:Int):E_×Int:=
 lt (J_ (⟨text,0⟩) 8) fun r=>
 lt (Dx_ r.1 bytes) fun r1=>
 lt (J_ r.2 1) fun r2=>
 Ht_ text ((r2.1).toNat+1) r2.1 r2.2 r1
theorem kof_ok1:∀ (f:Nat) (n:Int) (x:In) (s:E_),StkOk s->RoB s->StkOk (Hu_ f n x s).2/\RoB (Hu_ f n x s).2
  |0,_,_,_,_,_=>Zo_
  |f+1,n,x,s,hs,hq=>by
    rw[Hu_]
    let R:In×E_->Prop:=fun y=>StkOk y.2/\RoB y.2
    refine bt (P:=R) (fun _=>?_) fun _=>⟨hs,hq⟩
    unfold lt
    refine bt (P:=R) (fun _=>⟨hs,hq⟩) fun e=>?_
    simp only[decide_eq_false_iff_not] at e
    have h0:=(Ah_ x 1).1
    exact kof_ok1 f _ _ _ (hs.set _ (by omega) (rread_ok _)) hq
theorem kof_ok0 (text:Bs):∀ (f:Nat) (n:Int) (x:In) (s:E_),StkOk s->RoB s->StkOk (Ht_ text f n x s).1/\RoB (Ht_ text f n x s).1
  |0,_,_,_,_,_=>Zo_
  |f+1,n,x,s,hs,hq=>by
    rw[Ht_]
    let R:E_×Int->Prop:=fun y=>StkOk y.1/\RoB y.1
    refine bt (P:=R) (fun _=>?_) fun _=>?_
    · obtain⟨h1,h2⟩:=rrow_ok hs hq x
      exact kof_ok0 text f _ _ _ h1 h2
    · unfold lt2 lt
      have h3:=kof_ok1 ((J_ x 1).1.toNat+1) (J_ x 1).1 (J_ x 1).2 s hs hq
      exact bt (P:=R) (fun _=>knew_f 0 0 (by decide)) fun _=>h3
theorem kof_ok (text:Bs) (n:Int) (hn:n<=1000000):StkOk (F9_ text n).1/\RoB (F9_ text n).1:=by
  unfold F9_ lt
  obtain⟨h1,h2⟩:=knew_f (J_ (⟨text,0⟩:In) 8).1 n hn
  exact kof_ok0 text _ _ _ _ h1 h2
def Bg_ (r:RdR):List DeedR->C_->BookR×Bool×RdR
  |[],x1=>lt (C6_ x1) fun r4=>
 (r4.book,true,(⟨(),r.deeds⟩:RdR))
  |x2::t,x1=>lt (C6_ x1) fun r2=>
 lt (Bh_ x1 x2) fun r3=>
 (bif ((!decide (r3.2.2=0))||(M3_ r2.book ((C6_ r3.1).book))) then
 ((⟨[],[]⟩:BookR),false,(⟨(),r.deeds⟩:RdR))
 else Bg_ r t r3.1)
def A6_ (r:RdR):List QueueR->C_->BookR×Bool×RdR
  |[],x=>Bg_ r r.deeds x
  |x3::t1,x=>lt (Bh_ x (⟨2,0,(⟨[],0,[]⟩:ShopR),x3,(⟨[],[],false,[],[],false⟩:BindR),[],0,0,0,0,0,(⟨0,[],[],[],[],0,0⟩:Mail),[]⟩:DeedR)) fun r1=>
 A6_ r t1 r1.1
def Af_ (r:RdR) (s:C_) (queues:List QueueR):BookR×Bool×RdR:=
 A6_ r queues s
def EqT (i:In) (m:Int) (r:Bs×In):Prop:=I_ i m=r
def EqN (i:In) (m:Int) (r:Int×In):Prop:=J_ i m=r
def EqR (i:In) (m:Int) (r:Bs×In):Prop:=Em_ i m=r
def EqH (i:In) (r:List Pair×In):Prop:=Aw_ i=r
def EqO (i:In) (r:A4_×In):Prop:=Cq_ i=r
theorem Z1_ (r:RdR):∀ (t:List DeedR) (s:C_),StOk s->StB s->(∀ d∈t,DdG d)->BkOk (Bg_ r t s).1/\BkB (Bg_ r t s).1
  |[],s,hs,hb,_=>⟨hs.1.1,hb.1⟩
  |d::t,s,hs,hb,hd=>by
    rw[Bg_]
    unfold lt
    let R:BookR×Bool×RdR->Prop:=fun y=>BkOk y.1/\BkB y.1
    obtain⟨h1,h2,h3,h4,h5,h6⟩:=hd d (by simp)
    refine bt (P:=R) (fun _=>⟨⟨by simp,by simp,fun _ h=>by cases h⟩,(fun _ h=>by cases h),fun _ h=>by cases h⟩) fun _=>?_
    exact Z1_ r t _ (T7_ hs h1 h4) (doB ⟨h2,h3⟩ hs h4 h5 h6 hb) fun y hy=>hd y (by simp[hy])
theorem Z0_ (r:RdR):∀ (t:List QueueR) (s:C_),StOk s->StB s->(∀ d∈r.deeds,DdG d)->BkOk (A6_ r t s).1/\BkB (A6_ r t s).1
  |[],s,hs,hb,hd=>by rw[A6_];exact Z1_ r _ s hs hb hd
  |q::t,s,hs,hb,hd=>by
    rw[A6_]
    unfold lt
    obtain⟨h1,h2,h3,h4,h5,h6⟩:=ddq q
    exact Z0_ r t _ (T7_ hs h1 h4) (doB ⟨h2,h3⟩ hs h4 h5 h6 hb) hd
theorem book_ok (r:RdR) (s:C_) (queues:List QueueR) (hs:StOk s) (hb:StB s) (hd:∀ d∈r.deeds,DdG d):BkOk (Af_ r s queues).1/\BkB (Af_ r s queues).1:=Z0_ r queues s hs hb hd
theorem nread_err {i:In} (h:(Cq_ i).2.err=0):i.err=0:=by
  unfold Cq_ lt lt1 at h
  have h1:=Ah_ (J_ i 8).2 1
  have h2:=nread_e0 _ _ _ _ _ _ (by omega) (by omega) (by decide) (h1.2.2.2 (by decide)) h
  revert h2
  have h3:(J_ (J_ i 8).2 1).2.err=0->i.err=0:=fun e=>(Le_ (Le_ e).1).1
  refine bt (P:=fun j:In=>j.err=0->i.err=0) (fun _=>h3) fun _=>bt (P:=fun j:In=>j.err=0->i.err=0) (fun _ e=>h3 (P8_ e).1) fun _=>bt (P:=fun j:In=>j.err=0->i.err=0) (fun _ e=>h3 (P8_ e).1) fun _=>h3
theorem T3_ {i j:In} {l:List DeedR} (h:DdsG i l) (he:j.err=0->i.err=0):DdsG j l:=fun e=>h (he e)
theorem I5_ {i:In} {n:Int} {r:_} {l:List DeedR} (h:DdsG i l) (h1:J_ i n=r):DdsG r.2 l:=T3_ h fun e=>by subst h1;exact (Le_ e).1
theorem dds_raw {i:In} {n:Int} {r:_} {l:List DeedR} (h:DdsG i l) (h1:Em_ i n=r):DdsG r.2 l:=T3_ h fun e=>by subst h1;exact (N9_ e).1
theorem Vx_ {i:In} {r:_} {l:List DeedR} (h:DdsG i l) (h1:Cq_ i=r):DdsG r.2 l:=T3_ h fun e=>by subst h1;exact nread_err e
theorem inEnd_e {i:In} (h:Yt_ i=0):i.err=0:=by
  unfold Yt_ at h
  split at h
  · omega
  · exact h
def PkOk (x:K_):Prop:=StkOk x.stock/\RoB x.stock/\x.notes.kept.length<=32/\NoB x.notes
theorem imOk_of {b:BookR} {x:K_} {a:_} {c:_} (h:BkOk b/\BkB b) (k:PkOk x):ImOk ⟨b,x.stock,x.notes,a,c⟩:=⟨h.1,h.2,k⟩
theorem Pf_ {p:PolicyR} {k:Int} (hp:PoOk p) (hk:0<=k/\k<p.places.length):(gt p.places k.toNat).bytes<=1000000:=by
  have h1:=hp.2.2.2.2.2.2 (gt p.places k.toNat) (Lt_ (by omega))
  omega
def F6_ (text:Bs) (p:PolicyR) (place:Int) (deeds1:List DeedR) (r13:E_×Int):Nat->Int->Nat->In->K_->K_×Int
  |0,_,_,_,_=>default
  | f8+1,e_1,v1,x4,x5=>(bif decide ((v1:Int)<8) then
 lt (J_ x4 8) fun r16=>
 lt (J_ r16.2 1) fun r17=>
 (bif decide (16<((A8.get (A8.set x5.spent (⟨r16.1,r17.1⟩:O_) v1) v1).count)) then
 F6_ text p place deeds1 r13 f8 4 (v1+1) r17.2 (⟨x5.book,x5.stock,x5.notes,x5.seen,(A8.set x5.spent (⟨r16.1,r17.1⟩:O_) v1)⟩:K_)
 else F6_ text p place deeds1 r13 f8 e_1 (v1+1) r17.2 (⟨x5.book,x5.stock,x5.notes,x5.seen,(A8.set x5.spent (⟨r16.1,r17.1⟩:O_) v1)⟩:K_))
 else (bif ((!decide ((Yt_ x4)=0))||(!decide (e_1=0))) then
 ((⟨(⟨[],[]⟩:BookR),(⟨0,0,[],(⟨(⟨0,[]⟩:RiseR),(⟨0,[]⟩:RiseR),(⟨0,[]⟩:RiseR),(⟨0,[]⟩:RiseR),(⟨0,[]⟩:RiseR),(⟨0,[]⟩:RiseR),(⟨0,[]⟩:RiseR),(⟨0,[]⟩:RiseR),(⟨0,[]⟩:RiseR),(⟨0,[]⟩:RiseR),(⟨0,[]⟩:RiseR),(⟨0,[]⟩:RiseR),(⟨0,[]⟩:RiseR),(⟨0,[]⟩:RiseR),(⟨0,[]⟩:RiseR),(⟨0,[]⟩:RiseR)⟩:A16_RiseR)⟩:E_),(⟨0,[]⟩:A4_),(⟨0,0,0,0,0,0,0,0,0,0,0,0,0,0,0,0⟩:A16_u64),(⟨(⟨0,0⟩:O_),(⟨0,0⟩:O_),(⟨0,0⟩:O_),(⟨0,0⟩:O_),(⟨0,0⟩:O_),(⟨0,0⟩:O_),(⟨0,0⟩:O_),(⟨0,0⟩:O_)⟩:A8_SpentR)⟩:K_),4)
 else lt (A8_ p place) fun r18=>
 lt (Aq_ (r13.1)) fun r19=>
 lt (Af_ (⟨(),deeds1⟩:RdR) r18 r19) fun r20=>
 (bif ((!r20.2.1)||(!decide ((Bb_ (⟨(r20.1),x5.stock,x5.notes,x5.seen,x5.spent⟩:K_))=text))) then
 ((⟨(⟨[],[]⟩:BookR),(⟨0,0,[],(⟨(⟨0,[]⟩:RiseR),(⟨0,[]⟩:RiseR),(⟨0,[]⟩:RiseR),(⟨0,[]⟩:RiseR),(⟨0,[]⟩:RiseR),(⟨0,[]⟩:RiseR),(⟨0,[]⟩:RiseR),(⟨0,[]⟩:RiseR),(⟨0,[]⟩:RiseR),(⟨0,[]⟩:RiseR),(⟨0,[]⟩:RiseR),(⟨0,[]⟩:RiseR),(⟨0,[]⟩:RiseR),(⟨0,[]⟩:RiseR),(⟨0,[]⟩:RiseR),(⟨0,[]⟩:RiseR)⟩:A16_RiseR)⟩:E_),(⟨0,[]⟩:A4_),(⟨0,0,0,0,0,0,0,0,0,0,0,0,0,0,0,0⟩:A16_u64),(⟨(⟨0,0⟩:O_),(⟨0,0⟩:O_),(⟨0,0⟩:O_),(⟨0,0⟩:O_),(⟨0,0⟩:O_),(⟨0,0⟩:O_),(⟨0,0⟩:O_),(⟨0,0⟩:O_)⟩:A8_SpentR)⟩:K_),4)
 else ((⟨(r20.1),x5.stock,x5.notes,x5.seen,x5.spent⟩:K_),0))))
def F5_ (text:Bs) (p:PolicyR) (place:Int) (deeds1:List DeedR) (r13:E_×Int):Nat->Nat->In->K_->K_×Int
  |0,_,_,_=>default
  | f9+1,v,x2,x3=>(bif decide ((v:Int)<16) then
 lt (J_ x2 8) fun r15=>
 F5_ text p place deeds1 r13 f9 (v+1) r15.2 (⟨x3.book,x3.stock,x3.notes,(A16.set x3.seen r15.1 v),x3.spent⟩:K_)
 else F6_ text p place deeds1 r13 (8-0+1) r13.2 0 x2 x3)
def G3_ (text:Bs) (p:PolicyR) (place:Int):Nat->Int->In->List DeedR->K_×Int
  |0,_,_,_=>default
  | f10+1,n1,x1,deeds1=>(bif ((decide (0<n1))&&(decide (x1.err=0))) then
 lt (I_ x1 16) fun r5=>
 lt (I_ ((r5).2) 16) fun r6=>
 lt (J_ ((r6).2) 1) fun r7=>
 lt (I_ ((r7).2) 64) fun r8=>
 lt (Aw_ r8.2) fun r9=>
 lt (J_ r9.2 1) fun r10=>
 G3_ text p place f10 (IntKind.wrap .u64 (n1-1)) r10.2 (deeds1++[(⟨4,0,(⟨[],0,[]⟩:ShopR),(⟨[],0,0,[]⟩:QueueR),(⟨(r5).1,(r6).1,decide (((r7).1)=1),r8.1,r9.1,decide (r10.1=1)⟩:BindR),[],0,0,0,0,0,(⟨0,[],[],[],[],0,0⟩:Mail),[]⟩:DeedR)])
 else lt (J_ x1 4) fun r11=>
 lt (Em_ ((r11).2) (IntKind.wrap .i64 ((r11).1))) fun r12=>
 lt (F9_ (r12.1) ((gt p.places ((place).toNat)).bytes)) fun r13=>
 lt (Cq_ (r12.2)) fun r14=>
 F5_ text p place deeds1 r13 (16-0+1) 0 (r14.2) (⟨(⟨[],[]⟩:BookR),(r13.1),(r14.1),(⟨0,0,0,0,0,0,0,0,0,0,0,0,0,0,0,0⟩:A16_u64),(⟨(⟨0,0⟩:O_),(⟨0,0⟩:O_),(⟨0,0⟩:O_),(⟨0,0⟩:O_),(⟨0,0⟩:O_),(⟨0,0⟩:O_),(⟨0,0⟩:O_),(⟨0,0⟩:O_)⟩:A8_SpentR)⟩:K_))
def G2_ (text:Bs) (p:PolicyR) (place:Int):Nat->Int->In->List DeedR->K_×Int
  |0,_,_,_=>default
  | f11+1,n,x,deeds=>(bif ((decide (0<n))&&(decide (x.err=0))) then
 lt (I_ x 16) fun r1=>
 lt (J_ ((r1).2) 1) fun r2=>
 lt (I_ ((r2).2) 16) fun r3=>
 G2_ text p place f11 (IntKind.wrap .u64 (n-1)) r3.2 (deeds++[(⟨0,0,(⟨(r1).1,(r2).1,r3.1⟩:ShopR),(⟨[],0,0,[]⟩:QueueR),(⟨[],[],false,[],[],false⟩:BindR),[],0,0,0,0,0,(⟨0,[],[],[],[],0,0⟩:Mail),[]⟩:DeedR)])
 else lt (J_ x 1) fun r4=>
 G3_ text p place ((r4.1).toNat+1) r4.1 r4.2 deeds)
def El_ (text:Bs) (p:PolicyR) (place:Int):K_×Int:=
 lt (J_ (⟨text,0⟩) 1) fun r=>
 G2_ text p place ((r.1).toNat+1) r.1 r.2 []
theorem im_st {s:C_} (h:StOk s) (k:StB s):ImOk (C6_ s):=⟨h.1.1,k.1,h.1.2.1,k.2.1,h.1.2.2.1,k.2.2⟩
theorem bit_n (b:Bool):(D4_ b).toNat=bitM b:=by cases b<;>rfl
theorem ib0 (x:K_) (r1:List BindR):∀ (t:List ShopR) (o:Out),(∀ s∈t,Lo_ s=0)->Ds_ x r1 t o=Cy_ x r1 (B_ ⟨o.s++t.flatMap Zk_,o.err⟩ (r1.length:Int) 1)
  |[],o,_=>by rw[Ds_];simp
  |y::t,o,h=>by
    have hy:=Sg_ (h y (by simp))
    rw[Ds_,ib0 x r1 t _ (fun z hz=>h z (by simp[hz])),Bd_ (s:=y.name) (by omega),He_ (n:=y.sort),Bd_ (s:=y.to') (by omega)]
    simp[Zk_,List.append_assoc]
theorem ib1 (x:K_):∀ (t:List BindR) (o:Out),(∀ y∈t,BiB y)->Cy_ x t o=Cy_ x [] ⟨o.s++t.flatMap Yb_,o.err⟩
  |[],o,_=>by simp
  |y::t,o,h=>by
    have hy:=bib_f (h y (by simp))
    rw[Cy_.eq_2,ib1 x t _ (fun z hz=>h z (by simp[hz])),Bd_ (s:=y.shop) (by omega),Bd_ (s:=y.to') (by omega),He_ (n:=D4_ y.up),Bd_ (s:=y.key) (by omega),He_ (n:=D4_ y.all),bit_n,bit_n]
    simp[Yb_,W_,List.append_assoc]
theorem ib3 (x:K_):∀ (f v:Nat) (o:Out),8-v<f->∃ z:Bs,Gi_ x f v o=o.s++z/\z.length=9*(8-v)
  |0,_,_,h=>by omega
  |f+1,v,o,h=>by
    rw[Gi_]
    by_cases e:(v:Int)<8
    · obtain⟨z,h1,h2⟩:=ib3 x f (v+1) (B_ (B_ o ((A8.get x.spent v).round) 8) (IntKind.wrap .u64 ((A8.get x.spent v).count)) 1) (by omega)
      rw[decide_eq_true e,cond_true,h1,He_,Md_]
      exact⟨numB 8 (A8.get x.spent v).round.toNat++(numB 1 (IntKind.wrap .u64 ((A8.get x.spent v).count)).toNat++z),by simp only[List.append_assoc],by simp only[List.length_append,Q_,h2];omega⟩
    · rw[decide_eq_false e,cond_false]
      exact⟨[],by simp,by simp;omega⟩
theorem ib2 (x:K_):∀ (f v:Nat) (o:Out),16-v<f->∃ z:Bs,Gh_ x f v o=o.s++z/\z.length=8*(16-v)+72
  |0,_,_,h=>by omega
  |f+1,v,o,h=>by
    rw[Gh_]
    by_cases e:(v:Int)<16
    · obtain⟨z,h1,h2⟩:=ib2 x f (v+1) (B_ o (A16.get x.seen v) 8) (by omega)
      rw[decide_eq_true e,cond_true,h1,Md_]
      exact⟨numB 8 (A16.get x.seen v).toNat++z,by simp only[List.append_assoc],by simp only[List.length_append,Q_,h2];omega⟩
    · rw[decide_eq_false e,cond_false]
      obtain⟨z,h1,h2⟩:=ib3 x (8-0+1) 0 o (by omega)
      exact⟨z,h1,by omega⟩
theorem nb_eq0:∀ (t:List NoteR) (o:Out),(∀ y∈t,y.text.length<=64)->An_ t o=o.s++t.flatMap noteB
  |[],o,_=>by simp[An_]
  |y::t,o,h=>by
    have hy:=h y (by simp)
    rw[An_,nb_eq0 t _ (fun z hz=>h z (by simp[hz])),He_,Md_,Bd_ (by omega)]
    simp[noteB,List.append_assoc]
theorem nb_eq {n:A4_} (h:NoB n):Bw_ n=Te_ n:=by
  unfold Bw_
  rw[nb_eq0 _ _ (fun y hy=>(h y hy).1),He_,Md_]
  simp[Te_]
theorem ib_eq {x:K_} (h:ImOk x):∃ z:Bs,z.length=200/\Bb_ x=bookB x.book++(numB 4 (Bl_ x.stock).length++(Bl_ x.stock++(Te_ x.notes++z))):=by
  obtain⟨h1,h2,h3,h4,h5,h6⟩:=h
  unfold Bb_ lt
  rw[Zz_,Ve_]
  dsimp only
  rw[ib0 _ _ _ _ (fun s hs=>(h2.1 s hs).1),He_,He_,ib1 _ _ _ h2.2,Cy_]
  unfold lt
  dsimp only
  obtain⟨z,e1,e2⟩:=ib2 x (16-0+1) 0 (W_ (W_ (B_ ⟨([]++numB 1 (x.book.shops.length:Int).toNat++x.book.shops.flatMap Zk_++numB 1 (x.book.binds.length:Int).toNat)++x.book.binds.flatMap Yb_,0⟩ ((Bl_ x.stock).length:Int) 4) (Bl_ x.stock)) (Bw_ x.notes)) (by omega)
  refine⟨z,by omega,?_⟩
  refine e1.trans ?_
  rw[outNum4,nb_eq h6]
  simp[W_,bookB,List.append_assoc]
theorem im_pos {x:K_} (h:ImOk x):0<(Bb_ x).length:=by
  obtain⟨z,h1,h2⟩:=ib_eq h
  rw[h2]
  simp only[List.length_append]
  omega
theorem im_cut {x y:K_} (hx:ImOk x) (hy:ImOk y) {z:Bs} (h:Bb_ x=Bb_ y++z):z=[]:=by
  obtain⟨a,a1,a2⟩:=ib_eq hx
  obtain⟨b,b1,b2⟩:=ib_eq hy
  rw[a2,b2] at h
  simp only[List.append_assoc] at h
  have h1:=book_pf hx.2.1 hy.2.1 hx.1 hy.1 h
  have k1:=kb_len hx.2.2.1 hx.2.2.2.1
  have k2:=kb_len hy.2.2.1 hy.2.2.2.1
  obtain⟨e1,h2⟩:=num4_pf (by omega) (by omega) h1
  have h3:=app_pf e1 h2
  have h4:=notes_pf hx.2.2.2.2.2 hy.2.2.2.2.2 (by have :=hx.2.2.2.2.1;omega) (by have :=hy.2.2.2.2.1;omega) h3
  have h5:=congrArg List.length h4
  rw[List.length_append] at h5
  exact List.length_eq_zero_iff.1 (by omega)
def Od_:Bool:=
 lt (A8_ (⟨4,1,[(⟨[108,111,119],(⟨0,0⟩:LabelR),500,1⟩:PlaceR)],[0],[]⟩:PolicyR) 0) fun r=>
 lt (C6_ r) fun r1=>
 lt (Bb_ r1) fun r2=>
 lt (El_ r2 (⟨4,1,[(⟨[108,111,119],(⟨0,0⟩:LabelR),500,1⟩:PlaceR)],[0],[]⟩:PolicyR) 0) fun r3=>
 ((((Rg_)&&(decide ((r2.length:Int)=225)))&&(decide (r3.2=0)))&&(decide ((Ja_ r3.1.stock)=1)))
def Cd_ (p:PolicyR) (cut:Int) (r:Int):List DeedR->C_->Bool
  |[],x=>lt (C6_ x) fun r3=>
 lt (Bb_ r3) fun r4=>
 lt (El_ (r4.take ((cut%(r4.length:Int))).toNat) p r) fun r5=>
 ((decide (r5.2=4))&&(M5_ (r5.1) (⟨(⟨[],[]⟩:BookR),(⟨0,0,[],(⟨(⟨0,[]⟩:RiseR),(⟨0,[]⟩:RiseR),(⟨0,[]⟩:RiseR),(⟨0,[]⟩:RiseR),(⟨0,[]⟩:RiseR),(⟨0,[]⟩:RiseR),(⟨0,[]⟩:RiseR),(⟨0,[]⟩:RiseR),(⟨0,[]⟩:RiseR),(⟨0,[]⟩:RiseR),(⟨0,[]⟩:RiseR),(⟨0,[]⟩:RiseR),(⟨0,[]⟩:RiseR),(⟨0,[]⟩:RiseR),(⟨0,[]⟩:RiseR),(⟨0,[]⟩:RiseR)⟩:A16_RiseR)⟩:E_),(⟨0,[]⟩:A4_),(⟨0,0,0,0,0,0,0,0,0,0,0,0,0,0,0,0⟩:A16_u64),(⟨(⟨0,0⟩:O_),(⟨0,0⟩:O_),(⟨0,0⟩:O_),(⟨0,0⟩:O_),(⟨0,0⟩:O_),(⟨0,0⟩:O_),(⟨0,0⟩:O_),(⟨0,0⟩:O_)⟩:A8_SpentR)⟩:K_)))
  |x1::t,x=>lt (Bh_ x x1) fun r2=>
 Cd_ p cut r t r2.1
def Hj_ (p:PolicyR) (place:Int) (l:List DeedR) (cut:Int):Bool:=
 (bif !(Od_) then
 false
 else (bif ((!(Kq_ p))||(!(Ju_ l))) then
 true
 else lt (Wy_ p place) fun r=>
 lt (A8_ p r) fun r1=>
 Cd_ p cut r l r1))
inductive EqL {α:Type _} (F G:Nat->α):List Nat->Prop
  |nil:EqL F G []
  |cons {k:Nat} {l:List Nat}:F k=G k->EqL F G l->EqL F G (k::l)
theorem EqL.map {α:Type _} {F G:Nat->α}:∀ {l:List Nat},EqL F G l->l.map F=l.map G
  |[],_=>rfl
  |k::l, .cons h hl=>by rw[List.map_cons,List.map_cons,h,hl.map]
variable {P:Program} {n:Nat} {N:Rest} {H0:Env} {fF:Nat->PV} {fL:Nat->Blk}
theorem nZ {ι:Type _} {keep kL:List Nat} {G:Nat->PV} {GL:Nat->Blk} {lv:ι->List (Nat×PV)} {lL:ι->List (Nat×Blk)} {Φ:ι->Prop} {μ:ι->Nat} {m:Nat} {ks:List Kt} {Q:Qs} (x':ι) (hΦ:Φ x') (h3:AllF fF (lv x')) (h4:AllL fL (lL x'))
    (h1:EqL fF G keep:=by ((repeat' (first|exact EqL.nil|refine EqL.cons ?_ ?_))<;>(conv=>lhs;whnf)<;>(conv=>rhs;whnf)<;>exact rfl))
    (h2:EqL fL GL kL:=by ((repeat' (first|exact EqL.nil|refine EqL.cons ?_ ?_))<;>(conv=>lhs;whnf)<;>(conv=>rhs;whnf)<;>exact rfl))
    (hm:μ x'<m:=by decide):Hd P n N H0 Q (.ex .normal) (.lp (LJ (fun x=>⟨mkF (lv x) keep G,mkL (lL x) kL GL⟩) Φ μ m)::ks) ⟨fF,fL⟩:=next x' h1.map h2.map h3 h4 hm hΦ
theorem nY {ι:Type _} {keep kL:List Nat} {G:Nat->PV} {GL:Nat->Blk} {lv:ι->List (Nat×PV)} {lL:ι->List (Nat×Blk)} {Φ:ι->Prop} {μ:ι->Nat} {m:Nat} {ks:List Kt} {Q:Qs} (x':ι) (h3:AllF fF (lv x')) (h4:AllL fL (lL x')) (hm:μ x'<m) (hΦ:Φ x')
    (h1:EqL fF G keep:=by ((repeat' (first|exact EqL.nil|refine EqL.cons ?_ ?_))<;>(conv=>lhs;whnf)<;>(conv=>rhs;whnf)<;>exact rfl))
    (h2:EqL fL GL kL:=by ((repeat' (first|exact EqL.nil|refine EqL.cons ?_ ?_))<;>(conv=>lhs;whnf)<;>(conv=>rhs;whnf)<;>exact rfl)):Hd P n N H0 Q (.ex .normal) (.lp (LJ (fun x=>⟨mkF (lv x) keep G,mkL (lL x) kL GL⟩) Φ μ m)::ks) ⟨fF,fL⟩:=next x' h1.map h2.map h3 h4 hm hΦ
end Go.SW.V
set_option maxHeartbeats 6400000
namespace Go.Proofs
open Go.Shelf
open Go.RowKit in
open Go.Lib in
open Go.Lib in
open Go.RowKit Go.Sort Go.Lib in
open Go.RowKit Go.Sort Go.Lib in
open Go.RowKit Go.Sort Go.Lib
end Go.Proofs
namespace Go.SW
open Go.Proofs Go.RowKit
end Go.SW
namespace Go.Proofs
open Go.Shelf
def Tryz.lays229_ren:Go.Shelf.Ren:=⟨fun|229=>327|n=>n,fun|9=>9|40=>413|31=>106|152=>424|3=>3|0=>0|4=>4|21=>21|154=>426|n=>n,fun|n=>n⟩
theorem Tryz.lays229:Go.Proofs.Lays.n229 Tryz.prog Tryz.lays229_ren:={
  mixed:=by kernel_rfl
  f229:=Tryz.func327.trans (congrArg some (by kernel_rfl))
  t0:=Tryz.underlying0
  a0:=Tryz.isAgg0
  z0:=Tryz.sizeOf0
  v0:=Tryz.zeroValue0
  t3:=Tryz.underlying3
  a3:=Tryz.isAgg3
  z3:=Tryz.sizeOf3
  v3:=Tryz.zeroValue3
  t4:=Tryz.underlying4
  a4:=Tryz.isAgg4
  z4:=Tryz.sizeOf4
  v4:=Tryz.zeroValue4
  t9:=Tryz.underlying9
  a9:=Tryz.isAgg9
  z9:=Tryz.sizeOf9
  v9:=Tryz.zeroValue9
  t21:=Tryz.underlying21
  a21:=Tryz.isAgg21
  z21:=Tryz.sizeOf21
  v21:=Tryz.zeroValue21
  t31:=Tryz.underlying106
  a31:=Tryz.isAgg106
  z31:=Tryz.sizeOf106
  v31:=Tryz.zeroValue106
  t40:=Tryz.underlying413
  a40:=Tryz.isAgg413
  z40:=Tryz.sizeOf413
  v40:=Tryz.zeroValue413
  t152:=Tryz.underlying424
  a152:=Tryz.isAgg424
  z152:=Tryz.sizeOf424
  v152:=Tryz.zeroValue424
  t154:=Tryz.underlying426
  a154:=Tryz.isAgg426
  z154:=Tryz.sizeOf426
  v154:=Tryz.zeroValue426}
open Go.RowKit Go.Lib in
theorem Tryz.strings_FieldsFunc (g:Nat) (lb:Array Value) (eg:∀ args w,(callFunc g args).run Tryz.prog w = .ok (.enter g args) w) (p:Nat->Bool) (s:ByteArray) (w:World) (hs:s.size<=4294967296) (hp:PredAt Tryz.prog g lb encR p w) :
    Calls Tryz.prog 327 #[.string s, .func (.func g) #[] lb] w fun e w'=>∃ A,e = .returned (.slice (some ⟨A,0,none⟩) (Lib.goFieldsP p s).length (Lib.goFieldsP p s).length)/\w.heap.size<=A /\
      w'.ownsRow w.heap.size 9 1 (.slice (some ⟨A,0,none⟩) (Lib.goFieldsP p s).length (Lib.goFieldsP p s).length) (Lib.goFieldsP p s).length ((Lib.goFieldsP p s).map Value.string)/\Below w.heap.size w w':=Any.strings_FieldsFunc Tryz.lays229 g lb eg p s w hs hp (by kernel_rfl) (by kernel_rfl)
def Tryz.laysPu14_ren:Go.Shelf.Ren:=⟨fun|14=>355|16=>366|17=>367|19=>370|20=>371|21=>372|22=>373|23=>374|24=>375|25=>376|27=>58|26=>377|28=>141|29=>227|30=>246|31=>247|32=>248|33=>249|35=>289|34=>288|36=>290|37=>291|38=>292|39=>320|40=>321|n=>n,fun|9=>9|3=>3|22=>22|24=>198|25=>436|4=>4|34=>448|5=>5|36=>277|37=>193|0=>0|39=>450|21=>21|44=>454|47=>289|50=>458|48=>456|2=>2|52=>349|55=>352|59=>388|60=>125|20=>20|61=>389|65=>420|66=>421|67=>175|n=>n,fun|0=>6|1=>7|2=>1|3=>2|4=>3|n=>n⟩
theorem Tryz.laysPu14:Go.Proofs.LaysPu.n14 Tryz.prog Tryz.laysPu14_ren:={
  mixed:=by kernel_rfl
  f14:=Tryz.func355.trans (congrArg some (by kernel_rfl))
  f16:=Tryz.func366.trans (congrArg some (by kernel_rfl))
  f17:=Tryz.func367.trans (congrArg some (by kernel_rfl))
  f19:=Tryz.func370.trans (congrArg some (by kernel_rfl))
  f20:=Tryz.func371.trans (congrArg some (by kernel_rfl))
  f21:=Tryz.func372.trans (congrArg some (by kernel_rfl))
  f22:=Tryz.func373.trans (congrArg some (by kernel_rfl))
  f23:=Tryz.func374.trans (congrArg some (by kernel_rfl))
  f24:=Tryz.func375.trans (congrArg some (by kernel_rfl))
  f25:=Tryz.func376.trans (congrArg some (by kernel_rfl))
  f26:=Tryz.func377.trans (congrArg some (by kernel_rfl))
  f27:=Tryz.func58.trans (congrArg some (by kernel_rfl))
  f28:=Tryz.func141.trans (congrArg some (by kernel_rfl))
  f29:=Tryz.func227.trans (congrArg some (by kernel_rfl))
  f30:=Tryz.func246.trans (congrArg some (by kernel_rfl))
  f31:=Tryz.func247.trans (congrArg some (by kernel_rfl))
  f32:=Tryz.func248.trans (congrArg some (by kernel_rfl))
  f33:=Tryz.func249.trans (congrArg some (by kernel_rfl))
  f34:=Tryz.func288.trans (congrArg some (by kernel_rfl))
  f35:=Tryz.func289.trans (congrArg some (by kernel_rfl))
  f36:=Tryz.func290.trans (congrArg some (by kernel_rfl))
  f37:=Tryz.func291.trans (congrArg some (by kernel_rfl))
  f38:=Tryz.func292.trans (congrArg some (by kernel_rfl))
  f39:=Tryz.func320.trans (congrArg some (by kernel_rfl))
  f40:=Tryz.func321.trans (congrArg some (by kernel_rfl))
  t0:=Tryz.underlying0
  a0:=Tryz.isAgg0
  z0:=Tryz.sizeOf0
  v0:=Tryz.zeroValue0
  i0:=by kernel_rfl
  t2:=Tryz.underlying2
  a2:=Tryz.isAgg2
  z2:=Tryz.sizeOf2
  v2:=Tryz.zeroValue2
  i2:=by kernel_rfl
  t3:=Tryz.underlying3
  a3:=Tryz.isAgg3
  z3:=Tryz.sizeOf3
  v3:=Tryz.zeroValue3
  i3:=by kernel_rfl
  t4:=Tryz.underlying4
  a4:=Tryz.isAgg4
  z4:=Tryz.sizeOf4
  v4:=Tryz.zeroValue4
  i4:=by kernel_rfl
  t5:=Tryz.underlying5
  a5:=Tryz.isAgg5
  z5:=Tryz.sizeOf5
  v5:=Tryz.zeroValue5
  i5:=by kernel_rfl
  t9:=Tryz.underlying9
  a9:=Tryz.isAgg9
  z9:=Tryz.sizeOf9
  v9:=Tryz.zeroValue9
  i9:=by kernel_rfl
  t20:=Tryz.underlying20
  a20:=Tryz.isAgg20
  z20:=Tryz.sizeOf20
  v20:=Tryz.zeroValue20
  i20:=by kernel_rfl
  t21:=Tryz.underlying21
  a21:=Tryz.isAgg21
  z21:=Tryz.sizeOf21
  v21:=Tryz.zeroValue21
  i21:=by kernel_rfl
  t22:=Tryz.underlying22
  a22:=Tryz.isAgg22
  z22:=Tryz.sizeOf22
  v22:=Tryz.zeroValue22
  i22:=by kernel_rfl
  t24:=Tryz.underlying198
  a24:=Tryz.isAgg198
  z24:=Tryz.sizeOf198
  v24:=Tryz.zeroValue198
  i24:=by kernel_rfl
  t25:=Tryz.underlying436
  a25:=Tryz.isAgg436
  z25:=Tryz.sizeOf436
  v25:=Tryz.zeroValue436
  i25:=by kernel_rfl
  t34:=Tryz.underlying448
  a34:=Tryz.isAgg448
  z34:=Tryz.sizeOf448
  v34:=Tryz.zeroValue448
  i34:=by kernel_rfl
  c34:=by kernel_rfl
  t36:=Tryz.underlying277
  a36:=Tryz.isAgg277
  z36:=Tryz.sizeOf277
  v36:=Tryz.zeroValue277
  i36:=by kernel_rfl
  t37:=Tryz.underlying193
  a37:=Tryz.isAgg193
  z37:=Tryz.sizeOf193
  v37:=Tryz.zeroValue193
  i37:=by kernel_rfl
  t39:=Tryz.underlying450
  a39:=Tryz.isAgg450
  z39:=Tryz.sizeOf450
  v39:=Tryz.zeroValue450
  i39:=by kernel_rfl
  t44:=Tryz.underlying454
  a44:=Tryz.isAgg454
  z44:=Tryz.sizeOf454
  v44:=Tryz.zeroValue454
  i44:=by kernel_rfl
  t47:=Tryz.underlying289
  a47:=Tryz.isAgg289
  z47:=Tryz.sizeOf289
  v47:=Tryz.zeroValue289
  i47:=by kernel_rfl
  t48:=Tryz.underlying456
  a48:=Tryz.isAgg456
  z48:=Tryz.sizeOf456
  v48:=Tryz.zeroValue456
  i48:=by kernel_rfl
  t50:=Tryz.underlying458
  a50:=Tryz.isAgg458
  z50:=Tryz.sizeOf458
  v50:=Tryz.zeroValue458
  i50:=by kernel_rfl
  t52:=Tryz.underlying349
  a52:=Tryz.isAgg349
  z52:=Tryz.sizeOf349
  v52:=Tryz.zeroValue349
  i52:=by kernel_rfl
  t55:=Tryz.underlying352
  a55:=Tryz.isAgg352
  z55:=Tryz.sizeOf352
  v55:=Tryz.zeroValue352
  i55:=by kernel_rfl
  t59:=Tryz.underlying388
  a59:=Tryz.isAgg388
  z59:=Tryz.sizeOf388
  v59:=Tryz.zeroValue388
  i59:=by kernel_rfl
  t60:=Tryz.underlying125
  a60:=Tryz.isAgg125
  z60:=Tryz.sizeOf125
  v60:=Tryz.zeroValue125
  i60:=by kernel_rfl
  t61:=Tryz.underlying389
  a61:=Tryz.isAgg389
  z61:=Tryz.sizeOf389
  t65:=Tryz.underlying420
  a65:=Tryz.isAgg420
  z65:=Tryz.sizeOf420
  v65:=Tryz.zeroValue420
  i65:=by kernel_rfl
  t66:=Tryz.underlying421
  a66:=Tryz.isAgg421
  z66:=Tryz.sizeOf421
  v66:=Tryz.zeroValue421
  i66:=by kernel_rfl
  t67:=Tryz.underlying175
  a67:=Tryz.isAgg175
  z67:=Tryz.sizeOf175
  v67:=Tryz.zeroValue175
  i67:=by kernel_rfl
  g0:=by kernel_rfl
  m0:=by kernel_rfl
  g1:=by kernel_rfl
  m1:=by kernel_rfl
  g2:=by kernel_rfl
  m2:=by kernel_rfl
  g3:=by kernel_rfl
  m3:=by kernel_rfl
  g4:=by kernel_rfl
  m4:=by kernel_rfl}
open Go.RowKit Go.Lib in
theorem Tryz.strconv_ParseUint_10_at64_ok (s:ByteArray) (hmax:s.size<=9223372036854775806) (u:Nat) (h:Lib.parseUintB 64 s.data.toList = .ok u) (w:World) :
    Calls Tryz.prog 355 #[.string s, .int .i64 10, .int .i64 64] w fun e w'=>e = .returned (.tuple #[.int .u64 u, .nilIface])/\(w'=w\/w'=Lib.bytesWorld w 5 s):=Any.strconv_ParseUint_10_at64_ok Tryz.laysPu14 s hmax u h w
open Go.RowKit Go.Lib in
theorem Tryz.isBlank (w:World):PredAt Tryz.prog 328 #[] encR (fun r=>decide ((r:Int)=32)) w:=fun W r _=>by
  unfold FnGives
  go_enter Tryz.func328,Tryz.ntmps328
  go_wp2
  go_ret
  exact⟨rfl,0,rfl⟩
end Go.Proofs
namespace Go.SW
open Go.Proofs Go.RowKit
theorem strings_Flds (H:Hp) (s:Bs) (hs:s.length<=65536):Ph Tryz.prog 327 #[str s, .func (.func 328) #[] #[]] H (fun v H'=>∃ (a:Option Addr) (c:Nat),v = .slice a (flds s).length c/\SlH strE 1 H' (.slice a (flds s).length c) (flds s)):=by
  refine ph_rowB (T:=9) (flds_str s) (fun w hw=>by have :=flds_piece s w hw;omega) fun N L w hm=>?_
  have :=Tryz.strings_FieldsFunc 328 #[] (enters_of Tryz.func328 (by kernel_rfl) rfl) _ ⟨s.toArray⟩ w (by simp[ByteArray.size];omega) (Tryz.isBlank w)
  refine this.mono fun e w' ⟨A,h1,h2,h3,h4⟩=>⟨A,?_,h2,?_,h4⟩
  · rw[h1,List.length_map]
  · rw[List.length_map];exact h3
theorem strconv_PU (s:Bs) (hl:s.length<=19) (h0:0<s.length) (hd:Gs_ s=true) (w:World):Calls Tryz.prog 355 #[str s, .int .i64 10, .int .i64 64] w fun e w'=>e = .returned (.tuple #[.int .u64 (dec s:Int), .nilIface])/\Below w.heap.size w w':=by
  refine (Tryz.strconv_ParseUint_10_at64_ok ⟨s.toArray⟩ (by simp[ByteArray.size];omega) (dec s) (dec_ok hl h0 hd).1 w).mono fun e w' ⟨he,hw⟩=>⟨he,?_⟩
  rcases hw with rfl|rfl
  · exact Below.refl _ _
  · exact Go.Joins.below_bytesWorld _ _ _ _ (Nat.le_refl _)
end Go.SW
namespace Go.Proofs
open Go.Shelf
def Tryz.lays146_ren:Go.Shelf.Ren:=⟨fun|146=>310|221=>326|268=>341|138=>342|143=>343|195=>351|197=>352|218=>353|219=>354|260=>361|217=>362|225=>363|224=>364|267=>365|266=>368|314=>369|n=>n,fun|9=>9|31=>106|3=>3|4=>4|0=>0|105=>433|21=>21|5=>5|46=>277|119=>442|139=>445|138=>444|146=>446|51=>125|n=>n,fun|1=>0|3=>4|4=>5|n=>n⟩
theorem Tryz.lays146:Go.Proofs.Lays.n146 Tryz.prog Tryz.lays146_ren:={
  mixed:=by kernel_rfl
  f138:=Tryz.func342.trans (congrArg some (by kernel_rfl))
  f143:=Tryz.func343.trans (congrArg some (by kernel_rfl))
  f146:=Tryz.func310.trans (congrArg some (by kernel_rfl))
  f195:=Tryz.func351.trans (congrArg some (by kernel_rfl))
  f197:=Tryz.func352.trans (congrArg some (by kernel_rfl))
  f217:=Tryz.func362.trans (congrArg some (by kernel_rfl))
  f218:=Tryz.func353.trans (congrArg some (by kernel_rfl))
  f219:=Tryz.func354.trans (congrArg some (by kernel_rfl))
  f221:=Tryz.func326.trans (congrArg some (by kernel_rfl))
  f224:=Tryz.func364.trans (congrArg some (by kernel_rfl))
  f225:=Tryz.func363.trans (congrArg some (by kernel_rfl))
  f260:=Tryz.func361.trans (congrArg some (by kernel_rfl))
  f266:=Tryz.func368.trans (congrArg some (by kernel_rfl))
  f267:=Tryz.func365.trans (congrArg some (by kernel_rfl))
  f268:=Tryz.func341.trans (congrArg some (by kernel_rfl))
  f314:=Tryz.func369.trans (congrArg some (by kernel_rfl))
  t0:=Tryz.underlying0
  a0:=Tryz.isAgg0
  z0:=Tryz.sizeOf0
  v0:=Tryz.zeroValue0
  t3:=Tryz.underlying3
  a3:=Tryz.isAgg3
  z3:=Tryz.sizeOf3
  v3:=Tryz.zeroValue3
  t4:=Tryz.underlying4
  a4:=Tryz.isAgg4
  z4:=Tryz.sizeOf4
  v4:=Tryz.zeroValue4
  t5:=Tryz.underlying5
  a5:=Tryz.isAgg5
  z5:=Tryz.sizeOf5
  v5:=Tryz.zeroValue5
  t9:=Tryz.underlying9
  a9:=Tryz.isAgg9
  z9:=Tryz.sizeOf9
  v9:=Tryz.zeroValue9
  t21:=Tryz.underlying21
  a21:=Tryz.isAgg21
  z21:=Tryz.sizeOf21
  v21:=Tryz.zeroValue21
  t31:=Tryz.underlying106
  a31:=Tryz.isAgg106
  z31:=Tryz.sizeOf106
  v31:=Tryz.zeroValue106
  t46:=Tryz.underlying277
  a46:=Tryz.isAgg277
  z46:=Tryz.sizeOf277
  v46:=Tryz.zeroValue277
  t51:=Tryz.underlying125
  a51:=Tryz.isAgg125
  z51:=Tryz.sizeOf125
  v51:=Tryz.zeroValue125
  t105:=Tryz.underlying433
  a105:=Tryz.isAgg433
  z105:=Tryz.sizeOf433
  v105:=Tryz.zeroValue433
  t119:=Tryz.underlying442
  a119:=Tryz.isAgg442
  z119:=Tryz.sizeOf442
  t138:=Tryz.underlying444
  a138:=Tryz.isAgg444
  z138:=Tryz.sizeOf444
  v138:=Tryz.zeroValue444
  t139:=Tryz.underlying445
  a139:=Tryz.isAgg445
  z139:=Tryz.sizeOf445
  v139:=Tryz.zeroValue445
  t146:=Tryz.underlying446
  a146:=Tryz.isAgg446
  z146:=Tryz.sizeOf446
  v146:=Tryz.zeroValue446
  g1:=by kernel_rfl
  g3:=by kernel_rfl
  g4:=by kernel_rfl}
open Go.RowKit Go.Lib in
theorem Tryz.strings_Split (s sep:ByteArray) (m:Int) (w:World) (hs:s.size<4294967281) (hm:w.cell? ⟨0,0,none⟩=some (.int .i64 m)) (h1:1<=sep.size) :
    Calls Tryz.prog 310 #[.string s, .string sep] w fun e w'=>
      e = .returned (.slice (some ⟨w.heap.size,0,none⟩) (Lib.countB s sep+1) (Lib.countB s sep+1))/\w'=w.alloc (.cells ((Lib.splitB sep 0 (Lib.countB s sep) s).map Value.string).toArray 9):=Any.strings_Split Tryz.lays146 (by kernel_rfl) s sep m w hs hm h1
end Go.Proofs
namespace Go.SW
open Go.Proofs
theorem strings_Split (H:Hp) (s p:Bs) (hp:p=[46]) (hML:GInt H 0) (hs:s.length<4294967281):Ph Tryz.prog 310 #[str s,str p] H (fun v H'=>∃ (a:Option Addr) (c:Nat),v = .slice a (dots s).length c/\SlH strE 1 H' (.slice a (dots s).length c) (dots s)):=by
  subst hp
  refine ph_strs (T:=9) (fun w hw=>by have :=O0_ s w hw;omega) fun N L w hm=>?_
  obtain⟨m,hc⟩:=hML.cell hm
  refine (Tryz.strings_Split ⟨s.toArray⟩ ⟨#[46]⟩ m w (by simpa [Jp_] using hs) hc (by decide)).mono fun e w' ⟨he,hw⟩=>⟨?_,?_⟩
  · rw[he,Tp_]
  · rw[hw,Si_]
theorem strings_SplitL (H:Hp) (s p:Bs) (hp:p=[10]) (hML:GInt H 0) (hs:s.length<4294967281):Ph Tryz.prog 310 #[str s,str p] H (fun v H'=>∃ (a:Option Addr) (c:Nat),v = .slice a (cuts 10 s).length c/\SlH strE 1 H' (.slice a (cuts 10 s).length c) (cuts 10 s)):=by
  subst hp
  refine ph_strs (T:=9) (fun w hw=>by have :=Oz_ 10 s w hw;omega) fun N L w hm=>?_
  obtain⟨m,hc⟩:=hML.cell hm
  refine (Tryz.strings_Split ⟨s.toArray⟩ ⟨#[10]⟩ m w (by simpa [Jp_] using hs) hc (by decide)).mono fun e w' ⟨he,hw⟩=>⟨?_,?_⟩
  · rw[he,Zn_]
  · rw[hw,Sh_]
theorem ag192:Ag Tryz.prog 192 false:=fun w=>by kernel_rfl
theorem ag9:Ag Tryz.prog 9 false:=fun w=>by kernel_rfl
theorem cb184:R_ Tryz.prog 184:=L_ Tryz.func184 (by kernel_rfl) (by kernel_rfl)
theorem Yn_:Fld Tryz.prog 195 0 0:=fun b o w=>by kernel_rfl
theorem la195_195:liesAt Tryz.prog Tryz.prog.depth 195 (2/Tryz.prog.cellsOf 195) 0 195 1=true:=by kernel_rfl
theorem ne244:NoEsc Tryz.prog 244:=noEsc_of Tryz.func244 (by kernel_rfl) (by kernel_rfl) (by kernel_rfl) (by kernel_rfl)
theorem sz192:Sz Tryz.prog 192 1:=fun w=>by kernel_rfl
theorem sz9:Sz Tryz.prog 9 1:=fun w=>by kernel_rfl
theorem ti195:∃ j,Tryz.prog.info? 195=some j:=Option.isSome_iff_exists.1 (by kernel_rfl)
theorem tz195:∃ j,Tryz.prog.info? 195=some j/\j.size≠0:=exInfo (by kernel_rfl)
set_option maxRecDepth 100000 in
theorem copyCheck {n:Nat} {N:Rest} {F:Fr} {H:Hp} {L:Ls} {ops:List Oper} {ty d:Nat} {pos:String} {af:Array Edge} {K:Fr->Hp->Ls->Prop} {x:Operand} {ats:Array TypeId} {b:Nat} {p v:Value} (i:Nat) (hx:ev F x = .pointer (some ⟨b,0,none⟩)) (hi:L i=some (b,bx 195 [p,v]))
    (hp:p = .pointer none\/p = .pointer (some ⟨b,0,none⟩)) (hd:Nat.blt d n=true) (k:K (upd F d (.tuple #[])) H (lupd L i (some (b,bx 195 [.pointer (some ⟨b,0,none⟩),v])))):Op1 Tryz.prog n N ops ⟨some d, .call ⟨.value (.func 184),#[x],ats⟩,ty,pos,af,none⟩ K F H L:=by
  refine op1_in (en_f (vs:=[.pointer (some ⟨b,0,none⟩)]) cb184 (by simp[evs,hx])) Tryz.func184 rfl Tryz.ntmps184 rfl hd (H9_ (Et_ (ol rfl (Ih_ (v:= .pointer (some ⟨_,_,none⟩)) rfl) (ol rfl (Fv_ rfl) (ol rfl (D2_ rfl Yn_) ?_)))))
  refine ol rfl (Jg_ (i:=i) (v:=p) rfl ag192 hi rfl) ?_
  rcases hp with rfl|rfl
  · refine ol rfl (lo_pnil rfl rfl Tryz.underlying192) (Ix_ (Ib_ (cw_cond_t rfl rfl (Et_ (ol rfl (Ih_ (v:= .pointer (some ⟨_,_,none⟩)) rfl) ?_)))))
    refine ol rfl (Ih_ (v:= .pointer (some ⟨_,_,none⟩)) rfl) (ol rfl (Y8_ (i:=i) rfl hi rfl Tryz.underlying192 Tryz.underlying346 (tz195).choose_spec.1 (tz195).choose_spec.2) (ol rfl (lo_noEsc (v:= .pointer (some ⟨_,_,none⟩)) ne244 rfl) (ol rfl (U2_ (i:=i) rfl hi Tryz.underlying346 Tryz.underlying192 (ti195).choose_spec la195_195) (ol rfl (Fv_ rfl) (ol rfl (D2_ rfl Yn_) ?_)))))
    refine ow1 (Jo_ (i:=i) (v:= .pointer (some ⟨_,_,none⟩)) rfl rfl rfl sz192 hi rfl ?_)
    refine Ix_ ?_
    exact fnK_n (res0 rfl) (.refl _) k
  · refine ol rfl (Tc_ rfl rfl Tryz.underlying192) (Ix_ (Ib_ (Vv_ rfl rfl (H9_ (Et_ ?_)))))
    refine ol rfl (Ih_ (v:= .pointer (some ⟨_,_,none⟩)) rfl) (ol rfl (Fv_ rfl) (ol rfl (D2_ rfl Yn_) (ol rfl (Jg_ (i:=i) (v:= .pointer (some ⟨b,0,none⟩)) rfl ag192 hi rfl) (ol rfl (Ih_ (v:= .pointer (some ⟨_,_,none⟩)) rfl) (ol rfl (Y6_ rfl rfl Tryz.underlying192 (ti195).choose_spec) ?_)))))
    refine Ix_ (Ib_ (Vv_ rfl rfl (Yh_ (fnK_n (res0 rfl) (.refl _) ?_))))
    rwa [lupd_eta hi] at k
theorem sz5:Sz Tryz.prog 5 1:=fun w=>by kernel_rfl
theorem ag169:Ag Tryz.prog 169 true:=fun w=>by kernel_rfl
theorem ag193:Ag Tryz.prog 193 false:=fun w=>by kernel_rfl
theorem by5:By Tryz.prog 5 1:=by_of (by kernel_rfl)
theorem cb156:R_ Tryz.prog 156:=L_ Tryz.func156 (by kernel_rfl) (by kernel_rfl)
theorem cb97:R_ Tryz.prog 97:=L_ Tryz.func97 (by kernel_rfl) (by kernel_rfl)
theorem co5:Tryz.prog.cellsOf 5=1:=by kernel_rfl
theorem fl169_0:Fld Tryz.prog 169 0 0:=fun b o w=>by kernel_rfl
theorem Uf_:Fld Tryz.prog 195 1 1:=fun b o w=>by kernel_rfl
theorem mixd:Tryz.prog.follows .mixedOrders=true:=by kernel_rfl
theorem sz169:Sz Tryz.prog 169 2:=fun w=>by kernel_rfl
theorem sz193:Sz Tryz.prog 193 1:=fun w=>by kernel_rfl
theorem zr169:Zr Tryz.prog 169 [str [], .int .i64 0]:=fun w=>⟨.agg #[str [], .int .i64 0],by kernel_rfl,rfl⟩
theorem zr195:Zr Tryz.prog 195 [.pointer none, .slice none 0 0]:=fun w=>⟨.agg #[.pointer none, .slice none 0 0],by kernel_rfl,rfl⟩
theorem zr5:Zr Tryz.prog 5 [.int .u8 0]:=fun w=>⟨.int .u8 0,by kernel_rfl,rfl⟩
theorem zx5:∃ z,∀ w,(zeroValue 5).run Tryz.prog w = .ok z w:=⟨.int .u8 0,fun w=>by kernel_rfl⟩
theorem out_Num (H:Hp) (o:Out) (n:Int) (n_r:0<=n/\n<=18446744073709551615) (bytes:Int) (bytes_r:-9223372036854775808<=bytes/\bytes<=9223372036854775807) (hlen:o.s.length<=4611686018427387904):Pr Tryz.prog 73 #[.agg (Out.cells o).toArray, .int .u64 n, .int .i64 bytes] H (.agg (Out.cells (B_ o n bytes)).toArray):=by
  refine pr_cw Tryz.func73 rfl Tryz.ntmps73 rfl (fun N=>?_)
  refine H9_ (Et_ (ow1 (op1_box (cs:=[_,_]) 0 rfl rfl (fun b1=>?_))))
  refine ow1 (Rw_ 1 rfl zr169 (fun b2=>?_))
  refine Ix_ (Ib_ (H9_ (Et_ (ow1 (Rw_ 2 rfl zr195 (fun b3=>?_))))))
  refine Ix_ (Ib_ (H9_ (H9_ (Et_ (omi rfl rfl ?_)))))
  refine ol rfl (lo_max rfl rfl) (ol rfl (lo_min rfl rfl) (ol rfl (lo_sub rfl rfl (Pr_ (by omega))) (oai rfl rfl (Ix_ (Ib_ ?_)))))
  refine T1_ ?_
  refine cw_loop5 [8,13,14,15,16,17,18,19,20,21,22] [2,3,4] (fun (j:Nat) (bs:Bs) (p:Value) (v:Value) (en:Option (Nat×Obj)) G=>upd (G) 8 (.int .i64 ((j:Int)-1))) (fun (j:Nat) (bs:Bs) (p:Value) (v:Value) (en:Option (Nat×Obj)) G=>lupd (lupd (G) 2 (some (b3,bx 195 [p,v]))) 3 (en)) (fun (j:Nat) (bs:Bs) (p:Value) (v:Value) (en:Option (Nat×Obj)) H'=>bs++numB j n.toNat=numB (numK bytes) n.toNat/\bs.length+j=numK bytes/\OwnV 1 5 v en bs.length (bs.map u8v)/\(bs.length=0->v = .slice none 0 0)/\(p = .pointer none\/p = .pointer (some ⟨b3,0,none⟩))) (fun (j:Nat) (bs:Bs) (p:Value) (v:Value) (en:Option (Nat×Obj))=>j) (numK bytes) [] (.pointer none) (.slice none 0 0) none (X5_ (Td_ (by first|exact off_refl|(repeat (first|exact off_mask|refine off_upd rfl ?_|refine Xg_ rfl ?_)))) (congrArg (Value.int .i64) (show min (max bytes 0) 8-1=((numK bytes:Nat):Int)-1 by unfold numK;omega))) (My_ (My_ (Rl_ Xh_) rfl) rfl) ?_ ?_
  · exact⟨rfl,by simp,Oo_,fun _=>rfl, .inl rfl⟩
  intro j bs p v en J5 JL5 H5 hp4 hl5
  obtain⟨hk1,hk2,ho,hz,hpp⟩:=hp4
  have hk8:numK bytes<=8:=by unfold numK;omega
  refine H9_ (H9_ (Et_ (omi rfl rfl (ol rfl (lo_geq rfl rfl) (Ix_ ?_)))))
  refine Ib_ (T2_ rfl (fun h6=>?_) (fun h6=>?_))
  · have p7:=dt h6
    refine Yh_ (Ib_ (H9_ (T1_ (Et_ (omi rfl rfl ?_)))))
    refine omi rfl rfl (ol rfl (lo_mul rfl rfl (Pr_ (by omega))) (ol rfl (lo_shr rfl rfl (by omega)) ?_))
    have :=wr_u8 (Int.fdiv n (2 ^ (min ((8*((j:Int)-1)):Int).toNat (IntKind.bits .u64))))
    refine ol rfl (Y4_ rfl (by rw[Tryz.underlying22];rfl) Tryz.underlying5) ?_
    refine ow1 (op1_in (en_f cb156 rfl) Tryz.func156 rfl Tryz.ntmps156 rfl rfl ?_)
    refine H9_ (Et_ (ol rfl (Jw_ rfl) (Ix_ (Ib_ (H9_ ?_)))))
    refine Et_ (ol rfl (Ih_ (v:= .pointer (some ⟨_,_,none⟩)) rfl) ?_)
    refine ow1 (copyCheck 2 rfl rfl hpp rfl ?_)
    refine Ix_ (Ib_ (H9_ (Et_ (ol rfl (Ih_ (v:= .pointer (some ⟨_,_,none⟩)) rfl) (ol rfl (Ih_ (v:= .pointer (some ⟨_,_,none⟩)) rfl) ?_)))))
    refine ol rfl (Fv_ rfl) (ol rfl (D2_ rfl Uf_) (ol rfl (Jg_ (i:=2) rfl ag193 rfl rfl) (omi rfl rfl ?_)))
    refine ow1 (Tg_ (cs:=[_]) 4 rfl Tryz.underlying193 sz5 zx5 rfl ⟨rfl,rfl,trivial⟩ rfl rfl (by decide) (fun b8=>?_))
    refine ow1 (op1_app 3 rfl rfl Tryz.underlying193 Tryz.underlying193 rfl sz5 by5 (by decide) zr5 ho (src_bx (i:=4) rfl rfl) (List.all_eq_true.1 rfl) rfl (by omega) rfl (fun v9 en10 ho11=>?_))
    have ho12:=byte_app (bs:=bs) ho11 (by first|rfl|simp) (wrap8r _)
    refine ol rfl (Fv_ rfl) (ol rfl (D2_ rfl Uf_) ?_)
    refine ow1 (Jo_ (i:=2) rfl rfl (ownV_one ho12) sz193 rfl rfl ?_)
    refine Ix_ (Ib_ (H9_ (Et_ (ol rfl (Jw_ rfl) (Ix_ ?_)))))
    refine Ib_ (Z3_ (fnK_r (res1 rfl (rv_t rfl)) (.refl _) (Ix_ (blkK_n (Ib_ ?_)))))
    refine Et_ (omi rfl rfl (ol rfl (lo_sub rfl rfl (Pr_ (by omega))) (oai rfl rfl (Ix_ ?_))))
    refine next5 (j-1) (bs++[UInt8.ofNat ((IntKind.wrap .u8 (Int.fdiv n (2 ^ (min ((8*((j:Int)-1)):Int).toNat (IntKind.bits .u64)))))).toNat]) (.pointer (some ⟨b3,0,none⟩)) v9 en10 (X5_ (Td_ (by first|exact off_refl|(repeat (first|exact off_mask|refine off_upd rfl ?_|refine Xg_ rfl ?_)))) (congrArg (Value.int .i64) (show ((j:Int)-1)-1=((j-1:Nat):Int)-1 by omega))) (My_ (My_ (Rl_ (by first|exact Xh_|(repeat (first|exact offl_mask|refine offl_upd rfl ?_|refine offl_mask2 rfl ?_)))) rfl) rfl) hl5 ?_ ?_
    · refine⟨?_,?_,ho12,(nz_of ho12 (by simp)), .inr rfl⟩
      · rw[byte_of n_r.1 (by omega) (by omega),List.append_assoc,<- hk1]
        obtain⟨q,rfl⟩:∃ q,j=q+1:=⟨j-1,by omega⟩
        simp[numB]
      simp;omega
    omega
  have p13:=df h6
  refine cw_exit (seqK_e (loopK_e (blkK_hit (Ib_ (H9_ ?_)))))
  refine cw_anyX 3 mixd (vw_q 0 rfl (by kernel_rfl) (by repeat (first|exact Ia_|exact LLe.refl _|exact Fp_|refine Iv_ ?_ rfl)) (fun _ _ hh hl=>D2_ rfl fl169_0) ?_)
  refine vw_q 1 rfl (by kernel_rfl) (by repeat (first|exact Ia_|exact LLe.refl _|exact Fp_|refine Iv_ ?_ rfl)) (fun _ _ hh hl=>Jg_ (i:=0) (v:=str _) rfl ag9 (hl _ _ rfl) rfl) ?_
  refine vw_e 2 rfl (by kernel_rfl) (op1_in (en_f cb97 rfl) Tryz.func97 rfl Tryz.ntmps97 rfl rfl ?_)
  refine H9_ (Et_ (ol rfl (Jw_ (v:=str _) rfl) (Ix_ (Ib_ (H9_ ?_)))))
  refine cw_anyX 3 mixd ?_
  refine vw_q 0 rfl (by kernel_rfl) (by repeat (first|exact Ia_|exact LLe.refl _|exact Fp_|refine Iv_ ?_ rfl)) (fun _ _ hh hl=>Ih_ (v:= .pointer (some ⟨_,_,none⟩)) rfl) ?_
  refine vw_q 1 rfl (by kernel_rfl) (by repeat (first|exact Ia_|exact LLe.refl _|exact Fp_|refine Iv_ ?_ rfl)) (fun _ _ hh hl=>Fv_ rfl) ?_
  refine vw_q 2 rfl (by kernel_rfl) (by repeat (first|exact Ia_|exact LLe.refl _|exact Fp_|refine Iv_ ?_ rfl)) (fun _ _ hh hl=>D2_ rfl Uf_) ?_
  refine vw_q 3 rfl (by kernel_rfl) (by repeat (first|exact Ia_|exact LLe.refl _|exact Fp_|refine Iv_ ?_ rfl)) (fun _ _ hh hl=>Jg_ (i:=2) rfl ag193 (hl _ _ rfl) rfl) ?_
  refine vw_q 4 rfl (by kernel_rfl) (by repeat (first|exact Ia_|exact LLe.refl _|exact Fp_|refine Iv_ ?_ rfl)) (fun _ _ hh hl=>lo_usd rfl ho hz) ?_
  refine vw_q 5 rfl (by kernel_rfl) (by repeat (first|exact Ia_|exact LLe.refl _|exact Fp_|refine Iv_ ?_ rfl)) (fun _ _ hh hl=>Ih_ (v:= .pointer (some ⟨_,_,none⟩)) rfl) ?_
  refine vw_q 6 rfl (by kernel_rfl) (by repeat (first|exact Ia_|exact LLe.refl _|exact Fp_|refine Iv_ ?_ rfl)) (fun _ _ hh hl=>Fv_ rfl) ?_
  refine vw_q 7 rfl (by kernel_rfl) (by repeat (first|exact Ia_|exact LLe.refl _|exact Fp_|refine Iv_ ?_ rfl)) (fun _ _ hh hl=>D2_ rfl Uf_) ?_
  refine vw_q 8 rfl (by kernel_rfl) (by repeat (first|exact Ia_|exact LLe.refl _|exact Fp_|refine Iv_ ?_ rfl)) (fun _ _ hh hl=>Jg_ (i:=2) rfl ag193 (hl _ _ rfl) rfl) ?_
  refine vw_q 9 rfl (by kernel_rfl) (by repeat (first|exact Ia_|exact LLe.refl _|exact Fp_|refine Iv_ ?_ rfl)) (fun _ _ hh hl=>Tb_ rfl ho Tryz.underlying193) ?_
  refine vw_e 10 rfl (by kernel_rfl) (op1_ustr (l:=bs) 3 rfl rfl Tryz.underlying289 co5 ho hz (by have hq:=Q_ (numK bytes) n.toNat;simp[numK] at *;omega) rfl ?_)
  refine⟨⟨(.refl _),(by repeat (first|exact Ia_|exact LLe.refl _|exact Fp_|refine Iv_ ?_ rfl))⟩,?_⟩
  refine vw_q 11 rfl (by kernel_rfl) (by repeat (first|exact Ia_|exact LLe.refl _|exact Fp_|refine Iv_ ?_ rfl)) (fun _ _ hh hl=>Jw_ (v:=str _) rfl) ?_
  refine Zt_ (by kernel_rfl) (Ib_ (Z3_ (fnK_r (res1 rfl (rv_t (v:=str _) rfl)) (.refl _) ?_)))
  refine⟨⟨(.refl _),(by repeat (first|exact Ia_|exact LLe.refl _|exact Fp_|refine Iv_ ?_ rfl))⟩,?_⟩
  refine vw_q 3 rfl (by kernel_rfl) (by repeat (first|exact Ia_|exact LLe.refl _|exact Fp_|refine Iv_ ?_ rfl)) (fun _ _ hh hl=>lo_cat rfl rfl (by have hq:=Q_ (numK bytes) n.toNat;simp[numK] at *;omega)) ?_
  refine vw_q 4 rfl (by kernel_rfl) (by repeat (first|exact Ia_|exact LLe.refl _|exact Fp_|refine Iv_ ?_ rfl)) (fun _ _ hh hl=>D2_ rfl fl169_0) ?_
  refine vw_t 5 rfl (by kernel_rfl) (by kernel_rfl) (Jo_ (i:=0) (v:=str _) rfl rfl rfl sz9 rfl rfl ?_)
  refine Zt_ (by kernel_rfl) (Ib_ (H9_ (Et_ (ol rfl (Qb_ (i:=0) (vs:=[_,_]) rfl ag169 sz169 rfl rfl rfl) ?_))))
  refine ow1 (Th_ (i:=1) (vs:=[_,_]) rfl rfl rfl sz169 rfl rfl rfl ?_)
  refine Ix_ (Ib_ (Z3_ (fnK_r (res1 rfl (rv_c (i:=1) (vs:=[_,_]) rfl ag169 sz169 rfl rfl rfl)) ((HLe.refl _).trans hl5) ?_)))
  obtain rfl :j=0:=by omega
  simp only[numB,List.append_nil] at hk1
  subst hk1
  rfl
end Go.SW
namespace Go.SW.V
open Go.SW Go.Proofs
def gb:Gb:=⟨fun H=>GInt H 0/\GPow H 1,fun H H' hl h=>⟨h.1.mono hl,h.2.mono hl⟩⟩
theorem gbML {H:Hp} (h:gb.p H):GInt H 0:=h.1
theorem gbPow {H:Hp} (h:gb.p H):GPow H 1:=h.2
abbrev ty9:TI:=⟨.str,1,16,[.str []]⟩
def tbv1:Tb:=[(9,ty9)]
theorem tv1:tbB Tryz.prog tbv1=true:=by kernel_rfl
theorem r4_letter (c:Int):Fn Tryz.prog gb 187 [.int .u8 c] (.bool (letter c)):=by
  refine fC Tryz.func187 tv1 Tryz.ntmps187 fun w N H hG=>?_;refine gy tv1 33 ?_;refine rt1 rfl rfl (ple ?_)
  simp[letter, *]
theorem Sm_ (s:Bs):Fn Tryz.prog gb 190 [.str s] (.bool (plain s)):=by
  refine fC Tryz.func190 tv1 Tryz.ntmps190 fun w N H hG=>?_;have s_l:s.length<=9223372036854775807:=w.1;refine gx tv1 14 ?_;refine loop (ι:=Nat) [0,5,6] [] (fun k=>[(7, .int .i64 (k:Int))]) (fun k=>[]) (fun k=>k<=s.length/\(s.drop k).all (fun c=>letter c.toNat)=plain s) (fun k=>s.length-k) 0 ⟨rfl,trivial⟩ trivial ?_ ?_
  · exact⟨by omega,rfl⟩
  rintro k hp1;obtain⟨hk1,hk2⟩:=hp1;refine gx tv1 6 ?_;refine cn rfl (fun p3=>?_) fun p21=>?_
  · have :=u8r (s.getD k 0);refine gx tv1 14 ?_;refine q1 (sidx tv1 k rfl rfl rfl rfl rfl (by omega)) rfl fun w4=>?_;refine gy tv1 16 ?_;refine cnd rfl (fun h5=>?_) (fun h5=>?_)
    · have h6:=bl h5;have p7:=dt h6;have h8:=br h5;have p9:=dt h8;refine gx tv1 2 ?_;refine cndT rfl h5 ?_;refine gy tv1 8 ?_;refine next (k+1) rfl rfl ⟨rfl,trivial⟩ trivial ?_ ?_
      · omega
      exact⟨by omega,by rw[<- hk2,Jr_ (k:=k) (by omega),List.all_cons];generalize ((s.getD k 0).toNat:Int)=z at *;simp[letter, *]⟩
    refine gy tv1 11 ?_;refine cnd rfl (fun h10=>?_) (fun h10=>?_)
    · have h11:=bl h10;have p12:=dt h11;have h13:=br h10;have p14:=dt h13;refine gx tv1 2 ?_;refine cndT rfl h10 ?_;refine gy tv1 8 ?_;refine next (k+1) rfl rfl ⟨rfl,trivial⟩ trivial ?_ ?_
      · omega
      exact⟨by omega,by rw[<- hk2,Jr_ (k:=k) (by omega),List.all_cons];generalize ((s.getD k 0).toNat:Int)=z at *;simp[letter, *]⟩
    refine gx tv1 7 ?_;refine cnd rfl (fun h15=>?_) (fun h15=>?_)
    · have p16:=dt h15;refine gx tv1 2 ?_;refine cndT rfl h15 ?_;refine gy tv1 8 ?_;refine next (k+1) rfl rfl ⟨rfl,trivial⟩ trivial ?_ ?_
      · omega
      exact⟨by omega,by rw[<- hk2,Jr_ (k:=k) (by omega),List.all_cons];generalize ((s.getD k 0).toNat:Int)=z at *;simp[letter, *]⟩
    have p17:=df h15;refine gx tv1 6 ?_;refine cn rfl (fun p19=>?_) fun p20=>?_
    · refine gy tv1 8 ?_;refine next (k+1) rfl rfl ⟨rfl,trivial⟩ trivial ?_ ?_
      · omega
      exact⟨by omega,by rw[<- hk2,Jr_ (k:=k) (by omega),List.all_cons];generalize ((s.getD k 0).toNat:Int)=z at *;simp[letter, *]⟩
    refine gx tv1 12 ?_;refine rt1 rfl rfl (ple ?_);refine congrArg PV.bool ?_;first|(rw[<- hk2,Jr_ (k:=k) (by omega),List.all_cons];generalize ((s.getD k 0).toNat:Int)=z at *;simp[letter, *];done)|(rw[<- hk2,List.drop_of_length_le (by omega)];rfl)
  refine gx tv1 11 ?_;refine rt1 rfl rfl (ple ?_);refine congrArg PV.bool ?_;first|(rw[<- hk2,Jr_ (k:=k) (by omega),List.all_cons];generalize ((s.getD k 0).toNat:Int)=z at *;simp[letter, *];done)|(rw[<- hk2,List.drop_of_length_le (by omega)];rfl)
theorem Dq_ (s:Bs):Fn Tryz.prog gb 109 [.str s] (.int .i64 (En_ s)):=by
  refine fC Tryz.func109 tv1 Tryz.ntmps109 fun w N H hG=>?_;refine gx tv1 14 ?_;refine cn rfl (fun p2=>?_) fun p3=>?_
  · refine gx tv1 8 ?_;refine rt1 rfl rfl (ple ?_)
    simp[En_, *]<;>omega
  refine gx tv1 8 ?_;refine cn rfl (fun p5=>?_) fun p6=>?_
  · refine gx tv1 8 ?_;refine rt1 rfl rfl (ple ?_)
    simp[En_, *]<;>omega
  refine gx tv1 3 ?_;refine call (Sm_ _) rfl rfl fun w7=>?_;refine gx tv1 4 ?_;refine cnd rfl (fun h8=>?_) (fun h8=>?_)
  · have h9:=Dk_ h8;refine gx tv1 8 ?_;refine rt1 rfl rfl (ple ?_)
    simp[En_, *]<;>omega
  have h10:=Ct_ h8;refine gx tv1 9 ?_;refine rt1 rfl rfl (ple ?_)
  simp[En_, *]<;>omega
theorem cb73:R_ Tryz.prog 73:=L_ Tryz.func73 (by kernel_rfl) (by kernel_rfl)
abbrev ty3:TI:=⟨.int .i64,1,8,[.int .i64 0]⟩
abbrev ty22:TI:=⟨.int .u64,1,8,[.int .u64 0]⟩
abbrev ty78:TI:=⟨.int .i64,1,8,[.int .i64 0]⟩
abbrev X3_:TI:=⟨.agg [(0,1),(1,1)],2,24,[.str [], .int .i64 0]⟩
def tbv2:Tb:=[(3,ty3),(9,ty9),(22,ty22),(78,ty78),(169,X3_)]
theorem tv2:tbB Tryz.prog tbv2=true:=by kernel_rfl
theorem out_Num (o:Out) (n bytes:Int) (hlen:o.s.length<=4611686018427387904):Fn Tryz.prog gb 73 [.agg (Out.pc o), .int .u64 n, .int .i64 bytes] (.agg (Out.pc (B_ o n bytes))):=
  fn_of_pr (vs:=[.agg [str o.s, .int .i64 o.err].toArray, .int .u64 n, .int .i64 bytes]) (v:= .agg [str (B_ o n bytes).s, .int .i64 (B_ o n bytes).err].toArray) cb73 rfl rfl
    (fun w H=>Sims.cons (Sim.toAgg (Sims.cons (Sim.str w.1.1) (Sims.cons (Sim.int w.1.2.1.1 w.1.2.1.2) Sims.nil))) (Sims.cons (Sim.int w.2.1.1 w.2.1.2) (Sims.cons (Sim.int w.2.2.1.1 w.2.2.1.2) Sims.nil)))
    (fun w H=>Sim.toAgg (Sims.cons (Sim.str (by have :=F_ o n bytes;omega)) (Sims.cons (Sim.int w.1.2.1.1 w.1.2.1.2) Sims.nil)))
    (fun w H hG=>SW.out_Num H o n w.2.1 bytes w.2.2.1 hlen)
theorem Ik_ (o:Out) (s:Bs) (hlen:o.s.length+s.length<=4611686018427387904:=by ((try have :=hrl (by assumption));first|omega|(simp[B_,W_,Q_,numK]<;>omega))):Fn Tryz.prog gb 77 [.agg (Out.pc o), .str s] (.agg (Out.pc (W_ o s))):=by
  refine fC Tryz.func77 tv2 Tryz.ntmps77 fun w N H hG=>?_;refine gmp tv2 23 [0,1] (fun _=>rfl) (fun _=>rfl) (fun _=>⟨(by first|omega|(simp<;>omega)),trivial⟩) fun B2=>?_;refine rt1 rfl rfl (ple ?_)
  rfl
theorem Cf_ (o:Out):Fn Tryz.prog gb 80 [.agg (Out.pc o)] (.str o.s):=by
  refine fC Tryz.func80 tv2 Tryz.ntmps80 fun w N H hG=>?_;refine gm tv2 14 [0] fun B2=>?_;refine rt1 rfl rfl (ple ?_)
  rfl
theorem Ck_ (o:Out) (s:Bs) (hlen:o.s.length+s.length<=4611686018427386000:=by ((try have :=hrl (by assumption));first|omega|(simp[B_,W_,Q_,numK]<;>omega))):Fn Tryz.prog gb 74 [.agg (Out.pc o), .str s] (.agg (Out.pc (D_ o s))):=by
  refine fC Tryz.func74 tv2 Tryz.ntmps74 fun w N H hG=>?_;refine gm tv2 14 [0,1] fun B2=>?_;refine cn rfl (fun p5=>?_) fun p11=>?_
  · refine gx tv2 8 ?_;refine cn rfl (fun p7=>?_) fun p9=>?_
    · refine gm tv2 13 [] fun _=>?_;refine rt1 rfl rfl (ple ?_)
      simp[D_,Out.pc, *]
    refine gm tv2 10 [] fun _=>?_;refine rt1 rfl rfl (ple ?_)
    simp[D_,Out.pc, *]
  refine gx tv2 7 ?_;refine q1 (qconv tv2 rfl rfl rfl rfl (J1_ (by omega))) rfl fun w12=>?_;refine call (out_Num _ _ _ (by ((try have :=hrl (by assumption));first|omega|(simp[B_,W_,Q_,numK]<;>omega)))) rfl rfl fun w13=>?_;have :=F_ o (s.length:Int) 2;refine gx tv2 1 ?_;refine call (Ik_ _ _) rfl rfl fun w14=>?_;have :=C3_ (B_ o (s.length:Int) 2) s;refine gm tv2 4 [] fun _=>?_;refine rt1 rfl rfl (ple ?_)
  simp[D_,Out.pc, *]
theorem cb166:R_ Tryz.prog 166:=L_ Tryz.func166 (by kernel_rfl) (by kernel_rfl)
theorem cb81:R_ Tryz.prog 81:=L_ Tryz.func81 (by kernel_rfl) (by kernel_rfl)
theorem cb84:R_ Tryz.prog 84:=L_ Tryz.func84 (by kernel_rfl) (by kernel_rfl)
abbrev ty272:TI:=⟨.agg [(0,1),(1,1)],2,24,[.str [], .int .i64 0]⟩
def tbv3:Tb:=[(9,ty9),(78,ty78),(272,ty272)]
theorem tv3:tbB Tryz.prog tbv3=true:=by kernel_rfl
theorem Rv_ (s:Bs):Fb Tryz.prog gb 81 [.str s] 272 (In.pc (⟨s,0⟩)):=by
  refine fb_cw tv3 Tryz.func81 rfl Tryz.ntmps81 rfl cb81 rfl rfl fun w N H hG=>?_;refine gm tv3 14 [0] fun B2=>?_;refine rb rfl rfl rfl rfl rfl ?_;exact ples_rfl
theorem Hd_ (i:In) (code:Int):Fm Tryz.prog gb 166 [.int .i64 code] 272 (In.pc i) (.tup []) (In.pc (Ai_ i code)):=by
  refine O1_ tv3 Tryz.func166 rfl Tryz.ntmps166 rfl cb166 rfl rfl rfl rfl fun w wp b N H hG=>?_;refine gx tv3 3 ?_;refine q1 (qpne Tryz.underlying177 rfl rfl) rfl fun w1=>?_;refine gy tv3 13 ?_;refine cnd rfl (fun h2=>?_) (fun h2=>?_)
  · have h3:=bl h2;have h4:=bl h3;have h5:=br h3;have p6:=dt h5;have h7:=br h2;have h8:=Dk_ h7;have p9:=df h8;refine gm tv3 11 [] fun _=>?_;refine rm0n rfl rfl ?_ rfl rfl rfl ?_
    · exact ple (by first|rfl|(simp[Ai_, *];done))
    refine ples ?_
    first|rfl|(simp[Ai_,In.pc, *];done)|(simp only[Ai_];split<;>simp_all [In.pc])
  refine gx tv3 1 ?_;refine rm0n rfl rfl ?_ rfl rfl rfl ?_
  · exact ple (by first|rfl|(simp[Ai_, *];done))
  refine ples ?_
  first|rfl|(simp[Ai_,In.pc, *];done)|(simp only[Ai_];split<;>simp_all [In.pc])
theorem S7_ (i:In) (n:Int):Fm Tryz.prog gb 84 [.int .i64 n] 272 (In.pc i) (.str ((Em_ i n).1)) (In.pc ((Em_ i n).2)):=by
  refine O1_ tv3 Tryz.func84 rfl Tryz.ntmps84 rfl cb84 rfl rfl rfl rfl fun w wp b N H hG=>?_;refine gx tv3 11 ?_;refine q1 (qpeq Tryz.underlying177 rfl rfl) rfl fun w1=>?_;refine gx tv3 14 ?_;refine cnd rfl (fun h2=>?_) (fun h2=>?_)
  · have h3:=Dk_ h2;have p4:=df h3;refine gx tv3 2 ?_;refine cndT rfl h2 ?_;refine gx tv3 8 ?_;refine rm1 rfl rfl ?_ rfl rfl rfl ?_
    · exact ple (by first|rfl|(simp[Em_,Ai_, *];done))
    refine ples ?_
    first|rfl|(simp[Em_,Ai_,In.pc, *];done)|(simp only[Em_,Ai_];split<;>simp_all [In.pc])
  have h5:=Ct_ h2;have p6:=dt h5;refine gx tv3 6 ?_;refine cn rfl (fun p8=>?_) fun p9=>?_
  · refine gx tv3 8 ?_;refine rm1 rfl rfl ?_ rfl rfl rfl ?_
    · exact ple (by first|rfl|(simp[Em_,Ai_, *];done))
    refine ples ?_
    first|rfl|(simp[Em_,Ai_,In.pc, *];done)|(simp only[Em_,Ai_];split<;>simp_all [In.pc])
  refine gx tv3 12 ?_;refine cn rfl (fun p11=>?_) fun p13=>?_
  · refine gx tv3 3 ?_;refine ef (ecallm (Hd_ _ _) rfl rfl rfl rfl rfl fun w12 w12p=>?_);refine gx tv3 10 ?_;refine rm1 rfl rfl ?_ rfl rfl rfl ?_
    · exact ple (by first|rfl|(simp[Em_,Ai_, *];done))
    refine ples ?_
    first|rfl|(simp[Em_,Ai_,In.pc, *];done)|(simp only[Em_,Ai_];split<;>simp_all [In.pc])
  refine gx tv3 10 ?_;refine q1 (sshi tv3 (n).toNat rfl rfl rfl rfl (by omega) (by omega)) rfl fun w14=>?_;refine gx tv3 11 ?_;refine q1 (sslo tv3 (n).toNat rfl rfl rfl rfl (by omega) (by omega)) rfl fun w15=>?_;refine gm tv3 12 [] fun _=>?_;refine rm1 rfl rfl ?_ rfl rfl rfl ?_
  · exact ple (by first|rfl|(simp[Em_,Ai_, *];done))
  refine ples ?_
  first|rfl|(simp[Em_,Ai_,In.pc, *];done)|(simp only[Em_,Ai_];split<;>simp_all [In.pc])
theorem cb310:R_ Tryz.prog 310:=L_ Tryz.func310 (by kernel_rfl) (by kernel_rfl)
abbrev Vj_:TI:=⟨.slc 9,1,24,[.sl strc []]⟩
def tbv4:Tb:=[(9,ty9),(106,Vj_)]
theorem tv4:tbB Tryz.prog tbv4=true:=by kernel_rfl
theorem strings_Split (s p:Bs) (hp:p=[46]) (hs:s.length<4294967281):Fn Tryz.prog gb 310 [.str s, .str p] (.sl strc (dots s)):=
  ⟨cb310,rfl,fun N H L w us hg hsim hm=>by
    obtain⟨v1,_,rfl,h1,h2⟩:=hsim.inv_cons;obtain⟨v2,_,rfl,h3,h4⟩:=h2.inv_cons
    cases h4.inv_nil
    rw[h1.inv_str.1,h3.inv_str.1]
    refine (SW.strings_Split H s p hp (gbML hg) hs N L w hm).mono fun _ _ ⟨v,H',h5,⟨a,c,h6,h7⟩,h8,h9⟩=>⟨v,H',h5,?_,h8,h9⟩
    rw[h6]
    exact Sim.of_slh (k:=1) ⟨h7.1,fun m hm=>by
      obtain⟨cs,hE,hat⟩:=h7.2 m hm;obtain⟨hE1,hE2⟩:=hE;subst hE1;exact⟨_,⟨rfl,Sims.nil.cons (Sim.str hE2),fun u hu=>by simp at hu;subst hu;rfl⟩,hat⟩⟩ (by have :=dots_le s;omega)⟩
theorem N1_ (s:Bs) (hs:s.length<4294967281:=by omega):Fn Tryz.prog gb 295 [.str s] (.sl strc (Cc_ s)):=by
  refine fC Tryz.func295 tv4 Tryz.ntmps295 fun w N H hG=>?_;refine gx tv4 12 ?_;refine cn rfl (fun p2=>?_) fun p3=>?_
  · refine gx tv4 7 ?_;refine rt1 rfl rfl ?_;refine Ip_ ?_
    simp[Cc_, *]
  refine gx tv4 5 ?_;refine call (strings_Split _ _ (by rfl) (by omega)) rfl rfl fun w4=>?_;refine gx tv4 4 ?_;refine rt1 rfl rfl (ple ?_)
  simp[Cc_, *]
theorem X7_ (s:Bs) (besides:List Bs):Fn Tryz.prog gb 252 [.str s, .sl strc besides] (.int .i64 (keyE besides s)):=by
  refine fC Tryz.func252 tv4 Tryz.ntmps252 fun w N H hG=>?_;have s_l:s.length<=9223372036854775807:=w.1;have besides_l:besides.length<=140737488355328:=w.2.1.1;refine gx tv4 14 ?_;refine cn rfl (fun p2=>?_) fun p3=>?_
  · refine gx tv4 8 ?_;refine rt1 rfl rfl (ple ?_)
    simp[keyE, *]
  refine gx tv4 9 ?_;refine call (N1_ _) rfl rfl fun w4=>?_;refine gx tv4 5 ?_;refine loop (ι:=Nat) [0,1,9,10,11,12,13,14] [] (fun k=>[(15, .int .i64 (k:Int))]) (fun k=>[]) (fun k=>k<=(Cc_ s).length/\(Cc_ s).any (Ur_ besides)=((Cc_ s).drop k).any (Ur_ besides)) (fun k=>(Cc_ s).length-k) 0 ⟨rfl,trivial⟩ trivial ?_ ?_
  · exact⟨Nat.zero_le _,by simp⟩
  rintro k hp5;obtain⟨hk1,hk2⟩:=hp5;have hwl:=Vm_ s;refine gx tv4 6 ?_;refine cn rfl (fun p7=>?_) fun p26=>?_
  · obtain⟨c8,hc9⟩:=getE (xs:=Cc_ s) (m:=k) (by omega);have c8_l:c8.length<=9223372036854775807:=(w4.2 c8 (List.mem_of_getElem? hc9)).1;refine gx tv4 6 ?_;refine q1 (qidx tv4 k rfl rfl rfl hc9 rfl rfl rfl rfl) rfl fun w10=>?_;refine gx tv4 13 ?_;refine loop (ι:=Nat) [0,1,6,9,10,11,12,13,14,15,16,17,18,19,20] [] (fun j=>[(21, .int .i64 (j:Int))]) (fun j=>[]) (fun j=>j<=besides.length/\besides.contains c8=(besides.drop j).contains c8) (fun j=>besides.length-j) 0 ⟨rfl,trivial⟩ trivial ?_ ?_
    · exact⟨Nat.zero_le _,by simp⟩
    rintro j hp11;obtain⟨hj1,hj2⟩:=hp11;refine gx tv4 6 ?_;refine cn rfl (fun p13=>?_) fun p20=>?_
    · obtain⟨c14,hc15⟩:=getE (xs:=besides) (m:=j) (by omega);have c14_l:c14.length<=9223372036854775807:=(w.2.1.2 c14 (List.mem_of_getElem? hc15)).1;refine gx tv4 6 ?_;refine q1 (qidx tv4 j rfl rfl rfl hc15 rfl rfl rfl rfl) rfl fun w16=>?_;refine gx tv4 11 ?_;refine cn rfl (fun p18=>?_) fun p19=>?_
      · refine gy tv4 12 ?_;refine next (k+1) rfl rfl ⟨rfl,trivial⟩ trivial ?_ ?_
        · omega
        refine⟨by omega,?_⟩
        rw[hk2,Dj_ hc9,List.any_cons]
        have hb:Ur_ besides c8=false:=by
          unfold Ur_
          rw[hj2,Dj_ hc15]
          first|(simp[*];done)|simp_all
        simp[hb]
      refine gy tv4 7 ?_;refine next (j+1) rfl rfl ⟨rfl,trivial⟩ trivial ?_ ?_
      · omega
      refine⟨by omega,?_⟩
      rw[hj2,Dj_ hc15,List.contains_cons]
      simp[*]
    refine gx tv4 11 ?_;refine callg rfl (fun hc=>(Sm_ _)) rfl ⟨(fun hc=>hc),trivial⟩ rfl rfl fun _=>?_;refine gy tv4 4 ?_;refine cnd rfl (fun h21=>?_) (fun h21=>?_)
    · refine gx tv4 12 ?_;refine rt1 rfl rfl (ple ?_);have hb:Ur_ besides c8=true:=by
        unfold Ur_
        rw[hj2,List.drop_of_length_le (by omega)]
        first|(simp[*];done)|simp_all
      unfold keyE
      rw[if_neg (by omega),hk2,Dj_ hc9,List.any_cons,hb]
      rfl
    have h22:=orl h21;have p23:=df h22;have h24:=orr h21;have h25:=Ct_ h24;refine gy tv4 7 ?_;refine next (k+1) rfl rfl ⟨rfl,trivial⟩ trivial ?_ ?_
    · omega
    refine⟨by omega,?_⟩
    rw[hk2,Dj_ hc9,List.any_cons]
    have hb:Ur_ besides c8=false:=by
      unfold Ur_
      rw[hj2,List.drop_of_length_le (by omega)]
      first|(simp[*];done)|simp_all
    simp[hb]
  refine gx tv4 12 ?_;refine rt1 rfl rfl (ple ?_)
  unfold keyE
  rw[if_neg (by omega),hk2,List.drop_of_length_le (by omega)]
  rfl
theorem X6_ (s:Bs):Fn Tryz.prog gb 192 [.str s] (.int .i64 (keyE [] s)):=by
  refine fC Tryz.func192 tv4 Tryz.ntmps192 fun w N H hG=>?_;refine gx tv4 8 ?_;refine call (Fn.le (X7_ _ []) (A_ (ple rfl) (A_ S_ Aa_)) (ple rfl) rfl) rfl rfl fun w1=>?_;refine gx tv4 4 ?_;refine rt1 rfl rfl (ple ?_)
  rfl
theorem ag2:Ag Tryz.prog 2 false:=fun w=>by kernel_rfl
theorem ag5:Ag Tryz.prog 5 false:=fun w=>by kernel_rfl
theorem ag9:Ag Tryz.prog 9 false:=fun w=>by kernel_rfl
theorem eqg268:Tryz.prog.eqGuardType Tryz.prog.depth 268=false:=by kernel_rfl
theorem mixd:Tryz.prog.follows .mixedOrders=true:=by kernel_rfl
theorem veq268 (p q:Pair):∀ (H:Hp) (vs us:List Value),Sims H (Pair.pc p) vs->Sims H (Pair.pc q) us->EqV Tryz.prog 10000 268 (.agg vs.toArray) (.agg us.toArray) (decide (p=q)):=by
  intro H vs us hv hu;obtain⟨_,_,rfl,v0,v_0⟩:=hv.inv_cons;obtain⟨_,_,rfl,v1,v_1⟩:=v_0.inv_cons;obtain⟨_,_,rfl,v2,v_2⟩:=v_1.inv_cons;obtain⟨_,_,rfl,v3,v_3⟩:=v_2.inv_cons
  cases v_3.inv_nil
  cases v0.inv_str.1;cases v1.inv_int.1;cases v2.inv_int.1;cases v3.inv_str.1
  obtain⟨_,_,rfl,u0,u_0⟩:=hu.inv_cons;obtain⟨_,_,rfl,u1,u_1⟩:=u_0.inv_cons;obtain⟨_,_,rfl,u2,u_2⟩:=u_1.inv_cons;obtain⟨_,_,rfl,u3,u_3⟩:=u_2.inv_cons
  cases u_3.inv_nil
  cases u0.inv_str.1;cases u1.inv_int.1;cases u2.inv_int.1;cases u3.inv_str.1
  exact EqV.to' (If_ Tryz.underlying268 (by kernel_rfl) (Hg_ (by decide) ag9 rfl rfl (Nk_ Tryz.underlying9) (Hg_ (by decide) ag5 rfl rfl (Bu_ Tryz.underlying5) (Hg_ (by decide) ag2 rfl rfl (Bu_ Tryz.underlying2) (Hg_ (by decide) ag9 rfl rfl (Nk_ Tryz.underlying9) Ie_))))) (by obtain⟨a0,a1,a2,a3⟩:=p;obtain⟨b0,b1,b2,b3⟩:=q;rw[Bool.eq_iff_iff];simp)
abbrev ty2:TI:=⟨.int .i64,1,8,[.int .i64 0]⟩
abbrev ty5:TI:=⟨.int .u8,1,1,[.int .u8 0]⟩
abbrev ty67:TI:=⟨.slc 268,1,24,[.sl Pair.pc []]⟩
abbrev ty268:TI:=⟨.agg [(0,1),(1,1),(2,1),(3,1)],4,48,[.str [], .int .u8 0, .int .i64 0, .str []]⟩
def tbv5:Tb:=[(2,ty2),(5,ty5),(9,ty9),(67,ty67),(268,ty268)]
theorem tv5:tbB Tryz.prog tbv5=true:=by kernel_rfl
theorem eq_Pair (a:List Pair) (b:List Pair):Fn Tryz.prog gb 279 [.sl Pair.pc a, .sl Pair.pc b] (.bool (decide (a=b))):=by
  refine fC Tryz.func279 tv5 Tryz.ntmps279 fun w N H hG=>?_;have a_l:a.length<=140737488355328:=w.1.1;have b_l:b.length<=140737488355328:=w.2.1.1;refine gx tv5 15 ?_;refine cnd rfl (fun h1=>?_) (fun h1=>?_)
  · have h2:=Dk_ h1;have p3:=df h2;refine gx tv5 7 ?_;refine rt1 rfl rfl (ple ?_);exact congrArg PV.bool (T9_ (by assumption)).symm
  have h4:=Ct_ h1;have p5:=dt h4;refine gx tv5 11 ?_;refine loop (ι:=Nat) [0,1,6,7,8,9,10,11,12] [] (fun k=>[(13, .int .i64 (k:Int))]) (fun k=>[]) (fun k=>k<=a.length /\ decide (a=b) = decide (a.drop k=b.drop k)) (fun k=>a.length-k) 0 ⟨rfl,trivial⟩ trivial ?_ ?_
  · exact⟨Nat.zero_le _,rfl⟩
  rintro k hp6;obtain⟨hk1,hk2⟩:=hp6;refine gx tv5 6 ?_;refine cnd rfl (fun h7=>?_) (fun h7=>?_)
  · have p8:=dt h7;refine gx tv5 11 ?_;refine aN [0,1,2,3,4,5] 9 mixd ?_;refine gX tv5 [0,1] 7 ?_;obtain⟨c9,hc10⟩:=getE (xs:=a) (m:=k) (by omega);have c9_w:=Pair.pwf (w.1.2 c9 (List.mem_of_getElem? hc10));refine vq 2 (qidx tv5 k rfl rfl rfl hc10 rfl rfl rfl rfl) rfl (by kernel_rfl) rfl fun w11=>?_;refine gX tv5 [3,4,5] 3 ?_;obtain⟨c12,hc13⟩:=getE (xs:=b) (m:=k) (by omega);have c12_w:=Pair.pwf (w.2.1.2 c12 (List.mem_of_getElem? hc13));refine vq 6 (qidx tv5 k rfl rfl rfl hc13 rfl rfl rfl rfl) rfl (by kernel_rfl) rfl fun w14=>?_;refine gX tv5 [7] 1 ?_;refine vq 8 (sane rfl rfl eqg268 (veq268 c9 c12)) rfl (by kernel_rfl) rfl fun w15=>?_;refine vD ?_;refine gx tv5 1 ?_;refine cnd rfl (fun h16=>?_) (fun h16=>?_)
    · have h17:=Dk_ h16;have p18:=df h17;refine gx tv5 11 ?_;refine rt1 rfl rfl (ple ?_);exact congrArg PV.bool (P3_ hk2 (Dj_ hc10) (Dj_ hc13) (by assumption)).symm
    have h19:=Ct_ h16;have p20:=dt h19;refine gy tv5 7 ?_;refine next (k+1) rfl rfl ⟨rfl,trivial⟩ trivial ?_ ?_
    · omega
    exact⟨by omega,P4_ hk2 (Dj_ hc10) (Dj_ hc13) (by assumption)⟩
  have p21:=df h7;refine gx tv5 11 ?_;refine rt1 rfl rfl (ple ?_);exact congrArg PV.bool (T8_ hk2 (by omega) (by omega)).symm
theorem Wb_ (a:List Pair) (b:List Pair):Fn Tryz.prog gb 250 [.sl Pair.pc a, .sl Pair.pc b] (.bool (decide (a=b))):=by
  refine fC Tryz.func250 tv5 Tryz.ntmps250 fun w N H hG=>?_;refine gx tv5 9 ?_;refine call (eq_Pair _ _) rfl rfl fun w1=>?_;refine gx tv5 4 ?_;refine rt1 rfl rfl (ple ?_)
  rfl
theorem idxF_Pair (s:List Pair) (f:FuncId) (f_fst f_cap:List PV) (f_p:Pair->Bool) (f_h:∀ x,Fn Tryz.prog gb f (argsP.apL f_fst ((.agg (Pair.pc x))::f_cap)) (.bool (f_p x))):Fn Tryz.prog gb 293 [.sl Pair.pc s, .fn f f_fst f_cap] (.int .i64 (idxP f_p s)):=by
  refine fC Tryz.func293 tv5 Tryz.ntmps293 fun w N H hG=>?_;have s_l:s.length<=140737488355328:=w.1.1;refine gx tv5 14 ?_;refine loop (ι:=Nat) [0,1,6,7] [] (fun k=>[(8, .int .i64 (k:Int))]) (fun k=>[]) (fun k=>k<=s.length/\idxP f_p s=idxF f_p k (s.drop k)) (fun k=>s.length-k) 0 ⟨rfl,trivial⟩ trivial ?_ ?_
  · exact⟨Nat.zero_le _,rfl⟩
  rintro k hp1;obtain⟨hk1,hk2⟩:=hp1;refine gx tv5 6 ?_;refine cnd rfl (fun h2=>?_) (fun h2=>?_)
  · have p3:=dt h2;obtain⟨c4,hc5⟩:=getE (xs:=s) (m:=k) (by omega);have c4_w:=Pair.pwf (w.1.2 c4 (List.mem_of_getElem? hc5));refine gx tv5 15 ?_;refine q1 (qidx tv5 k rfl rfl rfl hc5 rfl rfl rfl rfl) rfl fun w6=>?_;refine gx tv5 1 ?_;refine call (f_h c4) rfl rfl fun w7=>?_;refine gx tv5 2 ?_;refine cnd rfl (fun h8=>?_) (fun h8=>?_)
    · refine gx tv5 12 ?_;refine rt1 rfl rfl (ple ?_);exact congrArg (PV.int .i64) (Lc_ hk2 (Dj_ hc5) (by assumption)).symm
    refine gy tv5 7 ?_;refine next (k+1) rfl rfl ⟨rfl,trivial⟩ trivial ?_ ?_
    · omega
    exact⟨by omega,Jf_ hk2 (Dj_ hc5) (by assumption)⟩
  have p9:=df h2;refine gx tv5 11 ?_;refine rt1 rfl rfl (ple ?_);exact congrArg (PV.int .i64) (Lb_ hk2 (by omega)).symm
theorem head_Find1 (p:Pair) (key:Bs):Fn Tryz.prog gb 294 [.agg (Pair.pc p), .el [.str key] 0] (.bool (decide (p.key=key))):=by
  refine fC Tryz.func294 tv5 Tryz.ntmps294 fun w N H hG=>?_;refine gm tv5 16 [0] fun B2=>?_;refine rt1 rfl rfl (ple ?_)
  rfl
theorem V9_ (h:List Pair) (key:Bs):Fn Tryz.prog gb 251 [.sl Pair.pc h, .str key] (.tup [.agg (Pair.pc ((Sp_ h key).getD Pair.zero)), .bool ((Sp_ h key).isSome)]):=by
  refine fC Tryz.func251 tv5 Tryz.ntmps251 fun w N H hG=>?_;refine gm tv5 10 [0,1] fun B2=>?_;refine freeze (i:=0) (t:=3) rfl rfl rfl rfl ?_;refine gx tv5 1 ?_;refine call (idxF_Pair _ _ _ _ (fun z_4:Pair=>decide (z_4.key=key)) (fun z_4=>head_Find1 z_4 key)) rfl rfl fun w5=>?_;have hix5:=Hw_ (fun z_4:Pair=>decide (z_4.key=key)) h;refine gx tv5 10 ?_;refine cn rfl (fun p7=>?_) fun p9=>?_
  · refine gm tv5 9 [] fun _=>?_;refine rt2 rfl rfl ?_;refine ple ?_;have e:=Up_ (by assumption);have e2:Sp_ h key=none:=by unfold Sp_;rw[<- e];congr 1;funext x;exact Rk_ _ _
    rw[e2];rfl
  obtain⟨c10,hc11⟩:=getE (xs:=h) (m:=(idxP (fun z_4:Pair=>decide (z_4.key=key)) h).toNat) (by omega);have c10_w:=Pair.pwf (w.1.2 c10 (List.mem_of_getElem? hc11));refine gx tv5 6 ?_;refine q1 (qidx tv5 (idxP (fun z_4:Pair=>decide (z_4.key=key)) h).toNat rfl rfl (by omega) hc11 rfl rfl rfl rfl) rfl fun w12=>?_;refine gm tv5 6 [] fun _=>?_;refine rt2 rfl rfl ?_;refine ple ?_;have e:=(idxP_get (by assumption) hc11).2;have e2:Sp_ h key=some c10:=by unfold Sp_;rw[<- e];congr 1;funext x;exact Rk_ _ _
  rw[e2];rfl
theorem Q0_ (p:Pair) (ahead:List Pair):Fn Tryz.prog gb 191 [.agg (Pair.pc p), .sl Pair.pc ahead] (.int .i64 (C4_ p ahead)):=by
  refine fC Tryz.func191 tv5 Tryz.ntmps191 fun w N H hG=>?_;refine gm tv5 11 [0] fun B2=>?_;refine call (Dq_ _) rfl rfl fun w3=>?_;refine gx tv5 9 ?_;refine cnd rfl (fun h4=>?_) (fun h4=>?_)
  · have h5:=Dk_ h4;have p6:=df h5;refine gx tv5 8 ?_;refine rt1 rfl rfl (ple ?_);refine congrArg (PV.int .i64) ?_
    simp only[bl1] at *
    unfold C4_
    (repeat' split)<;>first|rfl|(exfalso;omega)|(exfalso;simp_all;done)|(exfalso;simp_all;omega)|grind
  have h7:=Ct_ h4;have p8:=dt h7;refine gx tv5 7 ?_;refine call (V9_ _ _) rfl rfl fun w9=>?_;refine gm tv5 18 [1] fun B11=>?_;refine cnd rfl (fun h12=>?_) (fun h12=>?_)
  · have p13:=dt h12;refine gx tv5 8 ?_;refine rt1 rfl rfl (ple ?_);refine congrArg (PV.int .i64) ?_
    simp only[bl1] at *
    unfold C4_
    (repeat' split)<;>first|rfl|(exfalso;omega)|(exfalso;simp_all;done)|(exfalso;simp_all;omega)|grind
  have p14:=df h12;refine gy tv5 14 ?_;refine cnd rfl (fun h15=>?_) (fun h15=>?_)
  · have h16:=bl h15;have p17:=dt h16;have h18:=br h15;have p19:=dt h18;refine gx tv5 8 ?_;refine rt1 rfl rfl (ple ?_);refine congrArg (PV.int .i64) ?_
    simp only[bl1] at *
    unfold C4_
    (repeat' split)<;>first|rfl|(exfalso;omega)|(exfalso;simp_all;done)|(exfalso;simp_all;omega)|grind
  refine gy tv5 18 ?_;refine cnd rfl (fun h20=>?_) (fun h20=>?_)
  · have h21:=bl h20;have h22:=bl h21;have p23:=dt h22;have h24:=br h21;have h25:=Dk_ h24;have p26:=df h25;have h27:=br h20;have h28:=Dk_ h27;have p29:=df h28;refine gx tv5 8 ?_;refine rt1 rfl rfl (ple ?_);refine congrArg (PV.int .i64) ?_
    simp only[bl1] at *
    unfold C4_
    (repeat' split)<;>first|rfl|(exfalso;omega)|(exfalso;simp_all;done)|(exfalso;simp_all;omega)|grind
  refine gy tv5 14 ?_;refine cnd rfl (fun h30=>?_) (fun h30=>?_)
  · have h31:=bl h30;have p32:=dt h31;have h33:=br h30;have h34:=Dk_ h33;have p35:=df h34;refine gx tv5 2 ?_;refine cndT rfl h30 ?_;refine gx tv5 8 ?_;refine rt1 rfl rfl (ple ?_);refine congrArg (PV.int .i64) ?_
    simp only[bl1] at *
    unfold C4_
    (repeat' split)<;>first|rfl|(exfalso;omega)|(exfalso;simp_all;done)|(exfalso;simp_all;omega)|grind
  refine gy tv5 12 ?_;refine cnd rfl (fun h36=>?_) (fun h36=>?_)
  · have h37:=bl h36;have h38:=Dk_ h37;have p39:=df h38;have h40:=br h36;have h41:=Dk_ h40;have p42:=df h41;refine gx tv5 8 ?_;refine rt1 rfl rfl (ple ?_);refine congrArg (PV.int .i64) ?_
    simp only[bl1] at *
    unfold C4_
    (repeat' split)<;>first|rfl|(exfalso;omega)|(exfalso;simp_all;done)|(exfalso;simp_all;omega)|grind
  refine gx tv5 6 ?_;refine cnd rfl (fun h43=>?_) (fun h43=>?_)
  · refine gx tv5 8 ?_;refine rt1 rfl rfl (ple ?_);refine congrArg (PV.int .i64) ?_
    simp only[bl1] at *
    unfold C4_
    (repeat' split)<;>first|rfl|(exfalso;omega)|(exfalso;simp_all;done)|(exfalso;simp_all;omega)|grind
  refine gx tv5 9 ?_;refine rt1 rfl rfl (ple ?_);refine congrArg (PV.int .i64) ?_
  simp only[bl1] at *
  unfold C4_
  (repeat' split)<;>first|rfl|(exfalso;omega)|(exfalso;simp_all;done)|(exfalso;simp_all;omega)|grind
theorem Jm_ (h:List Pair):Fn Tryz.prog gb 112 [.sl Pair.pc h] (.int .i64 (Fu_ h)):=by
  refine fC Tryz.func112 tv5 Tryz.ntmps112 fun w N H hG=>?_;refine gx tv5 13 ?_;refine cn rfl (fun p2=>?_) fun p3=>?_
  · refine gx tv5 7 ?_;refine rt1 rfl rfl (ple ?_)
    simp[Fu_, *]
  refine gx tv5 11 ?_;refine loop (ι:=Nat) [0,6,7,8,9,10] [] (fun k=>[(11, .int .i64 (k:Int))]) (fun k=>[]) (fun k=>k<=h.length/\Jc_ [] h=Jc_ (h.take k) (h.drop k)) (fun k=>h.length-k) 0 ⟨rfl,trivial⟩ trivial ?_ ?_
  · exact⟨Nat.zero_le _,rfl⟩
  rintro k hp4;obtain⟨hk1,hk2⟩:=hp4;refine gx tv5 6 ?_;refine cn rfl (fun p6=>?_) fun p19=>?_
  · obtain⟨c7,hc8⟩:=getE (xs:=h) (m:=k) (by omega);have c7_w:=Pair.pwf (w.1.2 c7 (List.mem_of_getElem? hc8));refine gx tv5 7 ?_;refine q1 (qidx tv5 k rfl rfl rfl hc8 rfl rfl rfl rfl) rfl fun w9=>?_;refine gm tv5 7 [0] fun B11=>?_;refine aN [1,2,3,4,5,6] 6 mixd ?_;refine gX tv5 [0,1,2] 3 ?_;refine vq 3 (lshi tv5 k rfl rfl rfl rfl rfl (fun _=>rfl) rfl (by omega)) rfl (by kernel_rfl) rfl fun w12=>?_;refine vC 4 rfl (Q0_ _ _) rfl fun w13=>?_;have :=Op_ c7 (h.take k);refine gX tv5 [5] 0 ?_;refine vD ?_;refine gx tv5 7 ?_;refine cnd rfl (fun h14=>?_) (fun h14=>?_)
    · have h15:=Dk_ h14;have p16:=df h15;refine gx tv5 12 ?_;refine rt1 rfl rfl (ple ?_)
      unfold Fu_
      rw[if_neg (by omega),hk2,Dj_ hc8]
      simp only[Jc_]
      rw[if_pos (by omega)]
    have h17:=Ct_ h14;have p18:=dt h17;refine gy tv5 7 ?_;refine next (k+1) rfl rfl ⟨rfl,trivial⟩ trivial ?_ ?_
    · omega
    refine⟨by omega,?_⟩
    rw[hk2,Dj_ hc8,takeE hc8]
    simp only[Jc_]
    rw[if_neg (by omega)]
  refine gx tv5 11 ?_;refine rt1 rfl rfl (ple ?_)
  unfold Fu_
  rw[if_neg (by omega),hk2,List.drop_of_length_le (by omega)]
  rfl
abbrev ty4:TI:=⟨.bool,1,1,[.bool false]⟩
abbrev ty69:TI:=⟨.agg [(0,1),(1,1),(2,1),(3,1),(4,1),(5,1)],6,88,[.str [], .str [], .bool false, .str [], .sl Pair.pc [], .bool false]⟩
def tbv9:Tb:=[(4,ty4),(9,ty9),(67,ty67),(69,ty69)]
theorem tv9:tbB Tryz.prog tbv9=true:=by kernel_rfl
theorem T6_ (a:BindR) (b:BindR):Fn Tryz.prog gb 188 [.agg (BindR.pc a), .agg (BindR.pc b)] (.bool (decide (a=b))):=by
  refine fC Tryz.func188 tv9 Tryz.ntmps188 fun w N H hG=>?_;refine gmy tv9 40 [0,1] fun B2=>?_;refine callg rfl (fun hc=>(Wb_ _ _)) rfl ⟨(fun hc=>hc),(fun hc=>hc),trivial⟩ rfl rfl fun _=>?_;refine gy tv9 12 ?_;refine rt1 rfl rfl (ple ?_);exact congrArg PV.bool (by rw[Bool.eq_iff_iff];first|(simp[BindR.eq_iff,and_assoc];done)|(simp[BindR.eq_iff];grind))
theorem P2_ (yes:Bool):Fn Tryz.prog gb 317 [.bool yes] (.int .u64 (bitN yes)):=by
  refine fC Tryz.func317 tv9 Tryz.ntmps317 fun w N H hG=>?_;refine gx tv9 11 ?_;refine cnd rfl (fun h1=>?_) (fun h1=>?_)
  · refine gx tv9 7 ?_;refine rt1 rfl rfl (ple ?_)
    simp only[bitN, *];rfl
  refine gx tv9 8 ?_;refine rt1 rfl rfl (ple ?_)
  simp only[bitN, *];rfl
theorem cb161:R_ Tryz.prog 161:=L_ Tryz.func161 (by kernel_rfl) (by kernel_rfl)
theorem cb162:R_ Tryz.prog 162:=L_ Tryz.func162 (by kernel_rfl) (by kernel_rfl)
theorem cb167:R_ Tryz.prog 167:=L_ Tryz.func167 (by kernel_rfl) (by kernel_rfl)
theorem cb85:R_ Tryz.prog 85:=L_ Tryz.func85 (by kernel_rfl) (by kernel_rfl)
theorem cb87:R_ Tryz.prog 87:=L_ Tryz.func87 (by kernel_rfl) (by kernel_rfl)
abbrev ty193:TI:=⟨.slc 5,1,24,[.sl u8c []]⟩
def tbv6:Tb:=[(3,ty3),(5,ty5),(9,ty9),(22,ty22),(78,ty78),(193,ty193),(272,ty272)]
theorem tv6:tbB Tryz.prog tbv6=true:=by kernel_rfl
theorem D0_ (i:In) (bytes:Int):Fm Tryz.prog gb 85 [.int .i64 bytes] 272 (In.pc i) (.int .u64 (((J_ i bytes)).1)) (In.pc (((J_ i bytes)).2)):=by
  refine O1_ tv6 Tryz.func85 rfl Tryz.ntmps85 rfl cb85 rfl rfl rfl rfl fun w wp b N H hG=>?_;have hb0:=N8_ i (min bytes 8);refine gx tv6 16 ?_;refine ef (ecallm (S7_ _ (min bytes 8)) rfl rfl rfl rfl rfl fun w1 w1p=>?_);refine ef (ss2b tv6 rfl rfl rfl rfl rfl rfl rfl (by omega) rfl ?_);refine gx tv6 5 ?_;refine loop (ι:=Nat) [0,1,4,8,9,10,11,12,13] [0] (fun k=>[(5, .int .u64 (beN ((Em_ i (min bytes 8)).1.take k):Int)),(14, .int .i64 (k:Int))]) (fun k=>[]) (fun k=>k<=(Em_ i (min bytes 8)).1.length) (fun k=>(Em_ i (min bytes 8)).1.length-k) 0 ⟨rfl,rfl,trivial⟩ trivial ?_ ?_
  · exact Nat.zero_le _
  rintro k hp2;have hb:=N8_ i (min bytes 8);refine gx tv6 6 ?_;refine cn rfl (fun p4=>?_) fun p8=>?_
  · obtain⟨c5,hc6⟩:=getE (xs:=(Em_ i (min bytes 8)).1) (m:=k) (by omega);refine gx tv6 6 ?_;refine q1 (qidx tv6 k rfl rfl rfl hc6 rfl rfl rfl rfl) rfl fun w7=>?_;have :=F3_ ((BitVec.ofInt (IntKind.bits .u64) (IntKind.wrap .u64 ((beN ((Em_ i (min bytes 8)).1.take k):Int)*2 ^ (min (8:Int).toNat (IntKind.bits .u64)))) |||BitVec.ofInt (IntKind.bits .u64) ((c5).toNat:Int)).toNat)
    refine gy tv6 18 ?_;refine next (k+1) rfl rfl ⟨(congrArg (PV.int .u64) (num_step hc6 (by omega))),rfl,trivial⟩ trivial ?_ ?_
    · omega
    omega
  refine gx tv6 12 ?_;refine rm1 rfl rfl ?_ rfl rfl rfl ?_
  · refine ple ?_
    simp only[J_]
    rw[List.take_of_length_le (by omega)]
  exact ples rfl
theorem Gv_ (i:In) (most:Int):Fm Tryz.prog gb 162 [.int .i64 most] 272 (In.pc i) (.str (((I_ i most)).1)) (In.pc (((I_ i most)).2)):=by
  refine O1_ tv6 Tryz.func162 rfl Tryz.ntmps162 rfl cb162 rfl rfl rfl rfl fun w wp b N H hG=>?_;refine gx tv6 8 ?_;refine ef (ecallm (D0_ _ _) rfl rfl rfl rfl rfl fun w1 w1p=>?_);have :=Ah_ i 2;refine q1 (qconv tv6 rfl rfl rfl rfl (Pr_ (by omega))) rfl fun w2=>?_;refine gx tv6 11 ?_;refine cn rfl (fun p4=>?_) fun p7=>?_
  · refine gx tv6 2 ?_;refine ef (ecallm (Hd_ _ _) rfl rfl rfl rfl rfl fun w5 w5p=>?_);refine gx tv6 6 ?_;refine ef (ecallm (S7_ _ _) rfl rfl rfl rfl rfl fun w6 w6p=>?_);refine gx tv6 4 ?_;refine rm1 rfl rfl ?_ rfl rfl rfl ?_
    · exact ple (by simp[I_, *])
    exact ples (by simp[I_,In.pc, *])
  refine gx tv6 6 ?_;refine ef (ecallm (S7_ _ _) rfl rfl rfl rfl rfl fun w8 w8p=>?_);refine gx tv6 4 ?_;refine rm1 rfl rfl ?_ rfl rfl rfl ?_
  · exact ple (by simp[I_, *])
  exact ples (by simp[I_,In.pc, *])
theorem in_Left (i:In):Fm Tryz.prog gb 167 [] 272 (In.pc i) (.int .i64 (i.s.length:Int)) (In.pc i):=by
  refine O1_ tv6 Tryz.func167 rfl Tryz.ntmps167 rfl cb167 rfl rfl rfl rfl fun w wp b N H hG=>?_;refine gx tv6 9 ?_;refine q1 (qpeq Tryz.underlying177 rfl rfl) rfl fun w1=>?_;refine gx tv6 16 ?_;refine rm1 rfl rfl ?_ rfl rfl rfl ?_
  · exact ple rfl
  exact ples rfl
theorem Gu_ (i:In):Fm Tryz.prog gb 161 [] 272 (In.pc i) (.int .i64 i.err) (In.pc i):=by
  refine O1_ tv6 Tryz.func161 rfl Tryz.ntmps161 rfl cb161 rfl rfl rfl rfl fun w wp b N H hG=>?_;refine gx tv6 9 ?_;refine q1 (qpeq Tryz.underlying177 rfl rfl) rfl fun w1=>?_;refine gx tv6 15 ?_;refine rm1 rfl rfl ?_ rfl rfl rfl ?_
  · exact ple rfl
  exact ples rfl
theorem in_End (i:In):Fm Tryz.prog gb 87 [] 272 (In.pc i) (.int .i64 (Yt_ i)) (In.pc i):=by
  refine O1_ tv6 Tryz.func87 rfl Tryz.ntmps87 rfl cb87 rfl rfl rfl rfl fun w wp b N H hG=>?_;refine gx tv6 9 ?_;refine ef (ecallm (Gu_ _) rfl rfl rfl rfl rfl fun w1 w1p=>?_);refine gx tv6 3 ?_;refine callgm rfl (fun hc=>(in_Left _)) rfl rfl rfl rfl ⟨(fun hc=>hc),trivial⟩ rfl rfl fun _=>?_;refine gy tv6 4 ?_;refine cnd rfl (fun h2=>?_) (fun h2=>?_)
  · have h3:=bl h2;have p4:=dt h3;have h5:=br h2;have p6:=dt h5;refine gx tv6 7 ?_;refine rm1 rfl rfl ?_ rfl rfl rfl ?_
    · refine ple ?_;refine congrArg (PV.int .i64) ?_
      simp only[bl1] at *
      unfold Yt_
      (repeat' split)<;>first|rfl|(exfalso;omega)|(exfalso;simp_all;done)|(exfalso;simp_all;omega)|grind
    exact ples rfl
  refine gx tv6 5 ?_;refine ef (ecallm (Gu_ _) rfl rfl rfl rfl rfl fun w7 w7p=>?_);refine gx tv6 4 ?_;refine rm1 rfl rfl ?_ rfl rfl rfl ?_
  · refine ple ?_;refine congrArg (PV.int .i64) ?_
    simp only[bl1] at *
    unfold Yt_
    (repeat' split)<;>first|rfl|(exfalso;omega)|(exfalso;simp_all;done)|(exfalso;simp_all;omega)|grind
  exact ples rfl
def tbv7:Tb:=[(9,ty9),(106,Vj_)]
theorem tv7:tbB Tryz.prog tbv7=true:=by kernel_rfl
theorem Jl_ (pattern:Bs) (key:Bs) (hp:pattern.length<4294967281:=by first|omega|(simp;done)|decide) (hk:key.length<4294967281:=by first|omega|(simp;done)|decide):Fn Tryz.prog gb 296 [.str pattern, .str key] (.bool (mt (Cc_ pattern) (Cc_ key))):=by
  refine fC Tryz.func296 tv7 Tryz.ntmps296 fun w N H hG=>?_;refine gx tv7 8 ?_;refine call (N1_ _) rfl rfl fun w1=>?_;refine gx tv7 1 ?_;refine call (N1_ _) rfl rfl fun w2=>?_;refine gx tv7 18 ?_;refine loop (ι:=Nat×Nat×Int×Nat) [0,1,5,6,11,12,13,14] [] (fun ⟨i,j,b,f⟩=>[(7, .int .i64 (i:Int)),(8, .int .i64 (j:Int)),(9, .int .i64 b),(10, .int .i64 (f:Int))]) (fun ⟨i,j,b,f⟩=>[]) (fun ⟨i,j,b,f⟩=>MI (Cc_ pattern) (Cc_ key) i j b f) (fun ⟨i,j,b,f⟩=>mmu (Cc_ pattern) (Cc_ key) j b f) ⟨0,0,(-1),0⟩ ⟨rfl,rfl,rfl,rfl,trivial⟩ trivial ?_ ?_
  · exact MI.start _ _
  rintro⟨i,j,b,f⟩ hp3;have hmi:=hp3;have hwp:=Vm_ pattern;have hwk:=Vm_ key;have :=hmi.hi;have :=hmi.hj;have :=hmi.hf;have :=hmi.hb;have :=hmi.hbi;refine gx tv7 9 ?_;refine cnd rfl (fun h4=>?_) (fun h4=>?_)
  · have p5:=dt h4;obtain⟨c6,hc7⟩:=getJ (Cc_ pattern) i;refine gx tv7 13 ?_;refine q1g [25,26] rfl (fun hc=>qidx tv7 i rfl rfl rfl (hc7 (by first|omega|(simp only[gOf,bl2] at *;omega))) rfl rfl rfl rfl) ⟨(fun hc=>hc),(fun hc=>hc),trivial⟩ rfl rfl rfl fun _=>?_;refine gy tv7 6 ?_;refine cnd rfl (fun h8=>?_) (fun h8=>?_)
    · have h9:=bl h8;have p10:=dt h9;have h11:=br h8;have p12:=dt h11;refine gy tv7 15 ?_;obtain⟨c13,hc14⟩:=getE (xs:=Cc_ key) (m:=j) (by omega);refine next ⟨(i+1),j,((i:Int)+1),j⟩ rfl rfl ⟨(congrArg (PV.int .i64) (by omega)),rfl,rfl,rfl,trivial⟩ trivial ?_ ?_
      · exact mmu_hash hmi (by omega)
      exact MI.hash hmi (by rw[(hc7 (by first|omega|(simp only[gOf,bl2] at *;omega)))];simp[*])
    refine gx tv7 1 ?_;refine aN [0,1,2,3,4,5] 23 mixd ?_;refine gX tv7 [0,1,2,3,4,5,6] 16 ?_;refine vqg 7 [41,42] rfl (by kernel_rfl) rfl rfl (fun hc=>qidx tv7 i rfl rfl rfl (hc7 (by first|omega|(simp only[gOf,bl2] at *;omega))) rfl rfl rfl rfl) ⟨(fun hc=>hc),(fun hc=>hc),trivial⟩ rfl fun _=>?_;refine gXy tv7 [8,9,10,11,12] 10 ?_;refine vqg 13 [47,48] rfl (by kernel_rfl) rfl rfl (fun hc=>qidx tv7 i rfl rfl rfl (hc7 (by first|omega|(simp only[gOf,bl2] at *;omega))) rfl rfl rfl rfl) ⟨(fun hc=>hc),(fun hc=>hc),trivial⟩ rfl fun _=>?_;refine gXy tv7 [14,15,16] 6 ?_;obtain⟨c15,hc16⟩:=getJ (Cc_ key) j;refine vqg 17 [51,52] rfl (by kernel_rfl) rfl rfl (fun hc=>qidx tv7 j rfl rfl rfl (hc16 (by first|omega|(simp only[gOf,bl2] at *;omega))) rfl rfl rfl rfl) ⟨(fun hc=>hc),(fun hc=>hc),trivial⟩ rfl fun _=>?_;refine gXy tv7 [18,19,20,21,22] 0 ?_;refine vD ?_;refine gx tv7 1 ?_;refine cnd rfl (fun h17=>?_) (fun h17=>?_)
    · have h18:=bl h17;have p19:=dt h18;have h20:=br h17;refine gy tv7 10 ?_;refine next ⟨(i+1),(j+1),b,f⟩ rfl rfl ⟨(congrArg (PV.int .i64) (by omega)),rfl,rfl,rfl,trivial⟩ trivial ?_ ?_
      · exact mmu_step (by omega)
      first|exact MI.step hmi (hc7 (by first|omega|(simp only[gOf,bl2] at *;omega))) (hc16 (by first|omega|(simp only[gOf,bl2] at *;omega))) (by assumption) (by first|exact .inl (by assumption)|exact .inr (by assumption))|exact MI.step hmi (hc7 (by first|omega|(simp only[gOf,bl2] at *;omega))) (hc16 (by first|omega|(simp only[gOf,bl2] at *;omega))) (by simp_all) (by first|(left;simp_all;done)|(right;simp_all;done)|grind)
    refine gx tv7 7 ?_;refine cnd rfl (fun h21=>?_) (fun h21=>?_)
    · have p22:=dt h21;refine gy tv7 15 ?_;have hbad:∀ w,(Cc_ pattern)[i]? = some w->w≠[35]/\w≠[42]/\w≠c15:=by
        intro w hw;obtain⟨hlt,_⟩:=List.getElem?_eq_some_iff.1 hw
        rw[(hc7 (by first|omega|(simp only[gOf,bl2] at *;omega)))] at hw;cases hw
        first|exact⟨by assumption,by assumption,by assumption⟩|(refine⟨?_,?_,?_⟩<;>intro q<;>simp_all)
      refine next ⟨b.toNat,(f+1),b,(f+1)⟩ rfl rfl ⟨(congrArg (PV.int .i64) (by omega)),rfl,rfl,rfl,trivial⟩ trivial ?_ ?_
      · exact mmu_back hmi.hf (by omega)
      exact MI.back hmi (hc16 (by first|omega|(simp only[gOf,bl2] at *;omega))) (by omega) hbad
    have p23:=df h21;refine gx tv7 11 ?_;refine rt1 rfl rfl (ple ?_);have hbad:∀ w,(Cc_ pattern)[i]? = some w->w≠[35]/\w≠[42]/\w≠c15:=by
      intro w hw;obtain⟨hlt,_⟩:=List.getElem?_eq_some_iff.1 hw
      rw[(hc7 (by first|omega|(simp only[gOf,bl2] at *;omega)))] at hw;cases hw
      first|exact⟨by assumption,by assumption,by assumption⟩|(refine⟨?_,?_,?_⟩<;>intro q<;>simp_all)
    exact congrArg PV.bool (MI.none hmi (hc16 (by first|omega|(simp only[gOf,bl2] at *;omega))) (by omega) hbad).symm
  have p24:=df h4;refine gx tv7 7 ?_;refine loop (ι:=Nat) [0,1,5,6,8,9,10,11,12,13,14,15,16,17,18] [] (fun q=>[(7, .int .i64 (q:Int))]) (fun q=>[]) (fun q=>q<=(Cc_ pattern).length/\mt (Cc_ pattern) (Cc_ key)=mt ((Cc_ pattern).drop q) []) (fun q=>(Cc_ pattern).length-q) i ⟨rfl,trivial⟩ trivial ?_ ?_
  · exact⟨by omega,hmi.fin (by omega)⟩
  rintro q hp25;obtain⟨hq1,hq2⟩:=hp25;obtain⟨c26,hc27⟩:=getJ (Cc_ pattern) q;refine gx tv7 10 ?_;refine q1g [74,75] rfl (fun hc=>qidx tv7 q rfl rfl rfl (hc27 (by first|omega|(simp only[gOf,bl2] at *;omega))) rfl rfl rfl rfl) ⟨(fun hc=>hc),(fun hc=>hc),trivial⟩ rfl rfl rfl fun _=>?_;refine gy tv7 5 ?_;refine cnd rfl (fun h28=>?_) (fun h28=>?_)
  · have h29:=bl h28;have p30:=dt h29;have h31:=br h28;have p32:=dt h31;refine gy tv7 9 ?_;refine next (q+1) rfl rfl ⟨rfl,trivial⟩ trivial ?_ ?_
    · omega
    exact⟨by omega,mt_end hq2 (by rw[(hc27 (by first|omega|(simp only[gOf,bl2] at *;omega)))];simp[*])⟩
  refine gx tv7 15 ?_;refine rt1 rfl rfl (ple ?_);refine congrArg PV.bool ?_
  rw[hq2]
  by_cases hql:q<(Cc_ pattern).length
  · rw[mt_endN (hc27 (by first|omega|(simp only[gOf,bl2] at *;omega))) (by first|assumption|simp_all)]
    rw[decide_eq_false_iff_not];omega
  have hqe:q=(Cc_ pattern).length:=by omega
  subst hqe
  rw[List.drop_length];simp[mt]
theorem Vl_ (s:Bs):Fn Tryz.prog gb 275 [.str s] (.int .i64 (keyE patB s)):=by
  refine fC Tryz.func275 tv7 Tryz.ntmps275 fun w N H hG=>?_;refine gx tv7 8 ?_;refine ef (bsl 0 strc [[42],[35]] tv7 rfl rfl rfl rfl rfl (fun _=>rfl) rfl (by decide) (by decide) rfl fun u1=>?_);refine ef (calll 0 rfl (X7_ _ _) rfl rfl rfl fun w2=>?_);refine gx tv7 4 ?_;refine rt1 rfl rfl (ple ?_)
  rfl
theorem cb163:R_ Tryz.prog 163:=L_ Tryz.func163 (by kernel_rfl) (by kernel_rfl)
theorem cb231:R_ Tryz.prog 231:=L_ Tryz.func231 (by kernel_rfl) (by kernel_rfl)
def tbv8:Tb:=[(2,ty2),(3,ty3),(5,ty5),(9,ty9),(22,ty22),(67,ty67),(169,X3_),(268,ty268)]
theorem tv8:tbB Tryz.prog tbv8=true:=by kernel_rfl
theorem Kv_ (h:List Pair):Fn Tryz.prog gb 75 [.sl Pair.pc h] (.tup [.str (Ax_ h), .int .i64 (Fu_ h)]):=by
  refine fC Tryz.func75 tv8 Tryz.ntmps75 fun w N H hG=>?_;have h_l:h.length<=140737488355328:=w.1.1;refine gx tv8 10 ?_;refine call (Jm_ _) rfl rfl fun w1=>?_;refine gx tv8 9 ?_;refine cnd rfl (fun h2=>?_) (fun h2=>?_)
  · have h3:=Dk_ h2;have p4:=df h3;refine gx tv8 9 ?_;refine rt2 rfl rfl ?_;refine ple ?_
    unfold Ax_
    rw[if_neg (by omega)]
  have h5:=Ct_ h2;have p6:=dt h5;refine gx tv8 7 ?_;refine q1 (qconv tv8 rfl rfl rfl rfl (J1_ (by omega))) rfl fun w7=>?_;refine call (out_Num (⟨[],0⟩:Out) _ _ (by ((try have :=hrl (by assumption));first|omega|(simp[B_,W_,Q_,numK]<;>omega)))) rfl rfl fun w8=>?_;have nl0:(⟨[],0⟩:Out).s.length=0:=rfl;have :=F_ (⟨[],0⟩:Out) (h.length:Int) 1;refine gm tv8 13 [0] fun B10=>?_;refine loop (ι:=Nat×Out) [0,2,3,4,5,8,9,10,11,13,14,15,16,17,18,19] [] (fun ⟨k,o⟩=>[(20, .int .i64 (k:Int))]) (fun ⟨k,o⟩=>[(0, .box (B10 0) 169 [.str o.s, .int .i64 o.err])]) (fun ⟨k,o⟩=>k<=h.length/\h.foldl Gl_ (B_ ⟨[],0⟩ h.length 1)=(h.drop k).foldl Gl_ o/\o.s.length<=8+110*k) (fun ⟨k,o⟩=>h.length-k) ⟨0,(B_ (⟨[],0⟩:Out) (h.length:Int) 1)⟩ ⟨rfl,trivial⟩ ⟨rfl,trivial⟩ ?_ ?_
  · exact⟨Nat.zero_le _,rfl,by simp at *;omega⟩
  rintro⟨k,o⟩ hp11;obtain⟨hk1,hk2,hk3⟩:=hp11;have hok:=La_ (h:=h) (by assumption);refine gx tv8 6 ?_;refine cn rfl (fun p13=>?_) fun p36=>?_
  · obtain⟨c14,hc15⟩:=getE (xs:=h) (m:=k) (by omega);have hpk:=hok.2 c14 (List.mem_of_getElem? hc15);have c14_w:=Pair.pwf (w.1.2 c14 (List.mem_of_getElem? hc15));refine gx tv8 6 ?_;refine q1 (qidx tv8 k rfl rfl rfl hc15 rfl rfl rfl rfl) rfl fun w16=>?_;refine gm tv8 6 [1] fun B18=>?_;refine aN [2,3,4,5,6,7] 9 mixd ?_;refine gX tv8 [0,1,2] 6 ?_;refine vC 3 rfl (Ck_ _ _) rfl fun w19=>?_;have :=U_ o c14.key;refine gX tv8 [4,5,6] 2 ?_;refine vC 7 rfl (out_Num _ _ _ (by ((try have :=hrl (by assumption));first|omega|(simp[B_,W_,Q_,numK]<;>omega)))) rfl fun w20=>?_;have :=F_ (D_ o c14.key) c14.kind 1;refine vT 8 rfl (sA tv8 ?_);refine vD ?_;refine gx tv8 14 ?_;refine cn rfl (fun p22=>?_) fun p25=>?_
    · refine gx tv8 5 ?_;refine call (out_Num _ _ _ (by ((try have :=hrl (by assumption));first|omega|(simp[B_,W_,Q_,numK]<;>omega)))) rfl rfl fun w23=>?_;have :=F_ (B_ (D_ o c14.key) c14.kind 1) (IntKind.wrap .u64 c14.num) 8;refine gmy tv8 9 [] fun _=>?_;refine next ⟨(k+1),(B_ (B_ (D_ o c14.key) c14.kind 1) (IntKind.wrap .u64 c14.num) 8)⟩ rfl rfl ⟨rfl,trivial⟩ ⟨rfl,trivial⟩ ?_ ?_
      · simp only[];omega
      have e:(B_ (B_ (D_ o c14.key) c14.kind 1) (IntKind.wrap .u64 c14.num) 8)=Gl_ o c14:=by unfold Gl_;first|(rw[if_pos (by omega)];done)|(rw[if_neg (by omega),if_pos (by omega)];done)|(rw[if_neg (by omega),if_neg (by omega),if_pos (by omega)];done)|(rw[if_neg (by omega),if_neg (by omega),if_neg (by omega)];done)
      simp only[]
      rw[e]
      have hlo:=Jz_ (o:=o) (hok.2 c14 (List.mem_of_getElem? hc15));refine⟨by omega,?_,by omega⟩
      rw[hk2,Dj_ hc15,List.foldl_cons]
    refine gx tv8 6 ?_;refine cn rfl (fun p27=>?_) fun p30=>?_
    · refine gx tv8 4 ?_;refine call (Ck_ _ _) rfl rfl fun w28=>?_;have :=U_ (B_ (D_ o c14.key) c14.kind 1) c14.text;refine gmy tv8 9 [] fun _=>?_;refine next ⟨(k+1),(D_ (B_ (D_ o c14.key) c14.kind 1) c14.text)⟩ rfl rfl ⟨rfl,trivial⟩ ⟨rfl,trivial⟩ ?_ ?_
      · simp only[];omega
      have e:(D_ (B_ (D_ o c14.key) c14.kind 1) c14.text)=Gl_ o c14:=by unfold Gl_;first|(rw[if_pos (by omega)];done)|(rw[if_neg (by omega),if_pos (by omega)];done)|(rw[if_neg (by omega),if_neg (by omega),if_pos (by omega)];done)|(rw[if_neg (by omega),if_neg (by omega),if_neg (by omega)];done)
      simp only[]
      rw[e]
      have hlo:=Jz_ (o:=o) (hok.2 c14 (List.mem_of_getElem? hc15));refine⟨by omega,?_,by omega⟩
      rw[hk2,Dj_ hc15,List.foldl_cons]
    refine gx tv8 6 ?_;refine cn rfl (fun p32=>?_) fun p35=>?_
    · refine gx tv8 5 ?_;refine call (out_Num _ _ _ (by ((try have :=hrl (by assumption));first|omega|(simp[B_,W_,Q_,numK]<;>omega)))) rfl rfl fun w33=>?_;have :=F_ (B_ (D_ o c14.key) c14.kind 1) (IntKind.wrap .u64 c14.num) 1;refine gmy tv8 9 [] fun _=>?_;refine next ⟨(k+1),(B_ (B_ (D_ o c14.key) c14.kind 1) (IntKind.wrap .u64 c14.num) 1)⟩ rfl rfl ⟨rfl,trivial⟩ ⟨rfl,trivial⟩ ?_ ?_
      · simp only[];omega
      have e:(B_ (B_ (D_ o c14.key) c14.kind 1) (IntKind.wrap .u64 c14.num) 1)=Gl_ o c14:=by unfold Gl_;first|(rw[if_pos (by omega)];done)|(rw[if_neg (by omega),if_pos (by omega)];done)|(rw[if_neg (by omega),if_neg (by omega),if_pos (by omega)];done)|(rw[if_neg (by omega),if_neg (by omega),if_neg (by omega)];done)
      simp only[]
      rw[e]
      have hlo:=Jz_ (o:=o) (hok.2 c14 (List.mem_of_getElem? hc15));refine⟨by omega,?_,by omega⟩
      rw[hk2,Dj_ hc15,List.foldl_cons]
    refine gy tv8 8 ?_;refine next ⟨(k+1),(B_ (D_ o c14.key) c14.kind 1)⟩ rfl rfl ⟨rfl,trivial⟩ ⟨rfl,trivial⟩ ?_ ?_
    · simp only[];omega
    have e:(B_ (D_ o c14.key) c14.kind 1)=Gl_ o c14:=by unfold Gl_;first|(rw[if_pos (by omega)];done)|(rw[if_neg (by omega),if_pos (by omega)];done)|(rw[if_neg (by omega),if_neg (by omega),if_pos (by omega)];done)|(rw[if_neg (by omega),if_neg (by omega),if_neg (by omega)];done)
    simp only[]
    rw[e]
    have hlo:=Jz_ (o:=o) (hok.2 c14 (List.mem_of_getElem? hc15));refine⟨by omega,?_,by omega⟩
    rw[hk2,Dj_ hc15,List.foldl_cons]
  refine gx tv8 8 ?_;refine call (Cf_ _) rfl rfl fun w37=>?_;refine gx tv8 5 ?_;refine rt2 rfl rfl ?_;refine ple ?_
  unfold Ax_
  rw[if_pos (by assumption)]
  rw[List.drop_of_length_le (by omega),List.foldl_nil] at hk2
  rw[show Qz_ h=o from hk2]
  have e0:Fu_ h=0:=by assumption
  rw[e0]
theorem head_one (i:In):Fm Tryz.prog gb 231 [] 272 (In.pc i) (.agg (Pair.pc (((Ag_ i)).1))) (In.pc (((Ag_ i)).2)):=by
  refine O1_ tv8 Tryz.func231 rfl Tryz.ntmps231 rfl cb231 rfl rfl rfl rfl fun w wp b N H hG=>?_;refine gm tv8 8 [1] fun B2=>?_;refine ef (ecallm (Gv_ _ _) rfl rfl rfl rfl rfl fun w3 w3p=>?_);have :=Bf_ i 16;generalize hg5:I_ i 16=g4 at *;refine gx tv8 1 ?_;refine ef (ecallm (D0_ _ _) rfl rfl rfl rfl rfl fun w6 w6p=>?_);have :=Ah_ ((g4).2) 1;generalize hg8:J_ ((g4).2) 1=g7 at *;refine q1 (qconv tv8 rfl rfl rfl rfl (Zg_ (by omega))) rfl fun w9=>?_;refine gm tv8 19 [2] fun B11=>?_;refine cn rfl (fun p13=>?_) fun p18=>?_
  · refine gx tv8 2 ?_;refine ef (ecallm (D0_ _ _) rfl rfl rfl rfl rfl fun w14 w14p=>?_);have :=Ah_ ((g7).2) 8;generalize hg16:J_ ((g7).2) 8=g15 at *;refine gm tv8 13 [] fun _=>?_;refine rm1 rfl rfl ?_ rfl rfl rfl ?_;have e:Ag_ i=((⟨(g4).1,(g7).1,(IntKind.wrap .i64 ((g15).1)),[]⟩:Pair),((g15).2)):=by unfold Ag_;simp only;(repeat first|simp only[hg5,hg8,hg16]|rw[if_pos (by omega)]|rw[if_neg (by omega)]);all_goals first|rfl|(rw[Ek_ (by omega) (by omega)];done)|(simp[*];done)|(rw[Ek_ (by omega) (by omega)];simp[*];done)
    · exact ple (by first|(rw[e];done)|(rw[e];rfl))
    have e:Ag_ i=((⟨(g4).1,(g7).1,(IntKind.wrap .i64 ((g15).1)),[]⟩:Pair),((g15).2)):=by unfold Ag_;simp only;(repeat first|simp only[hg5,hg8,hg16]|rw[if_pos (by omega)]|rw[if_neg (by omega)]);all_goals first|rfl|(rw[Ek_ (by omega) (by omega)];done)|(simp[*];done)|(rw[Ek_ (by omega) (by omega)];simp[*];done)
    exact ples (by first|(rw[e];done)|(rw[e];rfl))
  refine gx tv8 6 ?_;refine cn rfl (fun p20=>?_) fun p25=>?_
  · refine gx tv8 2 ?_;refine ef (ecallm (Gv_ _ _) rfl rfl rfl rfl rfl fun w21 w21p=>?_);have :=Bf_ ((g7).2) 64;generalize hg23:I_ ((g7).2) 64=g22 at *;refine gm tv8 12 [] fun _=>?_;refine rm1 rfl rfl ?_ rfl rfl rfl ?_;have e:Ag_ i=((⟨(g4).1,(g7).1,0,(g22).1⟩:Pair),((g22).2)):=by unfold Ag_;simp only;(repeat first|simp only[hg5,hg8,hg23]|rw[if_pos (by omega)]|rw[if_neg (by omega)]);all_goals first|rfl|(rw[Ek_ (by omega) (by omega)];done)|(simp[*];done)|(rw[Ek_ (by omega) (by omega)];simp[*];done)
    · exact ple (by first|(rw[e];done)|(rw[e];rfl))
    have e:Ag_ i=((⟨(g4).1,(g7).1,0,(g22).1⟩:Pair),((g22).2)):=by unfold Ag_;simp only;(repeat first|simp only[hg5,hg8,hg23]|rw[if_pos (by omega)]|rw[if_neg (by omega)]);all_goals first|rfl|(rw[Ek_ (by omega) (by omega)];done)|(simp[*];done)|(rw[Ek_ (by omega) (by omega)];simp[*];done)
    exact ples (by first|(rw[e];done)|(rw[e];rfl))
  refine gx tv8 6 ?_;refine cn rfl (fun p27=>?_) fun p33=>?_
  · refine gx tv8 2 ?_;refine ef (ecallm (D0_ _ _) rfl rfl rfl rfl rfl fun w28 w28p=>?_);have :=Ah_ ((g7).2) 1;generalize hg30:J_ ((g7).2) 1=g29 at *;refine q1 (qconv tv8 rfl rfl rfl rfl (Pr_ (by omega))) rfl fun w31=>?_;refine gm tv8 12 [] fun _=>?_;refine rm1 rfl rfl ?_ rfl rfl rfl ?_;have e:Ag_ i=((⟨(g4).1,(g7).1,(g29).1,[]⟩:Pair),((g29).2)):=by unfold Ag_;simp only;(repeat first|simp only[hg5,hg8,hg30]|rw[if_pos (by omega)]|rw[if_neg (by omega)]);all_goals first|rfl|(rw[Ek_ (by omega) (by omega)];done)|(simp[*];done)|(rw[Ek_ (by omega) (by omega)];simp[*];done)
    · exact ple (by first|(rw[e];done)|(rw[e];rfl))
    have e:Ag_ i=((⟨(g4).1,(g7).1,(g29).1,[]⟩:Pair),((g29).2)):=by unfold Ag_;simp only;(repeat first|simp only[hg5,hg8,hg30]|rw[if_pos (by omega)]|rw[if_neg (by omega)]);all_goals first|rfl|(rw[Ek_ (by omega) (by omega)];done)|(simp[*];done)|(rw[Ek_ (by omega) (by omega)];simp[*];done)
    exact ples (by first|(rw[e];done)|(rw[e];rfl))
  refine gx tv8 2 ?_;refine ef (ecallm (Hd_ _ _) rfl rfl rfl rfl rfl fun w34 w34p=>?_);refine gm tv8 10 [] fun _=>?_;refine rm1 rfl rfl ?_ rfl rfl rfl ?_;have e:Ag_ i=((⟨(g4).1,(g7).1,0,[]⟩:Pair),(Ai_ ((g7).2) 8)):=by unfold Ag_;simp only;(repeat first|simp only[hg5,hg8]|rw[if_pos (by omega)]|rw[if_neg (by omega)]);all_goals first|rfl|(rw[Ek_ (by omega) (by omega)];done)|(simp[*];done)|(rw[Ek_ (by omega) (by omega)];simp[*];done)
  · exact ple (by first|(rw[e];done)|(rw[e];rfl))
  have e:Ag_ i=((⟨(g4).1,(g7).1,0,[]⟩:Pair),(Ai_ ((g7).2) 8)):=by unfold Ag_;simp only;(repeat first|simp only[hg5,hg8]|rw[if_pos (by omega)]|rw[if_neg (by omega)]);all_goals first|rfl|(rw[Ek_ (by omega) (by omega)];done)|(simp[*];done)|(rw[Ek_ (by omega) (by omega)];simp[*];done)
  exact ples (by first|(rw[e];done)|(rw[e];rfl))
theorem Wa_ (i:In):Fm Tryz.prog gb 163 [] 272 (In.pc i) (.sl Pair.pc (((Aw_ i)).1)) (In.pc (((Aw_ i)).2)):=by
  refine O1_ tv8 Tryz.func163 rfl Tryz.ntmps163 rfl cb163 rfl rfl rfl rfl fun w wp b N H hG=>?_;refine gx tv8 8 ?_;refine ef (ecallm (D0_ _ _) rfl rfl rfl rfl rfl fun w1 w1p=>?_);have :=Ah_ i 1;generalize hg3:J_ i 1=g2 at *;refine q1 (qconv tv8 rfl rfl rfl rfl (Pr_ (by omega))) rfl fun w4=>?_;refine gx tv8 10 ?_;refine cn rfl (fun p6=>?_) fun p34=>?_
  · refine gx tv8 2 ?_;refine ef (ecallm (Hd_ _ _) rfl rfl rfl rfl rfl fun w7 w7p=>?_);refine gx tv8 15 ?_;refine sw_own (t:=4) (k:=4) (e:=268) 1 Pair.pc rfl rfl ?_;refine loop (ι:=Nat×(List Pair)×Value×In) [0,3,6,7,8,9,10,11,13] [] (fun ⟨k,h,u_h,j⟩=>[(4, .osl 1),(14, .int .i64 (k:Int))]) (fun ⟨k,h,u_h,j⟩=>[(1, .arr u_h 4 268 Pair.pc h),(0, .box b 272 [.str j.s, .int .i64 j.err])]) (fun ⟨k,h,u_h,j⟩=>k<=((g2).1).toNat/\Aw_ i=Gq_ (((g2).1).toNat-k) j h/\h.length<=k) (fun ⟨k,h,u_h,j⟩=>((g2).1).toNat-k) ⟨0,[],(.slice none 0 0),(Ai_ ((g2).2) 6)⟩ ⟨rfl,rfl,trivial⟩ ⟨rfl,rfl,trivial⟩ ?_ ?_
    · exact⟨Nat.zero_le _,by unfold Aw_;(repeat first|simp only[hg3]|rw[if_pos (by omega)]|rw[if_neg (by omega)]);all_goals rfl,Nat.zero_le _⟩
    rintro⟨k,h,u_h,j⟩ hp8;obtain⟨hk1,hk2,hk3⟩:=hp8;refine gx tv8 6 ?_;refine cn rfl (fun p10=>?_) fun p33=>?_
    · refine gx tv8 7 ?_;refine ef (ecallm (head_one _) rfl rfl rfl rfl rfl fun w11 w11p=>?_);generalize hg13:Ag_ j=g12 at *;refine gm tv8 8 [2] fun B15=>?_;refine ef (ecallm (Gu_ _) rfl rfl rfl rfl rfl fun w16 w16p=>?_);refine gx tv8 3 ?_;refine cnd rfl (fun h17=>?_) (fun h17=>?_)
      · have p18:=dt h17;refine gx tv8 4 ?_;refine ef (calll 1 rfl (Q0_ _ _) rfl rfl rfl fun w19=>?_);have :=Op_ ((g12).1) h;generalize hg21:C4_ ((g12).1) h=g20 at *;refine ef (ecallm (Hd_ _ _) rfl rfl rfl rfl rfl fun w22 w22p=>?_);refine gx tv8 6 ?_;refine ef (ecallm (Gu_ _) rfl rfl rfl rfl rfl fun w23 w23p=>?_);refine gx tv8 3 ?_;refine cnd rfl (fun h24=>?_) (fun h24=>?_)
        · have h25:=Dk_ h24;have p26:=df h25;refine gx tv8 12 ?_;refine rm1 rfl rfl ?_ rfl rfl rfl ?_
          · have e:Aw_ i=([],(Ai_ ((g12).2) g20)):=by
              rw[hk2,show ((g2).1).toNat-k=(((g2).1).toNat-(k+1))+1 by omega]
              have z:=fun k=>M0_ (k:=k) (h:=h) (show Ag_ j=(g12.1,g12.2) from hg13) (by omega) (by rw[hg21];omega)
              rw[hg21] at z
              exact z _
            exact Ip_ (by rw[e])
          have e:Aw_ i=([],(Ai_ ((g12).2) g20)):=by
            rw[hk2,show ((g2).1).toNat-k=(((g2).1).toNat-(k+1))+1 by omega]
            have z:=fun k=>M0_ (k:=k) (h:=h) (show Ag_ j=(g12.1,g12.2) from hg13) (by omega) (by rw[hg21];omega)
            rw[hg21] at z
            exact z _
          exact ples (by first|(rw[e];done)|(rw[e];rfl))
        have h27:=Ct_ h24;have p28:=dt h27;refine gx tv8 5 ?_;refine ef (bsl 3 Pair.pc [((g12).1)] tv8 rfl rfl rfl rfl rfl (fun _=>rfl) rfl (by decide) (by decide) rfl fun u29=>?_);refine ef (app tv8 [((g12).1)] rfl rfl rfl rfl rfl rfl rfl rfl rfl (src_o rfl rfl) (by first|omega|(simp;omega)) rfl fun u30=>?_);refine gy tv8 8 ?_;refine next ⟨(k+1),(h++[((g12).1)]),(u30),(Ai_ ((g12).2) g20)⟩ rfl rfl ⟨rfl,rfl,trivial⟩ ⟨rfl,rfl,trivial⟩ ?_ ?_
        · simp only[];omega
        refine⟨by omega,?_,by simp;omega⟩
        rw[hk2,show ((g2).1).toNat-k=(((g2).1).toNat-(k+1))+1 by omega]
        have z:=fun k=>Xo_ (k:=k) (h:=h) (show Ag_ j=(g12.1,g12.2) from hg13) (by omega) (by rw[hg21];omega)
        rw[hg21] at z
        exact z _
      have p31:=df h17;refine gx tv8 6 ?_;refine ef (ecallm (Gu_ _) rfl rfl rfl rfl rfl fun w32 w32p=>?_);refine gx tv8 3 ?_;refine cndT rfl (by rw[h17]<;>rfl) ?_;refine gx tv8 12 ?_;refine rm1 rfl rfl ?_ rfl rfl rfl ?_
      · have e:Aw_ i=([],((g12).2)):=by
          rw[hk2,show ((g2).1).toNat-k=(((g2).1).toNat-(k+1))+1 by omega]
          exact Mz_ (show Ag_ j=(g12.1,g12.2) from hg13) (by omega)
        exact Ip_ (by rw[e])
      have e:Aw_ i=([],((g12).2)):=by
        rw[hk2,show ((g2).1).toNat-k=(((g2).1).toNat-(k+1))+1 by omega]
        exact Mz_ (show Ag_ j=(g12.1,g12.2) from hg13) (by omega)
      exact ples (by first|(rw[e];done)|(rw[e];rfl))
    refine gx tv8 11 ?_;refine givec 1 rfl ?_;refine gx tv8 1 ?_;refine rm1 rfl rfl ?_ rfl rfl rfl ?_
    · have e:Aw_ i=(h,j):=by
        rw[hk2,show ((g2).1).toNat-k=0 by omega]
        rfl
      exact ple (by rw[e])
    have e:Aw_ i=(h,j):=by
      rw[hk2,show ((g2).1).toNat-k=0 by omega]
      rfl
    exact ples (by first|(rw[e];done)|(rw[e];rfl))
  refine gx tv8 15 ?_;refine sw_own (t:=4) (k:=4) (e:=268) 1 Pair.pc rfl rfl ?_;refine loop (ι:=Nat×(List Pair)×Value×In) [0,3,6,7,8,9,10,13] [] (fun ⟨k,h,u_h,j⟩=>[(4, .osl 1),(14, .int .i64 (k:Int))]) (fun ⟨k,h,u_h,j⟩=>[(1, .arr u_h 4 268 Pair.pc h),(0, .box b 272 [.str j.s, .int .i64 j.err])]) (fun ⟨k,h,u_h,j⟩=>k<=((g2).1).toNat/\Aw_ i=Gq_ (((g2).1).toNat-k) j h/\h.length<=k) (fun ⟨k,h,u_h,j⟩=>((g2).1).toNat-k) ⟨0,[],(.slice none 0 0),((g2).2)⟩ ⟨rfl,rfl,trivial⟩ ⟨rfl,rfl,trivial⟩ ?_ ?_
  · exact⟨Nat.zero_le _,by unfold Aw_;(repeat first|simp only[hg3]|rw[if_pos (by omega)]|rw[if_neg (by omega)]);all_goals rfl,Nat.zero_le _⟩
  rintro⟨k,h,u_h,j⟩ hp35;obtain⟨hk1,hk2,hk3⟩:=hp35;refine gx tv8 6 ?_;refine cn rfl (fun p37=>?_) fun p60=>?_
  · refine gx tv8 7 ?_;refine ef (ecallm (head_one _) rfl rfl rfl rfl rfl fun w38 w38p=>?_);generalize hg40:Ag_ j=g39 at *;refine gm tv8 8 [2] fun B42=>?_;refine ef (ecallm (Gu_ _) rfl rfl rfl rfl rfl fun w43 w43p=>?_);refine gx tv8 3 ?_;refine cnd rfl (fun h44=>?_) (fun h44=>?_)
    · have p45:=dt h44;refine gx tv8 4 ?_;refine ef (calll 1 rfl (Q0_ _ _) rfl rfl rfl fun w46=>?_);have :=Op_ ((g39).1) h;generalize hg48:C4_ ((g39).1) h=g47 at *;refine ef (ecallm (Hd_ _ _) rfl rfl rfl rfl rfl fun w49 w49p=>?_);refine gx tv8 6 ?_;refine ef (ecallm (Gu_ _) rfl rfl rfl rfl rfl fun w50 w50p=>?_);refine gx tv8 3 ?_;refine cnd rfl (fun h51=>?_) (fun h51=>?_)
      · have h52:=Dk_ h51;have p53:=df h52;refine gx tv8 12 ?_;refine rm1 rfl rfl ?_ rfl rfl rfl ?_
        · have e:Aw_ i=([],(Ai_ ((g39).2) g47)):=by
            rw[hk2,show ((g2).1).toNat-k=(((g2).1).toNat-(k+1))+1 by omega]
            have z:=fun k=>M0_ (k:=k) (h:=h) (show Ag_ j=(g39.1,g39.2) from hg40) (by omega) (by rw[hg48];omega)
            rw[hg48] at z
            exact z _
          exact Ip_ (by rw[e])
        have e:Aw_ i=([],(Ai_ ((g39).2) g47)):=by
          rw[hk2,show ((g2).1).toNat-k=(((g2).1).toNat-(k+1))+1 by omega]
          have z:=fun k=>M0_ (k:=k) (h:=h) (show Ag_ j=(g39.1,g39.2) from hg40) (by omega) (by rw[hg48];omega)
          rw[hg48] at z
          exact z _
        exact ples (by first|(rw[e];done)|(rw[e];rfl))
      have h54:=Ct_ h51;have p55:=dt h54;refine gx tv8 5 ?_;refine ef (bsl 3 Pair.pc [((g39).1)] tv8 rfl rfl rfl rfl rfl (fun _=>rfl) rfl (by decide) (by decide) rfl fun u56=>?_);refine ef (app tv8 [((g39).1)] rfl rfl rfl rfl rfl rfl rfl rfl rfl (src_o rfl rfl) (by first|omega|(simp;omega)) rfl fun u57=>?_);refine gy tv8 8 ?_;refine next ⟨(k+1),(h++[((g39).1)]),(u57),(Ai_ ((g39).2) g47)⟩ rfl rfl ⟨rfl,rfl,trivial⟩ ⟨rfl,rfl,trivial⟩ ?_ ?_
      · simp only[];omega
      refine⟨by omega,?_,by simp;omega⟩
      rw[hk2,show ((g2).1).toNat-k=(((g2).1).toNat-(k+1))+1 by omega]
      have z:=fun k=>Xo_ (k:=k) (h:=h) (show Ag_ j=(g39.1,g39.2) from hg40) (by omega) (by rw[hg48];omega)
      rw[hg48] at z
      exact z _
    have p58:=df h44;refine gx tv8 6 ?_;refine ef (ecallm (Gu_ _) rfl rfl rfl rfl rfl fun w59 w59p=>?_);refine gx tv8 3 ?_;refine cndT rfl (by rw[h44]<;>rfl) ?_;refine gx tv8 12 ?_;refine rm1 rfl rfl ?_ rfl rfl rfl ?_
    · have e:Aw_ i=([],((g39).2)):=by
        rw[hk2,show ((g2).1).toNat-k=(((g2).1).toNat-(k+1))+1 by omega]
        exact Mz_ (show Ag_ j=(g39.1,g39.2) from hg40) (by omega)
      exact Ip_ (by rw[e])
    have e:Aw_ i=([],((g39).2)):=by
      rw[hk2,show ((g2).1).toNat-k=(((g2).1).toNat-(k+1))+1 by omega]
      exact Mz_ (show Ag_ j=(g39.1,g39.2) from hg40) (by omega)
    exact ples (by first|(rw[e];done)|(rw[e];rfl))
  refine gx tv8 11 ?_;refine givec 1 rfl ?_;refine gx tv8 1 ?_;refine rm1 rfl rfl ?_ rfl rfl rfl ?_
  · have e:Aw_ i=(h,j):=by
      rw[hk2,show ((g2).1).toNat-k=0 by omega]
      rfl
    exact ple (by rw[e])
  have e:Aw_ i=(h,j):=by
    rw[hk2,show ((g2).1).toNat-k=0 by omega]
    rfl
  exact ples (by first|(rw[e];done)|(rw[e];rfl))
theorem ag22:Ag Tryz.prog 22 false:=fun w=>by kernel_rfl
theorem eqg64:Tryz.prog.eqGuardType Tryz.prog.depth 64=false:=by kernel_rfl
theorem eqg66:Tryz.prog.eqGuardType Tryz.prog.depth 66=false:=by kernel_rfl
theorem veq64 (p q:ShopR):∀ (H:Hp) (vs us:List Value),Sims H (ShopR.pc p) vs->Sims H (ShopR.pc q) us->EqV Tryz.prog 10000 64 (.agg vs.toArray) (.agg us.toArray) (decide (p=q)):=by
  intro H vs us hv hu;obtain⟨_,_,rfl,v0,v_0⟩:=hv.inv_cons;obtain⟨_,_,rfl,v1,v_1⟩:=v_0.inv_cons;obtain⟨_,_,rfl,v2,v_2⟩:=v_1.inv_cons
  cases v_2.inv_nil
  cases v0.inv_str.1;cases v1.inv_int.1;cases v2.inv_str.1
  obtain⟨_,_,rfl,u0,u_0⟩:=hu.inv_cons;obtain⟨_,_,rfl,u1,u_1⟩:=u_0.inv_cons;obtain⟨_,_,rfl,u2,u_2⟩:=u_1.inv_cons
  cases u_2.inv_nil
  cases u0.inv_str.1;cases u1.inv_int.1;cases u2.inv_str.1
  exact EqV.to' (If_ Tryz.underlying64 (by kernel_rfl) (Hg_ (by decide) ag9 rfl rfl (Nk_ Tryz.underlying9) (Hg_ (by decide) ag5 rfl rfl (Bu_ Tryz.underlying5) (Hg_ (by decide) ag9 rfl rfl (Nk_ Tryz.underlying9) Ie_)))) (by obtain⟨a0,a1,a2⟩:=p;obtain⟨b0,b1,b2⟩:=q;rw[Bool.eq_iff_iff];simp)
theorem veq66 (p q:QueueR):∀ (H:Hp) (vs us:List Value),Sims H (QueueR.pc p) vs->Sims H (QueueR.pc q) us->EqV Tryz.prog 10000 66 (.agg vs.toArray) (.agg us.toArray) (decide (p=q)):=by
  intro H vs us hv hu;obtain⟨_,_,rfl,v0,v_0⟩:=hv.inv_cons;obtain⟨_,_,rfl,v1,v_1⟩:=v_0.inv_cons;obtain⟨_,_,rfl,v2,v_2⟩:=v_1.inv_cons;obtain⟨_,_,rfl,v3,v_3⟩:=v_2.inv_cons
  cases v_3.inv_nil
  cases v0.inv_str.1;cases v1.inv_int.1;cases v2.inv_int.1;cases v3.inv_str.1
  obtain⟨_,_,rfl,u0,u_0⟩:=hu.inv_cons;obtain⟨_,_,rfl,u1,u_1⟩:=u_0.inv_cons;obtain⟨_,_,rfl,u2,u_2⟩:=u_1.inv_cons;obtain⟨_,_,rfl,u3,u_3⟩:=u_2.inv_cons
  cases u_3.inv_nil
  cases u0.inv_str.1;cases u1.inv_int.1;cases u2.inv_int.1;cases u3.inv_str.1
  exact EqV.to' (If_ Tryz.underlying66 (by kernel_rfl) (Hg_ (by decide) ag9 rfl rfl (Nk_ Tryz.underlying9) (Hg_ (by decide) ag22 rfl rfl (Bu_ Tryz.underlying22) (Hg_ (by decide) ag22 rfl rfl (Bu_ Tryz.underlying22) (Hg_ (by decide) ag9 rfl rfl (Nk_ Tryz.underlying9) Ie_))))) (by obtain⟨a0,a1,a2,a3⟩:=p;obtain⟨b0,b1,b2,b3⟩:=q;rw[Bool.eq_iff_iff];simp)
abbrev ty64:TI:=⟨.agg [(0,1),(1,1),(2,1)],3,40,[.str [], .int .u8 0, .str []]⟩
abbrev ty66:TI:=⟨.agg [(0,1),(1,1),(2,1),(3,1)],4,48,[.str [], .int .u64 0, .int .u64 0, .str []]⟩
abbrev ty71:TI:=⟨.agg [(0,1),(1,1),(2,1),(3,1),(4,1),(5,1),(6,1)],7,96,[.int .u64 0, .str [], .str [], .sl Pair.pc [], .str [], .int .u64 0, .int .u8 0]⟩
abbrev ty73:TI:=⟨.agg [(0,1),(1,1),(2,3),(5,4),(9,6),(15,1),(16,1),(17,1),(18,1),(19,1),(20,1),(21,7),(28,1)],29,344,[.int .u8 0, .int .u64 0, .str [], .int .u8 0, .str [], .str [], .int .u64 0, .int .u64 0, .str [], .str [], .str [], .bool false, .str [], .sl Pair.pc [], .bool false, .str [], .int .u64 0, .int .u8 0, .int .u8 0, .int .u8 0, .int .u64 0, .int .u64 0, .str [], .str [], .sl Pair.pc [], .str [], .int .u64 0, .int .u8 0, .str []]⟩
def tbv14:Tb:=[(5,ty5),(9,ty9),(22,ty22),(64,ty64),(66,ty66),(67,ty67),(69,ty69),(71,ty71),(73,ty73),(169,X3_)]
theorem tv14:tbB Tryz.prog tbv14=true:=by kernel_rfl
theorem Ii_ (m:Mail):Fn Tryz.prog gb 113 [.agg (Mail.pc m)] (.int .i64 (Gy_ m)):=by
  refine fC Tryz.func113 tv14 Tryz.ntmps113 fun w N H hG=>?_;refine gm tv14 11 [0] fun B2=>?_;refine call (Dq_ _) rfl rfl fun w3=>?_;refine gx tv14 9 ?_;refine cnd rfl (fun h4=>?_) (fun h4=>?_)
  · have h5:=Dk_ h4;have p6:=df h5;refine gx tv14 8 ?_;refine rt1 rfl rfl (ple ?_);refine congrArg (PV.int .i64) ?_
    simp only[bl1] at *
    unfold Gy_
    (repeat' split)<;>first|rfl|(exfalso;omega)|(exfalso;simp_all;done)|(exfalso;simp_all;omega)|grind
  have h7:=Ct_ h4;have p8:=dt h7;refine gx tv14 7 ?_;refine call (X6_ _) rfl rfl fun w9=>?_;refine gx tv14 9 ?_;refine cnd rfl (fun h10=>?_) (fun h10=>?_)
  · have h11:=Dk_ h10;have p12:=df h11;refine gx tv14 8 ?_;refine rt1 rfl rfl (ple ?_);refine congrArg (PV.int .i64) ?_
    simp only[bl1] at *
    unfold Gy_
    (repeat' split)<;>first|rfl|(exfalso;omega)|(exfalso;simp_all;done)|(exfalso;simp_all;omega)|grind
  have h13:=Ct_ h10;have p14:=dt h13;refine gx tv14 7 ?_;refine call (Jm_ _) rfl rfl fun w15=>?_;refine gx tv14 11 ?_;refine cnd rfl (fun h16=>?_) (fun h16=>?_)
  · have h17:=Dk_ h16;have p18:=df h17;refine gx tv14 9 ?_;refine rt1 rfl rfl (ple ?_);refine congrArg (PV.int .i64) ?_
    simp only[bl1] at *
    unfold Gy_
    (repeat' split)<;>first|rfl|(exfalso;omega)|(exfalso;simp_all;done)|(exfalso;simp_all;omega)|grind
  have h19:=Ct_ h16;have p20:=dt h19;refine gx tv14 9 ?_;refine cnd rfl (fun h21=>?_) (fun h21=>?_)
  · have p22:=dt h21;refine gx tv14 8 ?_;refine rt1 rfl rfl (ple ?_);refine congrArg (PV.int .i64) ?_
    simp only[bl1] at *
    unfold Gy_
    (repeat' split)<;>first|rfl|(exfalso;omega)|(exfalso;simp_all;done)|(exfalso;simp_all;omega)|grind
  have p23:=df h21;refine gx tv14 8 ?_;refine cnd rfl (fun h24=>?_) (fun h24=>?_)
  · have p25:=dt h24;refine gx tv14 8 ?_;refine rt1 rfl rfl (ple ?_);refine congrArg (PV.int .i64) ?_
    simp only[bl1] at *
    unfold Gy_
    (repeat' split)<;>first|rfl|(exfalso;omega)|(exfalso;simp_all;done)|(exfalso;simp_all;omega)|grind
  have p26:=df h24;refine gx tv14 9 ?_;refine rt1 rfl rfl (ple ?_);refine congrArg (PV.int .i64) ?_
  simp only[bl1] at *
  unfold Gy_
  (repeat' split)<;>first|rfl|(exfalso;omega)|(exfalso;simp_all;done)|(exfalso;simp_all;omega)|grind
theorem K2_ (m:Mail):Fn Tryz.prog gb 158 [.agg (Mail.pc m)] (.tup [.str (B3_ m), .int .i64 (Gy_ m)]):=by
  refine fC Tryz.func158 tv14 Tryz.ntmps158 fun w N H hG=>?_;have m_w:=Mail.pwf w.1;have m_w':=m_w
  simp only[Mail.wf] at m_w'
  have m_head_k:=Mail.kd3 w.1;have m_head_k2:m.head.length<=140737488355328:=w.1.2.2.2.1.1;refine gm tv14 11 [0] fun B2=>?_;refine call (Ii_ _) rfl rfl fun w3=>?_;have :=L8_ m;have hmo3:=fun h=>G6_ (m:=m) h;refine gx tv14 9 ?_;refine cnd rfl (fun h4=>?_) (fun h4=>?_)
  · have h5:=Dk_ h4;have p6:=df h5;refine gx tv14 9 ?_;refine rt2 rfl rfl ?_;refine ple ?_
    simp[B3_,Rs_, *]
  have h7:=Ct_ h4;have p8:=dt h7;refine gx tv14 6 ?_;refine call (Kv_ _) rfl rfl fun w9=>?_;have :=Fm_ m.head;refine gx tv14 8 ?_;refine aN [1,2,3,4,5,6] 17 mixd ?_;refine gX tv14 [0,1,2] 14 ?_;refine vC 3 rfl (out_Num (⟨[],0⟩:Out) _ _ (by ((try have :=hrl (by assumption));first|omega|(simp[B_,W_,Q_,numK]<;>omega)))) rfl fun w10=>?_;have nl0:(⟨[],0⟩:Out).s.length=0:=rfl;have :=F_ (⟨[],0⟩:Out) m.id 8;refine gX tv14 [4,5] 11 ?_;refine vC 6 rfl (Ck_ _ _) rfl fun w11=>?_;have :=U_ (B_ (⟨[],0⟩:Out) m.id 8) m.shop;refine gX tv14 [7,8] 8 ?_;refine vC 9 rfl (Ck_ _ _) rfl fun w12=>?_;have :=U_ (D_ (B_ (⟨[],0⟩:Out) m.id 8) m.shop) m.key;refine gX tv14 [10] 6 ?_;refine vC 11 rfl (Ik_ _ _) rfl fun w13=>?_;have :=C3_ (D_ (D_ (B_ (⟨[],0⟩:Out) m.id 8) m.shop) m.key) (Ax_ m.head);refine gX tv14 [12,13] 3 ?_;refine vC 14 rfl (Ck_ _ _) rfl fun w14=>?_;have :=U_ (W_ (D_ (D_ (B_ (⟨[],0⟩:Out) m.id 8) m.shop) m.key) (Ax_ m.head)) m.body;refine vE 15 rfl (aL tv14 1 fun b15=>?_);refine vT 16 rfl (sA tv14 ?_);refine vD ?_;refine gx tv14 2 ?_;refine aN [2,3,4,5,6,7] 11 mixd ?_;refine gX tv14 [0,1,2] 8 ?_;refine vC 3 rfl (out_Num _ _ _ (by ((try have :=hrl (by assumption));first|omega|(simp[B_,W_,Q_,numK]<;>omega)))) rfl fun w16=>?_;have :=F_ (D_ (W_ (D_ (D_ (B_ (⟨[],0⟩:Out) m.id 8) m.shop) m.key) (Ax_ m.head)) m.body) m.due 8;refine gX tv14 [4,5,6] 4 ?_;refine vC 7 rfl (out_Num _ _ _ (by ((try have :=hrl (by assumption));first|omega|(simp[B_,W_,Q_,numK]<;>omega)))) rfl fun w17=>?_;have :=F_ (B_ (D_ (W_ (D_ (D_ (B_ (⟨[],0⟩:Out) m.id 8) m.shop) m.key) (Ax_ m.head)) m.body) m.due 8) m.hops 1;refine vC 8 rfl (Cf_ _) rfl fun w18=>?_;refine gX tv14 [9,10] 0 ?_;refine vD ?_;refine gx tv14 2 ?_;refine rt2 rfl rfl ?_;refine ple ?_
  simp[B3_,Rs_, *]
theorem S3_ (s:Bs):Fn Tryz.prog gb 111 [.str s] (.int .i64 (Ls_ s)):=by
  refine fC Tryz.func111 tv14 Tryz.ntmps111 fun w N H hG=>?_;refine gx tv14 12 ?_;refine cn rfl (fun p2=>?_) fun p3=>?_
  · refine gx tv14 7 ?_;refine rt1 rfl rfl (ple ?_)
    simp[Ls_, *]
  refine gx tv14 5 ?_;refine call (Dq_ _) rfl rfl fun w4=>?_;refine gx tv14 4 ?_;refine rt1 rfl rfl (ple ?_)
  simp[Ls_, *]
theorem Ks_ (b:Bool) (e:Int):Fn Tryz.prog gb 110 [.bool b, .int .i64 e] (.int .i64 (Hf_ b e)):=by
  refine fC Tryz.func110 tv14 Tryz.ntmps110 fun w N H hG=>?_;refine gx tv14 11 ?_;refine cnd rfl (fun h1=>?_) (fun h1=>?_)
  · refine gx tv14 8 ?_;refine rt1 rfl rfl (ple ?_)
    simp[Hf_, *]
  refine gx tv14 8 ?_;refine rt1 rfl rfl (ple ?_)
  simp[Hf_, *]
theorem Ru_ (a:Mail) (b:Mail):Fn Tryz.prog gb 189 [.agg (Mail.pc a), .agg (Mail.pc b)] (.bool (decide (a=b))):=by
  refine fC Tryz.func189 tv14 Tryz.ntmps189 fun w N H hG=>?_;refine gmy tv14 33 [0,1] fun B2=>?_;refine callg rfl (fun hc=>(Wb_ _ _)) rfl ⟨(fun hc=>hc),(fun hc=>hc),trivial⟩ rfl rfl fun _=>?_;refine gy tv14 26 ?_;refine rt1 rfl rfl (ple ?_);exact congrArg PV.bool (by rw[Bool.eq_iff_iff];first|(simp[Mail.eq_iff,and_assoc];done)|(simp[Mail.eq_iff];grind))
theorem deed_Same (a:DeedR) (b:DeedR):Fn Tryz.prog gb 106 [.agg (DeedR.pc a), .agg (DeedR.pc b)] (.bool (decide (a=b))):=by
  refine fC Tryz.func106 tv14 Tryz.ntmps106 fun w N H hG=>?_;refine gmy tv14 26 [0,1] fun B2=>?_;refine q1g [19,21] rfl (fun hc=>saeq rfl rfl eqg64 (veq64 a.shop b.shop)) ⟨(fun hc=>hc),(fun hc=>hc),trivial⟩ rfl rfl rfl fun _=>?_;refine gy tv14 6 ?_;refine q1g [26,28] rfl (fun hc=>saeq rfl rfl eqg66 (veq66 a.queue b.queue)) ⟨(fun hc=>hc),(fun hc=>hc),trivial⟩ rfl rfl rfl fun _=>?_;refine gy tv14 6 ?_;refine callg rfl (fun hc=>(T6_ _ _)) rfl ⟨(fun hc=>hc),(fun hc=>hc),trivial⟩ rfl rfl fun _=>?_;refine gy tv14 48 ?_;refine callg rfl (fun hc=>(Ru_ _ _)) rfl ⟨(fun hc=>hc),(fun hc=>hc),trivial⟩ rfl rfl fun _=>?_;refine gy tv14 12 ?_;refine rt1 rfl rfl (ple ?_);exact congrArg PV.bool (by rw[Bool.eq_iff_iff];first|(simp[DeedR.eq_iff,and_assoc];done)|(simp[DeedR.eq_iff];grind))
end Go.SW.V
