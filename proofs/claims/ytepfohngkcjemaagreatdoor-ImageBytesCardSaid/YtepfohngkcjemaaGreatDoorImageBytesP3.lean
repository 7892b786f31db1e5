/-
  A part of the proof of ImageBytes: What the document's stores hold whose bytes may be told. Plain Lean.
-/
import Derived.Test.YtepfohngkcjemaaGreatDoorImageBytesP2
import Derived.Lib.ItoaLen
import Derived.Lib.Join
import Derived.Lib.FieldsP
import Derived.Lib.ParseIntB
import Derived.Lib.SmallJoins
set_option linter.unusedVariables false
set_option linter.unusedSimpArgs false
set_option maxRecDepth 100000
set_option maxHeartbeats 4000000
open Array renaming getElem?_eq_none->C4
open BitVec renaming ofInt->AC
open Bool renaming and_eq_true->A3,not_eq_eq_eq_not->EV,not_eq_false'->BF,not_false->AT,not_true->A5,or_eq_false_iff->AY
open ByteArray renaming size->DG
open Go.Instr renaming index->GG,makeSlice->FS
open Go.IntKind renaming bits->AO,wrap->A0
open Go.Lib renaming countB->DN,count_miss->EP,goFieldsP->GH,index->BA,parseUintB->EE,splitK->G5
open Go.Op renaming eqItems->FT
open Go.Oper renaming wp->BG
open Go.Value renaming pointer->CS
open Int renaming le_refl->BM,toNat_natCast->A7,toNat_of_nonneg->BD
open List renaming all_cons->EN,all_eq_true->CC,append_assoc->A6,append_nil->AS,drop_append->FR,drop_append_of_le_length->BH,drop_of_length_le->A9,find?_eq_none->FH,flatten_cons->AQ,flatten_nil->B7,getElem?_eq_getElem->AA,getElem?_set->CP,getElem_map->CW,isPrefixOf->E7,length_cons->A2,length_drop->D5,length_map->CL,length_nil->AE,map_append->C3,map_cons->AG,map_map->DP,map_nil->DQ,mem_cons_of_mem->AI,mem_cons_self->B8,mem_of_getElem?->A1,mem_of_mem_drop->AP,mem_or_eq_of_mem_set->BL,replicate->AJ,replicate_succ->FA,sum_cons->EH,take_append->FQ,take_append_drop->AL,take_append_of_le_length->DW,take_of_length_le->AZ
open Nat renaming add_assoc->BY,add_mul->AV,add_sub_cancel_left->C5,beq->AR,beq_refl->GP,blt->GO,blt_eq->G7,eq_of_beq_eq_true->AM,le_of_eq->FF,le_refl->AX,le_trans->AK,lt_succ_self->C2,mul_le_mul_right->BP,pow_le_pow_right->CH,sub_add_cancel->FN,succ_mul->D7,zero_add->B9,zero_le->B5,zero_mul->EB
namespace Go.SW.V
open Go.SW
def MlB(m:Mail):Prop:=D6_ m=0/\∀ p∈m.head,0<=p.kind
def RiB(x:Az_):Prop:=x.kept.length<=16/\∀ m∈x.kept,MlB m
def RwB(r:G9_):Prop:=r.q.name.length<=16/\r.q.dead.length<=16/\r.l.length<=64/\∀ y∈r.l,MlB y.P_
def RkB(s:Ac_):Prop:=s.rows.length<=8/\(∀ r∈s.rows,RwB r)/\∀ i,i<16->RiB (A16.get s.rises i)
def RnB(n:Bu_):Prop:=n.kept.length<=32/\∀ x∈n.kept,x.text.length<=64
def RbB(b:Ai_):Prop:=b.Ae_.length<=8/\(∀ x∈b.Ae_,x.name.length<=16/\x.to'.length<=16)/\b.binds.length<=32/\∀ y∈b.binds,y.Al_.length<=16/\y.to'.length<=16/\y.key.length<=64/\Dz_ y.want=0
end Go.SW.V
namespace Go.SW
structure RdR where
 p:Unit
 H8_:List T_
deriving DecidableEq,Inhabited
def RdR.pc(x:RdR):List PV:=[.junk, .sl T_.pc x.H8_]
theorem rl_set1{α:Type}{enc:α->List PV}{k:Nat}{H:Hp}{p:PV}{v:Value}{o:Nat}{y:α}(ho:o<k)(hp:Sim H p v)(h1:v.oneCell'=true):∀ {xs:List α} {cs:List Value} {m:Nat},Rl (RowE enc k) H xs cs->m<xs.length->(∀ a,xs[m]? = some a->enc y=(enc a).set o p)->Rl (RowE enc k) H (xs.set m y) (cs.set (m*k+o) v)
 |[],_,_,_,hm,_=>by cases hm
 |x::xs,_,0,⟨c1,c2,e,r1,r2⟩,_,he=>by
   have ex:=he x Y
   have⟨q1,q2,q3⟩:=r1
   have hl:c1.length=k:=by rw[q2.1,q1]
   refine⟨c1.set o v,c2,?_,⟨by rw[ex,List.length_set,q1],?_,?_⟩,r2⟩
   . rw[e,EB,B9,List.set_append_left _ _ qX]
   . rw[ex]
     refine⟨by simp[q2.1],λi q w hq hw=>?_⟩
     rw[CP] at hq hw
     by_cases z:o=i
     . subst z
       rw[if_pos rfl,if_pos qX] at hq
       rw[if_pos rfl,if_pos qX] at hw
       cases hq;cases hw;exact hp
     . rw[if_neg z] at hq hw
       exact q2.2 i q w hq hw
   . intro w hw
     rcases BL hw with z|z
     . exact q3 w z
     . rw[z];exact h1
 |x::xs,_,m+1,⟨c1,c2,e,r1,r2⟩,hm,he=>by
   have hl:c1.length=k:=by rw[r1.2.1.1,r1.1]
   refine⟨c1,c2.set (m*k+o) v,?_,r1,rl_set1 ho hp h1 r2 (by simpa using hm) (λa ha=>he a (by simpa using ha))⟩
   rw[e,List.set_append_right _ _ oZ,hl,show (m+1)*k+o-k=m*k+o by rw[AV];omega]
theorem rl_setA{α:Type}{enc:α->List PV}{k:Nat}{H:Hp}{ps:List PV}{vs:List Value}{o:Nat}{y:α}(ho:o+ps.length<=k)(hp:Sims H ps vs)(h1:∀ v∈vs,v.oneCell'=true):∀ {xs:List α} {cs:List Value} {m:Nat},Rl (RowE enc k) H xs cs->m<xs.length->(∀ a,xs[m]? = some a->enc y=(enc a).take o++(ps++(enc a).drop (o+ps.length)))->Rl (RowE enc k) H (xs.set m y) (cs.take (m*k+o)++(vs++cs.drop (m*k+o+ps.length)))
 |[],_,_,_,hm,_=>by cases hm
 |x::xs,_,0,⟨c1,c2,e,r1,r2⟩,_,he=>by
   have ex:=he x Y
   have⟨q1,q2,q3⟩:=r1
   have hl:c1.length=k:=by rw[q2.1,q1]
   have hv:=hp.1
   refine⟨c1.take o++(vs++c1.drop (o+ps.length)),c2,?_,⟨by rw[ex];simp;omega,?_,?_⟩,r2⟩
   . rw[e,EB,B9,DW qX,BH qX]
     simp
   . rw[ex]
     exact Sims.append (Sims.take q2 o) (Sims.append hp (Sims.drop q2 (o+ps.length)))
   . intro w hw
     simp only[List.mem_append] at hw
     rcases hw with z|z|z
     . exact q3 w (List.mem_of_mem_take z)
     . exact h1 w z
     . exact q3 w (AP z)
 |x::xs,_,m+1,⟨c1,c2,e,r1,r2⟩,hm,he=>by
   have hl:c1.length=k:=by rw[r1.2.1.1,r1.1]
   refine⟨c1,c2.take (m*k+o)++(vs++c2.drop (m*k+o+ps.length)),?_,r1,rl_setA ho hp h1 r2 (by simpa using hm) (λa ha=>he a (by simpa using ha))⟩
   rw[e,show (m+1)*k+o=c1.length+(m*k+o) by rw[hl,AV];omega,FQ,AZ qX,show c1.length+(m*k+o)-c1.length=m*k+o by omega,BY,FR,A9 qX,show c1.length+(m*k+o+ps.length)-c1.length=m*k+o+ps.length by omega]
   simp
theorem Abs.turnU{P:Program}{n:Nat}{N:Rest}{H0:Env}{s:St}{F:Fr}{H:Hp}{L:Ls}{α:Type}{u:Value}{k e:Nat}{enc:α->List PV}{xs xs':List α}(ha:Abs H0 s F H L)(i:Nat)(hb:s.L i = .arr u k e enc xs){x:Option (Nat×Obj)}(hx:SimB s.L H (.arr u k e enc xs') x):Abs H0 ⟨s.F,lups s.L i (.arr u k e enc xs')⟩ F H (lupd L i x):=by
 have hshape:∀ {p v},SimT s.L H p v->SimT (lups s.L i (.arr u k e enc xs')) H p v:=λ{p v} h=>by
   cases p with
   |osl j=>
     by_cases e:j=i
     . subst e;simp only[SimT,D5_,hb] at h ⊢;exact h
     . exact sQ
   |_=>exact h
 refine⟨ha.le,ha.g,λt=>hshape (ha.f t),λj=>?_⟩;by_cases e:j=i;exact sZ
 . simp only[Hp_ e,Cx_ e]
   have h1:=ha.l j
   generalize s.L j=C at *
   cases C with
   |box b T cs=>have⟨vs,h2,h3,h4⟩:=h1;exact⟨vs,h2,h3,λa p v hp hv=>hshape (h4 a p v hp hv)⟩
   |no=>trivial
   |arr u k e enc xs=>exact h1
   |itr b s p=>exact h1
   |ob b o=>exact h1
end Go.SW
namespace Go.SW.V
open Go.SW
variable{P:Program}{n:Nat}{N:Rest}{H0:Env}{all rest:List Oper}{Q:Qs}{ks:List Kt}{fF:Nat->PV}{fL:Nat->Blk}{T ty d:Nat}{pos:String}{af:Array Edge}{x y z:Operand}{K:St->Prop}
theorem lo_sidx{F:Fr}{H:Hp}{L:Ls}{kk:IntKind}{k m b o len cap:Nat}{i:Int}{e:TypeId}(hx:ev F x = .slice (some ⟨b,o,none⟩) len cap)(hy:ev F y = .int kk i)(hT:P.underlying T=some (.slice e))(hk:Sz P e k)(hi:i=m)(hm:m<len):SW.Lo P N (.indexAddr T x y) ty F H L (.pointer (some ⟨b,o+m*k,none⟩)):=λd pos af g w _=>by
 subst hi
 simp[execOp,hx,hy,Instr.indexAt,asIntOf,run_underlying hT,hk w,hm,G8_]
theorem Z5_{α:Type}{s:St}{F:Fr}{H:Hp}{L:Ls}{i k e:Nat}{u:Value}{enc:α->List PV}{xs:List α}(ha:Abs H0 s F H L)(hb:s.L i = .arr u k e enc xs)(h0:0<xs.length) :
   ∃ b cap c f,u = .slice (some ⟨b,f.length,none⟩) xs.length cap/\L i=some (b,bx e (f++c))/\cap*k<=c.length/\xs.length<=cap/\Rl (RowE enc k) H xs (c.take (xs.length*k))/\xs.length<=140737488355328/\(k=1->f=[]):=by
 have h3:=ha.l i;rw[hb] at h3;obtain⟨cs,⟨hl,⟨_,h0',_⟩|⟨b,cap,c,f,rfl,hL,hcl,hle,htk,hff⟩⟩,hr,hm⟩:=h3;omega;grind
theorem eidx{α:Type}{tb:Tb}{ti te:TI}{kk:IntKind}{i e k:Nat}{z:Int}{u:Value}{enc:α->List PV}{xs:List α}(m:Nat)(ht:tbB P tb=true)(hx:evP fF x = .osl i)(hb:fL i = .arr u k e enc xs)(hy:evP fF y = .int kk z)(hti:lkT tb T=some ti)(htk:ti.k = .slc e)(hte:lkT tb e=some te)(hk:te.size=k)(hi:z=(m:Int))(hm:m<xs.length) :
   Qy P N H0 ⟨fF,fL⟩ (.indexAddr T x y) ty (.val (.pointer (some ⟨sBlk u,sOff u+m*k,none⟩))):=λF H L ha=>by
 have h1:=Dn_ ha.f x
 unfold Ok1 at h1
 simp only at h1
 rw[hx] at h1
 simp only[SimT,hb] at h1
 have h2:=(Dn_ ha.f y).sim
 simp only at h2
 rw[hy] at h2
 obtain⟨b,cap,c,f,rfl,hL,_⟩:=Z5_ ha (i:=i) hb qX
 have hsz:=(Eq_ ht hte).sz
 rw[hk] at hsz
 exact⟨_,Sim.val,λ_ _ _=>lo_sidx h1 h2.inv_int.1 ((Eq_ ht hti).slc htk) hsz hi hm⟩
theorem efld{b off f o:Nat}(hx:evP fF x = .val (.pointer (some ⟨b,off,none⟩)))(hf:Fld P T f o):Qy P N H0 ⟨fF,fL⟩ (.fieldAddr T x f) ty (.val (.pointer (some ⟨b,off+o,none⟩))):=λF H L ha=>by
 have h1:=(Dn_ ha.f x).sim
 simp only at h1
 rw[hx] at h1
 exact⟨_,Sim.val,λ_ _ _=>Fo_ h1.inv_val hf⟩
theorem row_at{α:Type}{H:Hp}{enc:α->List PV}{k m:Nat}{xs:List α}{a:α}{c:List Value}(hr:Rl (RowE enc k) H xs (c.take (xs.length*k)))(ha:xs[m]? = some a):∃ ds,RowE enc k H a ds/\∀ j,j<k->c[m*k+j]? = ds[j]? :=by
 obtain⟨hm,rfl⟩:=List.getElem?_eq_some_iff.1 ha;have⟨ds,p,q⟩:=rl_at Ma_ hr m hm;refine⟨ds,p,λj hj=>?_⟩;exact yM
theorem elod1{α:Type}{tb:Tb}{ti:TI}{i e k off:Nat}{u:Value}{enc:α->List PV}{xs:List α}{a:α}(p:PV)(m o:Nat)(ht:tbB P tb=true)(hx:evP fF x = .val (.pointer (some ⟨sBlk u,off,none⟩)))(hb:fL i = .arr u k e enc xs)(hti:lkT tb T=some ti)(hag:ti.k.isAgg=false)(ha':xs[m]? = some a)(hoff:off=sOff u+m*k+o)(hp:(enc a)[o]? = some p)(hn:p.noOsl=true)(hd:Nat.blt d n=true)(kk:p.wf->K ⟨updp fF d p,fL⟩):E1 P n N H0 all ⟨some d, .load T x,ty,pos,af,none⟩ none ⟨fF,fL⟩ K:=by
 intro F H L ha;have h1:=(Dn_ ha.f x).sim;simp only at h1;rw[hx] at h1;have hm:m<xs.length:=(List.getElem?_eq_some_iff.1 ha').1;obtain⟨b,cap,c,f,rfl,hL,hcl,hle,hr,hbb,hff⟩:=Z5_ ha (i:=i) hb qX;have⟨ds,⟨q1,q2,q3⟩,q4⟩:=row_at hr ha';have ho:o<k:=by rw[<- q1];exact (List.getElem?_eq_some_iff.1 hp).1
 obtain⟨v,hv⟩:∃ v,ds[o]? = some v:=⟨_,AA (by rw[q2.1,q1];exact ho)⟩;have hs:=q2.2 o p v hp hv;have hg:=(Eq_ ht hti).ag;rw[hag] at hg;exact Q0_ hd (Mo_ h1.inv_val hg hL (by rw[hoff];show (f++c)[f.length+m*k+o]? = _;rw[BY,List.getElem?_append_right qX,C5,q4 o ho];exact hv)) ⟨.refl H,λ_ _=>rfl,_,ha.put d (hs.simT hn),kk hs.wf⟩
theorem est1{α:Type}{tb:Tb}{ti:TI}{i e k off:Nat}{u:Value}{enc:α->List PV}{xs:List α}{p:PV}(m o:Nat)(a':α)(ht:tbB P tb=true)(hx:evP fF x = .val (.pointer (some ⟨sBlk u,off,none⟩)))(hb:fL i = .arr u k e enc xs)(hti:lkT tb T=some ti)(hsz:ti.size=1)(hy:evS (evP fF y)=some p)(ho:p.one=true)(hm:m<xs.length)(hoff:off=sOff u+m*k+o)(hok:o<k)(he:∀ a,xs[m]? = some a->enc a'=(enc a).set o p)
   (kk:K ⟨fF,lups fL i (.arr u k e enc (xs.set m a'))⟩):E1 P n N H0 all ⟨none, .store T x y,ty,pos,af,none⟩ (some i) ⟨fF,fL⟩ K:=by
 intro F H L ha;have hy:=evS_eq hy;have h1:=(Dn_ ha.f x).sim;simp only at h1;rw[hx] at h1;have h2:=(Dn_ ha.f y).sim;simp only at h2;rw[hy] at h2;obtain⟨b,cap,c,f,rfl,hL,hcl,hle,hr,hbb,hff⟩:=Z5_ ha (i:=i) hb qX;have hsz':=(Eq_ ht hti).sz;rw[hsz] at hsz';have hlt:m*k+o<xs.length*k:=by
   have :(m+1)*k<=xs.length*k:=BP k qX
   rw[AV] at this;omega
 have hlc:xs.length*k<=c.length:=AK (BP k hle) hcl;subst hoff;have hset:(f++c).set (sOff (.slice (some ⟨b,f.length,none⟩) xs.length cap)+m*k+o) (ev F y)=f++c.set (m*k+o) (ev F y):=by
   show (f++c).set (f.length+m*k+o) (ev F y)=_
   grind
 refine Mz_ h1.inv_val Y (h2.one ho) hsz' hL (by simp[G7,sOff];omega) ?_;rw[hset];refine⟨.refl H,only,_,ha.turnU (n:=n) (N:=N) (P:=P) i hb ⟨(c.set (m*k+o) (ev F y)).take (xs.length*k),⟨by simp;omega, .inr ⟨b,cap,c.set (m*k+o) (ev F y),f,by simp,rfl,by simpa using hcl,by simpa using hle,by simp,hff⟩⟩,?_,by simpa using hbb⟩,kk⟩;rw[List.take_set];exact rl_set1 hok h2 (h2.one ho) hr hm he
theorem elodA{α:Type}{tb:Tb}{ti:TI}{i e k off sz:Nat}{u:Value}{enc:α->List PV}{xs:List α}{a:α}(ps:List PV)(m o:Nat)(ht:tbB P tb=true)(hx:evP fF x = .val (.pointer (some ⟨sBlk u,off,none⟩)))(hb:fL i = .arr u k e enc xs)(hti:lkT tb T=some ti)(hag:ti.k.isAgg=true)(hsz:ti.size=sz)(ha':xs[m]? = some a)(hoff:off=sOff u+m*k+o)(hp:((enc a).drop o).take sz=ps)(hos:o+sz<=k)(hd:Nat.blt d n=true)(kk:PV.wfs ps->K ⟨updp fF d (.agg ps),fL⟩):E1 P n N H0 all ⟨some d, .load T x,ty,pos,af,none⟩ none ⟨fF,fL⟩ K:=by
 intro F H L ha;have h1:=(Dn_ ha.f x).sim;simp only at h1;rw[hx] at h1;have hm:m<xs.length:=(List.getElem?_eq_some_iff.1 ha').1;obtain⟨b,cap,c,f,rfl,hL,hcl,hle,hr,hbb,hff⟩:=Z5_ ha (i:=i) hb qX;have⟨ds,⟨q1,q2,q3⟩,q4⟩:=row_at hr ha';have hdl:ds.length=k:=by rw[q2.1,q1]
 have hsub:sub (f++c) off sz=(ds.drop o).take sz:=by
   apply List.ext_getElem?
   intro j
   simp only[sub,List.getElem?_take,List.getElem?_drop]
   by_cases z:j<sz
   . rw[if_pos z,if_pos z,hoff]
     show (f++c)[f.length+m*k+o+j]? = _
     grind
   . rw[if_neg z,if_neg z]
 have hsv:Sims H ps ((ds.drop o).take sz):=by rw[<- hp];exact Sims.take (Sims.drop q2 o) sz
 have hg:=(Eq_ ht hti).ag;rw[hag] at hg;have hk:=(Eq_ ht hti).sz;rw[hsz] at hk;exact Q0_ hd (Ww_ (vs:=(ds.drop o).take sz) h1.inv_val hg hk hL hsub pL) ⟨.refl H,λ_ _=>rfl,_,ha.put (p:= .agg ps) d (Sim.toAgg hsv),kk hsv.wf⟩
theorem estA{α:Type}{tb:Tb}{ti:TI}{i e k off:Nat}{u:Value}{enc:α->List PV}{xs:List α}{ps:List PV}(m o:Nat)(a':α)(ht:tbB P tb=true)(hx:evP fF x = .val (.pointer (some ⟨sBlk u,off,none⟩)))(hb:fL i = .arr u k e enc xs)(hti:lkT tb T=some ti)(hy:evP fF y = .agg ps)(ho:all1 ps=true)(hsz:ps.length=ti.size)(hm:m<xs.length)(hoff:off=sOff u+m*k+o)(hok:o+ps.length<=k)(he:∀ a,xs[m]? = some a->enc a'=(enc a).take o++(ps++(enc a).drop (o+ps.length)))
   (kk:K ⟨fF,lups fL i (.arr u k e enc (xs.set m a'))⟩):E1 P n N H0 all ⟨none, .store T x y,ty,pos,af,none⟩ (some i) ⟨fF,fL⟩ K:=by
 intro F H L ha;have h1:=(Dn_ ha.f x).sim;simp only at h1;rw[hx] at h1;have h2:=(Dn_ ha.f y).sim;simp only at h2;rw[hy] at h2;have⟨vs,hv,hvs⟩:=h2.inv_agg;obtain⟨b,cap,c,f,rfl,hL,hcl,hle,hr,hbb,hff⟩:=Z5_ ha (i:=i) hb qX;have hsz':=(Eq_ ht hti).sz;rw[<- hsz] at hsz';have hlt:m*k+o+ps.length<=xs.length*k:=by
   exact yM
 have hlc:xs.length*k<=c.length:=AK (BP k hle) hcl;have hvl:vs.length=ps.length:=hvs.1;have ha1:=U8_ hvs ho;subst hoff;refine Yw_ (f++(c.take (m*k+o)++(vs++c.drop (m*k+o+ps.length)))) h1.inv_val hv ha1 hsz' hvl hL (by simp[Nat.ble_eq,sOff];omega) ?_ ?_;show (f++c).take (f.length+m*k+o)++(vs++(f++c).drop (f.length+m*k+o+ps.length))=_;rw[BY f.length,BY f.length,FQ,FR,AZ qX,A9 qX,C5,C5];simp;refine⟨.refl H,only,_,ha.turnU (n:=n) (N:=N) (P:=P) i hb ⟨(c.take (m*k+o)++(vs++c.drop (m*k+o+ps.length))).take (xs.length*k),⟨by simp;omega, .inr ⟨b,cap,_,f,by simp,rfl,by simp;omega,by simpa using hle,by simp,hff⟩⟩,?_,by simpa using hbb⟩,kk⟩;have e:(c.take (m*k+o)++(vs++c.drop (m*k+o+ps.length))).take (xs.length*k)=(c.take (xs.length*k)).take (m*k+o)++(vs++(c.take (xs.length*k)).drop (m*k+o+ps.length)):=by
   obtain⟨A,B,hA,hc,hAl⟩:∃ A B,c.take (xs.length*k)=A/\c=A++B/\A.length=xs.length*k:=⟨_,_,rfl,(AL _ _).symm,by simp;omega⟩
   rw[hA,hc,DW (show m*k+o<=A.length by omega),BH (show m*k+o+ps.length<=A.length by omega),<- A6 vs,<- A6]
   exact List.take_left' pL
 rw[e];exact rl_setA hok hvs (by simpa [CC] using ha1) hr hm he
theorem ecut1{α:Type}{tb:Tb}{ti te:TI}{kk:IntKind}{i e k:Nat}{z:Int}{u:Value}{enc:α->List PV}{xs:List α}(ht:tbB P tb=true)(hx:evP fF x = .osl i)(hb:fL i = .arr u k e enc xs)(hy:evP fF y = .int kk z)(hti:lkT tb T=some ti)(htk:ti.k = .slc e)(hte:lkT tb e=some te)(hk:te.size=k)(h1:Nat.blt 1 k=true)(hi:z=1)(hm:0<xs.length)(hd:Nat.blt d n=true)
   (kk:∀ u',K ⟨updp (N2_ i fF) d (.osl i),lups (Kt_ i fL) i (.arr u' k e enc (xs.drop 1))⟩):E1 P n N H0 all ⟨some d, .slice T x (some y) none none,ty,pos,af,none⟩ (some i) ⟨fF,fL⟩ K:=by
 intro F H L ha;have h1':=Dn_ ha.f x;unfold Ok1 at h1';simp only at h1';rw[hx] at h1';simp only[SimT,hb] at h1';have h2:=(Dn_ ha.f y).sim;simp only at h2;rw[hy] at h2;have hb':fL i = .arr u k e enc xs:=hb;obtain⟨b,cap,c,f,rfl,hL,hcl,hle,hr,hbb,hff⟩:=Z5_ (s:=⟨fF,fL⟩) ha (i:=i) hb' hm;have hsz:=(Eq_ ht hte).sz;rw[hk] at hsz;have hk1:1<k:=by simpa [G7] using h1
 refine Q0_ hd (Qw_ 1 h1' h2.inv_int.1 ((Eq_ ht hti).slc htk) hsz qX qX) ?_;have hLL:lupd L i (L i)=L:=by funext j;by_cases e:j=i;(subst e;exact C4_ _ _ _);exact Cx_ e
 obtain⟨x0,xr,rfl⟩:∃ a r,xs=a::r:=by cases xs with|nil=>cases hm|cons a r=>exact⟨a,r,rfl⟩
 have hrl:=rl_len Ma_ hr;have :=ha.turn i (B:= .arr (.slice (slA (some ⟨b,f.length,none⟩) cap 1 k) ((x0::xr).length-1) (cap-1)) k e enc ((x0::xr).drop 1)) (x:=L i) ?_;rw[hLL] at this;exact yC;have⟨c1,c2,e1,r1,r2⟩:=hr;have hc1:c1.length=k:=by rw[r1.2.1.1,r1.1]
 have hck:cap*k=(cap-1)*k+k:=by rw[<- D7];congr 1;simp only[A2] at hle;omega
 have hkc:k<=c.length:=by omega
 have hc2:c2=(c.drop k).take (xr.length*k):=by
   have :(c.take ((x0::xr).length*k)).drop k=c2:=by rw[e1,<- hc1,List.drop_left]
   rw[<- this,A2,List.drop_take,D7,Nat.add_sub_cancel]
 refine⟨c2,⟨?_,?_⟩,by simpa using r2,by simp at hbb ⊢;omega⟩;rw[rl_len Ma_ r2];simp;by_cases hc:cap=1;subst hc;have :xr=[]:=List.length_eq_zero_iff.1 (by simp only[A2] at hle;omega);subst this;refine .inr ⟨b,0,c,f,by simp[slA],hL,by simp,by simp,by simpa using hc2.symm,hff⟩;refine .inr ⟨b,cap-1,c.drop k,f++c.take k,?_,by rw[hL];simp,?_,by simp only[List.drop_one,List.tail_cons,A2] at hle ⊢;omega,?_,λq=>by omega⟩;have :c.length>=k:=by omega
 simp[slA,G8_,Nat.min_eq_left this,show ¬cap<=1 by simp only[A2] at hle;omega];intro q;simp only[A2] at hle;omega;rw[D5];omega;rw[hc2];simp
end Go.SW.V
namespace Go.SW
variable{P:Program}{n:Nat}{N:Rest}{H0:Env}{Q:Qs}{ks:List Kt}{s:St}
theorem Qo_{α:Type}{i o b T0 k e:Nat}{cs:List PV}{c:Code}(j:Nat)(enc:α->List PV)(hb:Kt_ j s.L i = .box b T0 cs)(hne:i≠j)(ho:cs[o]? = some (.val (.slice none 0 0)))(hno:s.L j = .no)
   (kk:Hd P n N H0 Q (.code c) ks ⟨N2_ j s.F,lups (lups (Kt_ j s.L) j (.arr (.slice none 0 0) k e enc [])) i (.box b T0 (cs.set o (.osl j)))⟩):Hd P n N H0 Q (.code c) ks s:=λF H L ha=>by
 have hL0:Abs H0 s F H (lupd L j none):=⟨ha.le,ha.g,ha.f,λq=>by
   by_cases e:q=j
   . subst e;rw[hno];trivial
   . rw[Cx_ e];exact ha.l q⟩
 have h2:=hL0.turn j (B:= .arr (.slice none 0 0) k e enc []) (x:=none) ⟨[],Ry_,rl_nil,by simp⟩
 have e2:lupd (lupd L j none) j none=lupd L j none:=by funext q;simp only[lupd];cases AR q j<;>rfl
 rw[e2] at h2
 have h3:=h2.l i
 simp only[Hp_ hne,hb] at h3
 have⟨vs,hL,hs1,hs2⟩:=h3
 have h4:=h2.turnB i (B:= .box b T0 (cs.set o (.osl j))) Z (x:=lupd L j none i) ⟨vs,hL,by simpa using hs1,λa p v hp hv=>by
   rw[CP] at hp
   by_cases z:o=a
   . subst z
     rw[if_pos rfl] at hp
     split at hp
     . cases hp
       have h5:=(hs2 o _ v ho hv).sim.inv_val
       simp only[SimT,Hp_ hne.symm,D5_]
       exact h5
     . cases hp
   . rw[if_neg z] at hp
     have h5:=hs2 a p v hp hv
     exact W0_ (b:=b) (T:=T0) (cs:=cs) (by simp only[Hp_ hne,hb]) h5⟩
 have e3:lupd (lupd L j none) i (lupd L j none i)=lupd L j none:=by funext q;by_cases e:q=i;(subst e;exact C4_ _ _ _);exact Cx_ e
 rw[e3] at h4
 exact cw_weaken (λw hm=>hm.clear j) (kk F H _ h4)
theorem Kb_{α:Type}{all:List Oper}{T ty i j b b' off T0 k e:Nat}{pos:String}{af:Array Edge}{x y:Operand}{K:St->Prop}{tb:Tb}{ti:TI}{cs cs':List PV}{u:Value}{enc:α->List PV}{xs:List α}(ht:tbB P tb=true)(hx:evP s.F x = .own i b off)(hb:s.L i = .box b' T0 cs)(hti:lkT tb T=some ti)(hsz:ti.size=1)(hy:evP s.F y = .osl j)(hj:s.L j = .arr u k e enc xs)(hl:Nat.blt off cs.length=true)(hbb:b'=b)(hc:cs.set off (.osl j)=cs')
   (kk:K ⟨s.F,lups s.L i (.box b T0 cs')⟩):E1 P n N H0 all ⟨none, .store T x y,ty,pos,af,none⟩ (some i) s K:=by
 intro F H L ha;subst hbb hc;have h1:=(Dn_ ha.f x).sim;rw[hx] at h1;have h2:=Dn_ ha.f y;unfold Ok1 at h2;rw[hy] at h2;have h2':=h2;simp only[SimT,hj] at h2';have h3:=ha.l i;rw[hb] at h3;have⟨vs,hL,hs⟩:=h3;have h5:=ha.l j;rw[hj] at h5;have⟨cs0,ho,_,_⟩:=h5;have hone:(ev F y).oneCell'=true:=by
   rw[h2']
   obtain⟨_,⟨rfl,_,_⟩|⟨_,_,_,_,rfl,_⟩⟩:=ho<;>rfl
 have hsz':=(Eq_ ht hti).sz;rw[hsz] at hsz';refine Mz_ h1.inv_own Y hone hsz' hL oX<|⟨.refl H,only,_,ha.turnB (B:= .box _ T0 (cs.set off (.osl j))) i Z ⟨_,rfl,?_⟩,kk⟩;have h4:=hs.set off h2;exact⟨h4.1,λq p v hq hv=>W0_ hb (h4.2 q p v hq hv)⟩
variable{all:List Oper}
end Go.SW
namespace Go.SW.V
open Go.SW
variable{P:Program}{n:Nat}{N:Rest}{H0:Env}{all:List Oper}{Q:Qs}{ks:List Kt}{fF:Nat->PV}{fL:Nat->Blk}
end Go.SW.V
namespace Go.SW
variable{P:Program}{n:Nat}{N:Rest}{H0:Env}{all:List Oper}{Q:Qs}{ks:List Kt}{s:St}
theorem vw_l{ops:List Oper}{Lk:Ls}{Q:Qt}{fuel:Nat}{listed:Array Bool}{F:Fr}{H:Hp}{L:Ls}(i0:Nat)(r:List Nat)(hr:Region.ready .any ops.toArray listed=i0::r)
   (h:∀ i∈i0::r,∃ o,ops[i]? = some o/\Op1 P n N ops o (λF' H' L'=>(HLe H H'/\LLe Lk L')/\Vw P n N ops Lk Q fuel (listed.setIfInBounds i true) F' H' L') F H L):Vw P n N ops Lk Q (fuel+1) listed F H L:=by
 refine⟨λq=>oM,λj hj a w ha hm=>?_⟩;rw[hr] at hj;have⟨o,ho,h1⟩:=h j hj;exact wpOp_mono (λa' w' ⟨F',H',L',x,y,z1,z2⟩=>⟨F',H',L',x,y, .inl ⟨z1.1, .inl z1.2⟩,z2⟩) (Wy_ ho h1 a w ha hm)
def Ej(P:Program)(n:Nat)(N:Rest)(H0:Env)(all:List Oper)(o:Oper)(xs:List Nat)(s:St)(K:St->Prop):Prop:=∃ j:Option Nat,(match j with|none=>true|some j=>memB xs j)=true/\E1 P n N H0 all o j s K
theorem ej{o:Oper}{xs:List Nat}{K:St->Prop}{j:Option Nat}(hj:(match j with|none=>true|some j=>memB xs j)=true)(h:E1 P n N H0 all o j s K):Ej P n N H0 all o xs s K:=⟨j,hj,h⟩
def AllE(P:Program)(n:Nat)(N:Rest)(H0:Env)(all:List Oper)(Q:Qs)(xs:List Nat)(fuel:Nat)(listed:Array Bool)(ks:List Kt)(s:St):List Nat->Prop
 |[]=>True
 |i::r=>(∃ o,nth all i=some o/\Ej P n N H0 all o xs s (λs'=>Hv P n N H0 Q (some xs) all fuel (listed.setIfInBounds i true) ks s'))/\AllE P n N H0 all Q xs fuel listed ks s r
theorem allE_mem{xs:List Nat}{fuel:Nat}{listed:Array Bool}:∀ {r:List Nat} {i:Nat},AllE P n N H0 all Q xs fuel listed ks s r->i∈r->∃ o,nth all i=some o/\Ej P n N H0 all o xs s (λs'=>Hv P n N H0 Q (some xs) all fuel (listed.setIfInBounds i true) ks s')
 |[],i,_,h=>by cases h
 |a::r,i,h,hm=>by
   rcases List.mem_cons.1 hm with e|q
   . subst e;exact h.1
   . exact allE_mem h.2 q
theorem veL{xs:List Nat}{fuel:Nat}{listed:Array Bool}(i0:Nat)(r:List Nat)(h:AllE P n N H0 all Q xs fuel listed ks s (i0::r))(hr:Region.ready .any all.toArray listed=i0::r:=by exact qY):Hv P n N H0 Q (some xs) all (fuel+1) listed ks s:=by
 intro F H L Lk ha hL;refine vw_l i0 r hr λi hi=>?_;have⟨o,ho,j,hj,he⟩:=allE_mem h hi;rw[L4_] at ho;have hle:∀ L':Ls,(∀ i,j≠some i->L' i=L i)->LkR (some xs) Lk L':=λL' hL' i=>by
   rw[hL i]
   grind
 have hlle:∀ L':Ls,(∀ i,j≠some i->L' i=L i)->LLe Lk L':=λL' hL' i x hx=>by
   have :=hle L' hL' i
   grind
 exact⟨o,ho,(he F H L ha).imp λF' H' L' ⟨h1,h2,s',h3,h4⟩=>⟨⟨h1,hlle L' h2⟩,h4 F' H' L' Lk h3 (hle L' h2)⟩⟩
end Go.SW
namespace Go.SW.V
open Go.SW
variable{P:Program}{n:Nat}{N:Rest}{H0:Env}{all:List Oper}{Q:Qs}{ks:List Kt}{fF:Nat->PV}{fL:Nat->Blk}
theorem roN{α:Type}{tb:Tb}{rs:List ResultVar}{ps:List PV}{res:Value->PV}{k e j:Nat}{enc:α->List PV}{xs xs':List α}{as0 bs:List Nat}{u0:Value}(u:Value)(h:Lr_ tb ⟨fF,fL⟩ rs=some (ps,as0,bs))(he:as0=bs)(hL:fL j = .arr u0 k e enc xs')(hu:u0=u)(hx:xs'=xs)(hp:PLe (tupP ps) (res u)):Hd P n N H0 (foK tb rs res k e enc xs) (.ex .ret) [] ⟨fF,fL⟩:=
 ⟨u,j,⟨.inr Y,_,as0,bs,h,he,hp⟩,by show fL j=_;rw[hL,hx,hu]⟩
variable{T ty:Nat}{x y:Operand}
theorem lo_aidxA{F:Fr}{H:Hp}{L:Ls}{kk:IntKind}{len k m:Nat}{i:Int}{e:TypeId}{cs vs:List Value}(hx:ev F x = .agg cs.toArray)(hy:ev F y = .int kk i)(hT:P.underlying T=some (.array len e))(hg:Ag P e true)(hk:Sz P e k)(hi:i=(m:Int))(hm:m<len)(hv:sub cs (m*k) k=vs):SW.Lo P N (.index T x y) ty F H L (.agg vs.toArray):=λd pos af gg w _=>by
 subst hi
 simp[execOp,hy,hx,GG,asIntOf,run_underlying hT,hk w,hm,part_A hg hk hv]
theorem lo_aidx1{F:Fr}{H:Hp}{L:Ls}{kk:IntKind}{len k m:Nat}{i:Int}{e:TypeId}{cs:List Value}{v:Value}(hx:ev F x = .agg cs.toArray)(hy:ev F y = .int kk i)(hT:P.underlying T=some (.array len e))(hg:Ag P e false)(hk:Sz P e k)(hi:i=(m:Int))(hm:m<len)(hv:cs[m*k]? = some v):SW.Lo P N (.index T x y) ty F H L v:=λd pos af gg w _=>by
 subst hi
 simp[execOp,hy,hx,GG,asIntOf,run_underlying hT,hk w,hm,part_1 hg hv]
theorem qaivA{tb:Tb}{te:TI}{kk:IntKind}{len k:Nat}{e:TypeId}{z:Int}{cs:List PV}(row:Nat->List PV)(m:Nat)(ht:tbB P tb=true)(hx:evP fF x = .agg cs)(hy:evP fF y = .int kk z)(hT:P.underlying T=some (.array len e))(hte:lkT tb e=some te)(hag:te.k.isAgg=true)(hsz:te.size=k)(hi:z=(m:Int))(hc:∀ q,q<len->(cs.drop (q*k)).take k=row q)(hm:m<len:=by exact qX):Qy P N H0 ⟨fF,fL⟩ (.index T x y) ty (.agg (row m)):=λF H L ha=>by
 have h1:=(Dn_ ha.f x).sim
 have h2:=(Dn_ ha.f y).sim
 simp only at h1 h2
 rw[hx] at h1
 rw[hy] at h2
 have⟨vs,e1,h3⟩:=h1.inv_agg
 have hg:=(Eq_ ht hte).ag
 rw[hag] at hg
 have hk:=(Eq_ ht hte).sz
 rw[hsz] at hk
 exact⟨_,Sim.toAgg (by rw[<- hc m hm];exact (h3.drop _).take _),λ_ _ _=>lo_aidxA e1 h2.inv_int.1 hT hg hk hi hm Y⟩
theorem qaiv1{tb:Tb}{te:TI}{kk:IntKind}{len k:Nat}{e:TypeId}{z:Int}{cs:List PV}(row:Nat->PV)(m:Nat)(ht:tbB P tb=true)(hx:evP fF x = .agg cs)(hy:evP fF y = .int kk z)(hT:P.underlying T=some (.array len e))(hte:lkT tb e=some te)(hag:te.k.isAgg=false)(hsz:te.size=k)(hi:z=(m:Int))(hm:m<len)(hno:∀ q,(row q).noOsl=true)(hc:∀ q,q<len->cs[q*k]? = some (row q)):Qy P N H0 ⟨fF,fL⟩ (.index T x y) ty (row m):=λF H L ha=>by
 have h1:=(Dn_ ha.f x).sim
 have h2:=(Dn_ ha.f y).sim
 simp only at h1 h2
 rw[hx] at h1
 rw[hy] at h2
 have⟨vs,e1,h3⟩:=h1.inv_agg
 have hg:=(Eq_ ht hte).ag
 rw[hag] at hg
 have hk:=(Eq_ ht hte).sz
 rw[hsz] at hk
 have⟨v,hv,hsv⟩:=h3.get (hc m hm)
 exact⟨v,hsv.simT (hno m),λ_ _ _=>lo_aidx1 e1 h2.inv_int.1 hT hg hk hi hm hv⟩
end Go.SW.V
namespace Go.SW
variable{P:Program}{n:Nat}{N:Rest}{H0:Env}{all rest:List Oper}{Q:Qs}{ks:List Kt}{s:St}{T ty d:Nat}{pos:String}{af:Array Edge}{x y:Operand}{K:St->Prop}{op:Op}{p:PV}
theorem range_rows{α:Type}[Inhabited α](zs:List α):∀ m:Nat,(List.range (m*zs.length)).map (λj=>zs.toArray[j%zs.length]!)=(List.replicate m zs).flatten
 |0=>by simp
 |m+1=>by
   rw[D7,List.range_add,C3,range_rows zs m,List.replicate_succ',List.flatten_append,DP]
   congr 1
   simp only[AQ,B7,AS]
   apply List.ext_getElem
   . simp
   . intro j h1 h2
     simp[Nat.mod_eq_of_lt h2,h2]
theorem op1_makeZ{F:Fr}{H:Hp}{L:Ls}{k bytes m:Nat}{e:TypeId}{zs:List Value}{k1 k2:IntKind}{len cap:Int}{ops:List Oper}{K:Fr->Hp->Ls->Prop}(i:Nat)(hx:ev F x = .int k1 len)(hy:ev F y = .int k2 cap)(hT:P.underlying T=some (.slice e))(hk:Sz P e k)(hb:By P e bytes)(hz:Zr P e zs)(hzl:zs.length=k)
   (hlen:len=(m:Int)) (hcap:cap=(m:Int)) (hbd:bytes*m<=281474976710656) (hm9:m<=9223372036854775807) (hd:Nat.blt d n=true)
   (kk:∀ b,K (upd F d (.slice (some ⟨b,0,none⟩) m m)) H (lupd L i (some (b,bx e (List.replicate m zs).flatten)))):Op1 P n N ops ⟨some d, .makeSlice T x y,ty,pos,af,none⟩ K F H L:=by
 intro a w ha hm;rw[if_pos pH];unfold BG;subst hlen;subst hcap;have⟨inf,hinf,hbb⟩:=hb w;have⟨z,hzr,hzc⟩:=hz w;have hw:A0 .i64 (m:Int)=(m:Int):=by
   exact sI
 suffices hr:(execOp a.eval ⟨some d, .makeSlice T x y,ty,pos,af,none⟩).run P w = .ok (.value (.slice (some ⟨w.heap.size,0,none⟩) m m)) {w with heap:=w.heap.push (bx e (AJ m zs).flatten)} by
   rw[hr]
   exact yD
 have h1:¬((m:Int)<0):=by omega
 have h2:¬(281474976710656<(inf.bytes:Int)*(m:Int)):=by
   grind
 rw[ha.eval];by_cases h0:m*k=0;have e0:(AJ m zs).flatten=[]:=by
   rw[<- List.length_eq_zero_iff];simp[hzl,h0]
 rw[e0];simp[execOp,hx,hy,FS,run_underlying hT,U3_,hinf,hw,h1,h2,hk w,h0,newRow,askRoom,bx];grind
 . have hr:=range_rows zs m
   rw[hzl] at hr
   rw[<- hr]
   simp[execOp,hx,hy,FS,run_underlying hT,U3_,hinf,hw,h1,h2,hk w,h0,hzr,newRow,askRoom,bx]
   congr 1
   simp[Obj.cells.injEq]
   grind
theorem rl_rep{α:Type}{H:Hp}{enc:α->List PV}{k:Nat}{z:α}{zs:List Value}(h:RowE enc k H z zs):∀ m:Nat,Rl (RowE enc k) H (List.replicate m z) (List.replicate m zs).flatten
 |0=>rfl
 |m+1=>by rw[FA,FA,AQ];exact⟨zs,_,rfl,h,rl_rep h m⟩
theorem mksl{α:Type}{tb:Tb}{e:Nat}{te ti:TI}{k1 k2:IntKind}{len cap:Int}(i m:Nat)(enc:α->List PV)(z:α)(ht:tbB P tb=true)(hx:evP s.F x = .int k1 len)(hy:evP s.F y = .int k2 cap)(hti:lkT tb T=some ti)(htk:ti.k = .slc e)(hte:lkT tb e=some te)(hz:te.zero=enc z)(hzl:te.zero.length=te.size)(hone:all1 te.zero=true)(hlen:len=(m:Int))(hcap:cap=(m:Int))(hbd:m*te.bytes<=140737488355328)(hm:m<=140737488355328)(hd:Nat.blt d n=true)(hno:s.L i = .no)
   (kk:∀ u',K ⟨updp (N2_ i s.F) d (.osl i),lups (Kt_ i s.L) i (.arr u' te.size e enc (List.replicate m z))⟩):E1 P n N H0 all ⟨some d, .makeSlice T x y,ty,pos,af,none⟩ (some i) s K:=by
 intro F H L ha;have h1:=(Dn_ ha.f x).sim;rw[hx] at h1;have h2:=(Dn_ ha.f y).sim;rw[hy] at h2;have⟨zv,hzv,hs⟩:=(Eq_ ht hte).zero;have hok:=Eq_ ht hte;have hall:=U8_ (hs H) hone;have hl:zv.cells.toList.length=te.size:=by rw[(hs H).1,hzl]
 refine op1_makeZ i h1.inv_int.1 h2.inv_int.1 ((Eq_ ht hti).slc htk) hok.sz hok.by_ (zs:=zv.cells.toList) (λw=>⟨zv,hzv w,by simp⟩) hl hlen hcap (by rw[Nat.mul_comm];omega) qX hd λb=>⟨.refl H,only,_,(ha.turn i (B:= .arr (.slice (some ⟨b,0,none⟩) m m) te.size e enc (AJ m z)) ⟨(AJ m zv.cells.toList).flatten,?_,rl_rep ⟨by rw[<- hz,hzl],by rw[<- hz];exact hs H,λu hu=>List.all_eq_true.1 hall u hu⟩ m,by simpa using hm⟩).put d oI,kk _⟩;simp only[List.length_replicate];have hfl:(AJ m zv.cells.toList).flatten.length=m*te.size:=by simp[hl]
 exact⟨hfl, .inr ⟨b,m,(AJ m zv.cells.toList).flatten,[],rfl,rfl,FF hfl.symm,AX _,by rw[AZ (FF hfl)],λ_=>rfl⟩⟩
end Go.SW
namespace Go.SW.V
open Go.SW
variable{P:Program}{n:Nat}{N:Rest}{H0:Env}{ks:List Kt}{fF:Nat->PV}{fL:Nat->Blk}{tb:Tb}{rs:List ResultVar}{res p q r t u:PV}{as0 bs:List Nat}
theorem rt4(h:Lr_ tb ⟨fF,fL⟩ rs=some ([p,q,r,t],as0,bs))(he:as0=bs)(hp:PLe (.tup [p,q,r,t]) res):Hd P n N H0 (rtK tb rs res) (.ex .ret) [] ⟨fF,fL⟩:=rt h he hp
end Go.SW.V
namespace Go.SW.V
open Go.SW
variable{P:Program}{n:Nat}{N:Rest}{H0:Env}{all rest:List Oper}{Q:Qs}{ks:List Kt}{fF:Nat->PV}{fL:Nat->Blk}{T ty d:Nat}{pos:String}{af:Array Edge}{x y z:Operand}{K:St->Prop}
structure EfR where
 F:Nat->PV
 L:Nat->Blk
 eq:Option (Nat×Nat)
def mkE(tb:Tb)(n:Nat)(i b:Nat)(F:Nat->PV)(L:Nat->Blk)(o:Oper):Option EfR:=
 match o.guard with
 |some _=>none
 |none=>match o.dst with
   |none=>none
   |some d=>match GO d n with
     |false=>none
     |true=>match o.op with
       | .alloc T=>match lkT tb T with
         |some ti=>match evL ti.zero with
           |some zs=>match Ds_ zs with
             |true=>some ⟨updp F d (.own i b 0),lups L i (.box b T zs),none⟩
             |false=>none
           |none=>none
         |none=>none
       | .box T x=>match evP F x with
         | .agg cs=>match Ds_ cs with
           |true=>some ⟨updp F d (.own i b 0),lups L i (.box b T cs),none⟩
           |false=>none
         |v=>match evS v with
           |some p=>match p.one with
             |true=>some ⟨updp F d (.own i b 0),lups L i (.box b T [p]),none⟩
             |false=>none
           |none=>none
       |_=>none
def stE(tb:Tb)(F:Nat->PV)(L:Nat->Blk)(o:Oper):Option EfR:=
 match o.guard with
 |some _=>none
 |none=>match o.dst with
   |some _=>none
   |none=>match o.op with
     | .store T x y=>match evP F x with
       | .own i b off=>match L i with
         | .box b' T0 cs=>match lkT tb T with
           |some ti=>match evP F y with
             | .agg ps=>match Ds_ ps with
               |true=>match all1 ps with
                 |true=>match AR ps.length ti.size with
                   |true=>match Nat.ble (off+ti.size) cs.length with
                     |true=>match evL (cs.take off++(ps++cs.drop (off+ti.size))) with
                       |some cs'=>some ⟨F,lups L i (.box b T0 cs'),some (b',b)⟩
                       |none=>none
                     |false=>none
                   |false=>none
                 |false=>none
               |false=>none
             |v=>match AR ti.size 1 with
               |true=>match evS v with
                 |some p=>match p.one with
                   |true=>match GO off cs.length with
                     |true=>match evL (cs.set off p) with
                       |some cs'=>some ⟨F,lups L i (.box b T0 cs'),some (b',b)⟩
                       |none=>none
                     |false=>none
                   |false=>none
                 |none=>none
               |false=>none
           |none=>none
         |_=>none
       |_=>none
     |_=>none
def kindE(o:Op):Nat:=
 match o with
 | .alloc _=>0
 | .box _ _=>0
 | .store _ _ _=>1
 |_=>2
def runE(tb:Tb)(n:Nat):Nat->List Nat->(Nat->Nat)->Cf->List Kt->(Nat->PV)->(Nat->Blk)->List Prop->List Nat->List Nat->Option RR
 |0,_,_,c,ks,F,L,ps,as0,bs=>frcP ps λps=>frcN as0 λas0=>frcN bs λbs=>some ⟨c,ks,F,L,ps,as0,bs⟩
 |k+1,is,B,c,ks,F,L,ps,as0,bs=>
   match c with
   | .ops all (o::rest)=>match kindE o.op with
     |0=>match is with
       |[]=>none
       |i::is=>match mkE tb n i (B 0) F L o with
         |some ⟨F,L,_⟩=>runE tb n k is (λi=>B (i+1)) (.ops all rest) ks F L ps as0 bs
         |none=>none
     |1=>match stE tb F L o with
       |some ⟨F,L,e⟩=>match e with
         |some (a,b)=>runE tb n k is B (.ops all rest) ks F L ps (a::as0) (b::bs)
         |none=>none
       |none=>none
     |_=>match run tb n 1 (.ops all (o::rest)) ks F L ps as0 bs with
       |some ⟨c,ks,F,L,ps,as0,bs⟩=>runE tb n k is B c ks F L ps as0 bs
       |none=>none
   |c=>match run tb n 1 c ks F L ps as0 bs with
     |some ⟨c,ks,F,L,ps,as0,bs⟩=>runE tb n k is B c ks F L ps as0 bs
     |none=>none
theorem mkE_ok{tb:Tb}(ht:tbB P tb=true){i:Nat}{F:Nat->PV}{L:Nat->Blk}{o:Oper}(h:∀ b,∃ r,mkE tb n i b F L o=some r/\Hd P n N H0 Q (.ops all rest) ks ⟨r.F,r.L⟩):Hd P n N H0 Q (.ops all (o::rest)) ks ⟨F,L⟩:=by
 have⟨dst,op,ty,pos,af,g⟩:=o;have h0:=h 0
 cases g with
 |some q=>have⟨r,h1,_⟩:=h0;simp[mkE] at h1
 |none=>
   cases dst with
   |none=>have⟨r,h1,_⟩:=h0;simp[mkE] at h1
   |some d=>
     cases hd:GO d n with
     |false=>have⟨r,h1,_⟩:=h0;simp[mkE,hd] at h1
     |true=>
       cases op with
       |alloc T=>
         simp only[mkE,hd] at h
         cases hti:lkT tb T with
         |none=>rw[hti] at h;have⟨r,h1,_⟩:=h 0;simp at h1
         |some ti=>
           rw[hti] at h
           simp only at h
           cases hz:evL ti.zero with
           |none=>rw[hz] at h;have⟨r,h1,_⟩:=h 0;simp at h1
           |some zs=>
             rw[hz] at h
             simp only at h
             cases hn:Ds_ zs with
             |false=>rw[hn] at h;have⟨r,h1,_⟩:=h 0;simp at h1
             |true=>
               rw[hn] at h
               refine ef (alloc ht i hti hz hn hd λb=>?_)
               have⟨r,h1,h2⟩:=h b
               grind
       |box T x=>
         simp only[mkE,hd] at h
         split at h
         . rename_i cs hx
           cases hn:Ds_ cs with
           |false=>rw[hn] at h;have⟨r,h1,_⟩:=h 0;simp at h1
           |true=>
             rw[hn] at h
             refine ef (boxA i hx hn hd λb=>?_)
             have⟨r,h1,h2⟩:=h b
             grind
         . cases hs:evS (evP F x) with
           |none=>rw[hs] at h;have⟨r,h1,_⟩:=h 0;simp at h1
           |some p=>
             rw[hs] at h
             simp only at h
             cases ho:p.one with
             |false=>rw[ho] at h;have⟨r,h1,_⟩:=h 0;simp at h1
             |true=>
               rw[ho] at h
               refine ef (box1 i hs ho hd λb=>?_)
               have⟨r,h1,h2⟩:=h b
               grind
       |_=>have⟨r,h1,_⟩:=h0;simp[mkE,hd] at h1
theorem stE_ok{tb:Tb}(ht:tbB P tb=true){F:Nat->PV}{L:Nat->Blk}{o:Oper}{r:EfR}(h:stE tb F L o=some r)(he:∀ q,r.eq=some q->q.1=q.2)(k:Hd P n N H0 Q (.ops all rest) ks ⟨r.F,r.L⟩):Hd P n N H0 Q (.ops all (o::rest)) ks ⟨F,L⟩:=by
 have⟨dst,op,ty,pos,af,g⟩:=o
 cases g with
 |some q=>simp[stE] at h
 |none=>
   cases dst with
   |some d=>simp[stE] at h
   |none=>
     cases op with
     |store T x y=>
       simp only[stE] at h
       split at h
       . rename_i i b off hx
         split at h
         . rename_i b' T0 cs hb
           split at h
           . rename_i ti hti
             split at h
             . rename_i ps hy
               split at h
               . rename_i hn
                 split at h
                 . rename_i ho
                   split at h
                   . rename_i hsz
                     split at h
                     . rename_i hl
                       split at h
                       . rename_i cs' hc
                         simp only[Option.some.injEq] at h
                         subst h
                         exact ef (storeA ht hx hb hti hy hn ho (AM hsz) hl (he _ Y) hc k)
                       . cases h
                     . cases h
                   . cases h
                 . cases h
               . cases h
             . split at h
               . rename_i hsz
                 split at h
                 . rename_i p hs
                   split at h
                   . rename_i ho
                     split at h
                     . rename_i hl
                       split at h
                       . rename_i cs' hc
                         simp only[Option.some.injEq] at h
                         subst h
                         exact ef (store1 ht hx hb hti (AM hsz) hs ho hl (he _ Y) hc k)
                       . cases h
                     . cases h
                   . cases h
                 . cases h
               . cases h
           . cases h
         . cases h
       . cases h
     |_=>simp[stE] at h
def okR(P:Program)(n:Nat)(N:Rest)(H0:Env)(Q:Qs)(r:RR):Prop:=AllP r.ps/\r.as0=r.bs/\Hd P n N H0 Q r.c r.ks ⟨r.F,r.L⟩
theorem runE_ok{tb:Tb}(ht:tbB P tb=true):∀ (k:Nat) (is:List Nat) (c:Cf) (ks:List Kt) (F:Nat->PV) (L:Nat->Blk) (ps:List Prop) (as0 bs:List Nat),(∀ B:Nat->Nat,∃ r,runE tb n k is B c ks F L ps as0 bs=some r/\okR P n N H0 Q r)->AllP ps/\as0=bs/\Hd P n N H0 Q c ks ⟨F,L⟩:=by
 intro k
 induction k with
 |zero=>
   intro is c ks F L ps as0 bs h
   have⟨r,h1,h2,h3,h4⟩:=h (λ_=>0)
   simp only[runE,Xi_,frcN_eq,Option.some.injEq] at h1
   grind
 |succ k ih=>
   intro is c ks F L ps as0 bs h
   have one:(∀ B:Nat->Nat,∃ r,(match run tb n 1 c ks F L ps as0 bs with
       |some ⟨c,ks,F,L,ps,as0,bs⟩=>runE tb n k is B c ks F L ps as0 bs
       |none=>none)=some r/\okR P n N H0 Q r)->AllP ps/\as0=bs/\Hd P n N H0 Q c ks ⟨F,L⟩:=by
     intro h
     cases hr:run tb n 1 c ks F L ps as0 bs with
     |none=>have⟨r,h1,_⟩:=h (λ_=>0);rw[hr] at h1;cases h1
     |some q=>
       have⟨c',ks',F',L',ps',as',bs'⟩:=q
       have⟨i1,i2,i3⟩:=ih is c' ks' F' L' ps' as' bs' (λB=>by have⟨r,h1,h2⟩:=h B;rw[hr] at h1;exact⟨r,h1,h2⟩)
       have⟨j1,j2,j3⟩:=run_ok ht (Q:=Q) (N:=N) (H0:=H0) 1 c ks F L ps as0 bs _ hr i1 i2
       grind
   cases c with
   |code c=>exact one h
   |ex e=>exact one h
   |ops all l=>
     cases l with
     |nil=>exact one h
     |cons o rest=>
       simp only[runE] at h
       split at h
       . cases is with
         |nil=>have⟨r,h1,_⟩:=h (λ_=>0);cases h1
         |cons i is=>
           have hb:∀ b,∃ r,mkE tb n i b F L o=some r/\AllP ps/\as0=bs/\Hd P n N H0 Q (.ops all rest) ks ⟨r.F,r.L⟩:=by
             intro b
             cases hm:mkE tb n i b F L o with
             |none=>have⟨r,h1,_⟩:=h (λ_=>b);simp only[hm] at h1;cases h1
             |some q=>
               have⟨F',L',e⟩:=q
               refine⟨_,rfl,ih is (.ops all rest) ks F' L' ps as0 bs λB=>?_⟩
               have⟨r,h1,h2⟩:=h (λj=>match j with|0=>b|j+1=>B j)
               grind
           have⟨_,_,q1,q2,_⟩:=hb 0
           exact⟨q1,q2,mkE_ok ht λb=>by have⟨r,h1,_,_,h2⟩:=hb b;exact⟨r,h1,h2⟩⟩
       . cases hs:stE tb F L o with
         |none=>have⟨r,h1,_⟩:=h (λ_=>0);rw[hs] at h1;cases h1
         |some q=>
           have⟨F',L',e⟩:=q
           cases e with
           |none=>have⟨r,h1,_⟩:=h (λ_=>0);rw[hs] at h1;cases h1
           |some ab=>
             have⟨a,b⟩:=ab
             have⟨i1,i2,i3⟩:=ih is (.ops all rest) ks F' L' ps (a::as0) (b::bs) (λB=>by have⟨r,h1,h2⟩:=h B;rw[hs] at h1;exact⟨r,h1,h2⟩)
             simp only[List.cons.injEq] at i2
             exact⟨i1,i2.2,stE_ok ht hs (λq hq=>by cases hq;exact i2.1) i3⟩
       . exact one h
theorem gmp{tb:Tb}(ht:tbB P tb=true)(k:Nat)(is:List Nat){c c':Cf}{ks':List Kt}{F':(Nat->Nat)->Nat->PV}{L':(Nat->Nat)->Nat->Blk}{ps:(Nat->Nat)->List Prop}{as0 bs:(Nat->Nat)->List Nat}(h:∀ B,runE tb n k is B c ks fF fL [] [] []=some ⟨c',ks',F' B,L' B,ps B,as0 B,bs B⟩)(he:∀ B,as0 B=bs B)(hp:∀ B,AllP (ps B))(next :∀ B:Nat->Nat,Hd P n N H0 Q c' ks' ⟨F' B,L' B⟩):Hd P n N H0 Q c ks ⟨fF,fL⟩:=
 (runE_ok ht k is c ks fF fL [] [] [] λB=>⟨_,h B,hp B,he B,next B⟩).2.2
theorem gx{tb:Tb}(ht:tbB P tb=true)(k:Nat){c c':Cf}{ks':List Kt}{F':Nat->PV}{L':Nat->Blk}{as0 bs:List Nat}(next :Hd P n N H0 Q c' ks' ⟨F',L'⟩)(h:run tb n k c ks fF fL [] [] []=some ⟨c',ks',F',L',[],as0,bs⟩:=by exact Y)(he:as0=bs:=by exact Y):Hd P n N H0 Q c ks ⟨fF,fL⟩:=go ht k h he Z next
theorem gm{tb:Tb}(ht:tbB P tb=true)(k:Nat)(is:List Nat){c c':Cf}{ks':List Kt}{F':(Nat->Nat)->Nat->PV}{L':(Nat->Nat)->Nat->Blk}{as0 bs:(Nat->Nat)->List Nat}(next :∀ B:Nat->Nat,Hd P n N H0 Q c' ks' ⟨F' B,L' B⟩)(h:∀ B,runE tb n k is B c ks fF fL [] [] []=some ⟨c',ks',F' B,L' B,[],as0 B,bs B⟩:=by exact λ_=>rfl)(he:∀ B,as0 B=bs B:=by exact λ_=>rfl):Hd P n N H0 Q c ks ⟨fF,fL⟩:=gmp ht k is h he (λ_=>trivial) next
abbrev jIn(xs:List Nat)(j:Option Nat):Bool:=match j with|none=>true|some j=>memB xs j
theorem sA{tb:Tb}{ti:TI}{i b b' off T0:Nat}{cs ps cs':List PV}(ht:tbB P tb=true)(k:K ⟨fF,lups fL i (.box b T0 cs')⟩)(hx:evP fF x = .own i b off:=by exact Y)(hb:fL i = .box b' T0 cs:=by exact Y)(hti:lkT tb T=some ti:=by exact Y)(hy:evP fF y = .agg ps:=by exact Y)(hn:Ds_ ps=true:=by exact Y)(ho:all1 ps=true:=by exact Y)(hsz:ps.length=ti.size:=by exact Y)(hl:Nat.ble (off+ti.size) cs.length=true:=by exact Y)(hbb:b'=b:=by exact Y)(hc:evL (cs.take off++(ps++cs.drop (off+ti.size)))=some cs':=by exact Y):E1 P n N H0 all ⟨none, .store T x y,ty,pos,af,none⟩ (some i) ⟨fF,fL⟩ K:=storeA ht hx hb hti hy hn ho hsz hl hbb hc k
theorem sO{tb:Tb}{ti:TI}{i b b' off T0:Nat}{cs cs':List PV}{p:PV}(ht:tbB P tb=true)(k:K ⟨fF,lups fL i (.box b T0 cs')⟩)(hx:evP fF x = .own i b off:=by exact Y)(hb:fL i = .box b' T0 cs:=by exact Y)(hti:lkT tb T=some ti:=by exact Y)(hsz:ti.size=1:=by exact Y)(hy:evS (evP fF y)=some p:=by exact Y)(ho:p.one=true:=by exact Y)(hl:Nat.blt off cs.length=true:=by exact Y)(hbb:b'=b:=by exact Y)(hc:evL (cs.set off p)=some cs':=by exact Y):E1 P n N H0 all ⟨none, .store T x y,ty,pos,af,none⟩ (some i) ⟨fF,fL⟩ K:=store1 ht hx hb hti hsz hy ho hl hbb hc k
theorem aL{tb:Tb}{ti:TI}{zs:List PV}(ht:tbB P tb=true)(i:Nat)(k:∀ b,K ⟨updp fF d (.own i b 0),lups fL i (.box b T zs)⟩)(hti:lkT tb T=some ti:=by exact Y)(hz:evL ti.zero=some zs:=by exact Y)(hn:Ds_ zs=true:=by exact Y)(hd:Nat.blt d n=true:=by exact Y):E1 P n N H0 all ⟨some d, .alloc T,ty,pos,af,none⟩ (some i) ⟨fF,fL⟩ K:=alloc ht i hti hz hn hd k
theorem eC{f:FuncId}{args:List PV}{res:PV}{as0:Array Operand}{ats:Array TypeId}(h:Fn P H0.g f args res)(ha:argsP fF x as0.toList=some (f,args))(k:res.wf->K ⟨updp fF d res,fL⟩)(hd:Nat.blt d n=true:=by exact Y):E1 P n N H0 all ⟨some d, .call ⟨.value x,as0,ats⟩,ty,pos,af,none⟩ none ⟨fF,fL⟩ K:=ecall h ha hd k
theorem vE{xs:List Nat}{fuel:Nat}{listed:Array Bool}{o:Oper}{j:Option Nat}(i:Nat)(hi:nth all i=some o)(h:E1 P n N H0 all o j ⟨fF,fL⟩ (λs'=>Hv P n N H0 Q (some xs) all fuel (listed.setIfInBounds i true) ks s'))(hr:Region.ready .any all.toArray listed=[i]:=by kernel_rfl)(hj:jIn xs j=true:=by exact Y):Hv P n N H0 Q (some xs) all (fuel+1) listed ks ⟨fF,fL⟩:=ve i hi hr hj h
theorem vT{xs:Option (List Nat)}{fuel:Nat}{listed:Array Bool}{o:Oper}{j:Option Nat}(i:Nat)(hi:nth all i=some o)(h:E1 P n N H0 all o j ⟨fF,fL⟩ (λs'=>Hv P n N H0 Q none all fuel (listed.setIfInBounds i true) ks s'))(hr:Region.ready .any all.toArray listed=[i]:=by kernel_rfl)(ht:tailB all listed i=true:=by kernel_rfl):Hv P n N H0 Q xs all (fuel+1) listed ks ⟨fF,fL⟩:=vt i hi hr ht h
theorem vD{xs:Option (List Nat)}{fuel:Nat}{listed:Array Bool}(k:Hd P n N H0 Q (.ex .normal) ks ⟨fF,fL⟩)(h:Region.ready .any all.toArray listed=[]:=by kernel_rfl):Hv P n N H0 Q xs all fuel listed ks ⟨fF,fL⟩:=vdone h k
theorem aN(xs:List Nat)(m:Nat){id:Nat}{ops:Array Oper}(hmx:P.follows .mixedOrders=true)(h:Hv P n N H0 Q (some xs) ops.toList m (Array.replicate m false) ks ⟨fF,fL⟩)(hm:ops.toList.length=m:=by exact Y):Hd P n N H0 Q (.code (.region id ops true)) ks ⟨fF,fL⟩:=any xs m hmx hm h
theorem gX{tb:Tb}(ht:tbB P tb=true)(order:List Nat)(f:Nat){xs:Option (List Nat)}{fuel:Nat}{listed:Array Bool}{F':Nat->PV}{L':Nat->Blk}{as0 bs:List Nat}(next :Hv P n N H0 Q xs all f (lst listed order) ks ⟨F',L'⟩)(hf:fuel=f+order.length:=by exact Y)(hc:chkV n all order listed=true:=by kernel_rfl)(h:runV tb xs all order fF fL [] [] []=some ⟨F',L',[],as0,bs⟩:=by exact Y)(he:as0=bs:=by exact Y):Hv P n N H0 Q xs all fuel listed ks ⟨fF,fL⟩:=gov ht order f hf hc h he Z next
theorem vC{xs:Option (List Nat)}{fuel:Nat}{listed:Array Bool}{f:FuncId}{args:List PV}{res:PV}{as0:Array Operand}{ats:Array TypeId}(i:Nat)(hi:nth all i=some ⟨some d, .call ⟨.value x,as0,ats⟩,ty,pos,af,none⟩)(h:Fn P H0.g f args res)(ha:argsP fF x as0.toList=some (f,args))(k:res.wf->Hv P n N H0 Q xs all fuel (listed.setIfInBounds i true) ks ⟨updp fF d res,fL⟩)(hck:(rdB all listed i&&apB n all listed i ⟨some d, .call ⟨.value x,as0,ats⟩,ty,pos,af,none⟩&&Nat.blt d n&&nosB (.call ⟨.value x,as0,ats⟩))=true:=by kernel_rfl)(hf:res.flat=true:=by exact Y):Hv P n N H0 Q xs all (fuel+1) listed ks ⟨fF,fL⟩:=vcall i hi hck h hf ha k
theorem nX{ι:Type _}{keep kL:List Nat}{G:Nat->PV}{GL:Nat->Blk}{lv:ι->List (Nat×PV)}{lL:ι->List (Nat×Blk)}{Φ:ι->Prop}{μ:ι->Nat}{m:Nat}{ks:List Kt}{Q:Qs}(x':ι)(hΦ:Φ x')(h3:AllF fF (lv x'))(h4:AllL fL (lL x'))(h1:keep.map fF=keep.map G:=by exact Y)(h2:kL.map fL=kL.map GL:=by exact Y)(hm:μ x'<m:=by decide):Hd P n N H0 Q (.ex .normal) (.lp (LJ (λx=>⟨mkF (lv x) keep G,mkL (lL x) kL GL⟩) Φ μ m)::ks) ⟨fF,fL⟩:=next x' h1 h2 h3 h4 hm hΦ
theorem cE{α:Type}{v a b:α}{c:Operand}{p q:Code}{t:Bool}(e:v = bif t then a else b)(ht:t=true->v=a->Hd P n N H0 Q (.code p) ks ⟨fF,fL⟩)(hf:t=false->v=b->Hd P n N H0 Q (.code q) ks ⟨fF,fL⟩)(hc:evP fF c = .bool t:=by exact Y):Hd P n N H0 Q (.code (.cond c p q)) ks ⟨fF,fL⟩:=cnd hc (λh=>ht h (e.trans (by rw[h];rfl))) (λh=>hf h (e.trans (by rw[h];rfl)))
theorem cD{α:Type}{v a b:α}{c:Operand}{p q:Code}{t:Prop}[Decidable t](e:v = bif decide t then a else b)(ht:t->v=a->Hd P n N H0 Q (.code p) ks ⟨fF,fL⟩)(hf:¬t->v=b->Hd P n N H0 Q (.code q) ks ⟨fF,fL⟩)(hc:evP fF c = .bool (decide t):=by exact Y):Hd P n N H0 Q (.code (.cond c p q)) ks ⟨fF,fL⟩:=cE e (λh=>ht (of_decide_eq_true h)) (λh=>hf (of_decide_eq_false h)) hc
theorem cN{α:Type}{v a b:α}{c:Operand}{p q:Code}{t:Prop}[Decidable t](e:v = bif !decide t then a else b)(ht:¬t->v=a->Hd P n N H0 Q (.code p) ks ⟨fF,fL⟩)(hf:t->v=b->Hd P n N H0 Q (.code q) ks ⟨fF,fL⟩)(hc:evP fF c = .bool (!decide t):=by exact Y):Hd P n N H0 Q (.code (.cond c p q)) ks ⟨fF,fL⟩:=cE e (λh=>ht pT) (λh=>hf pT) hc
theorem fC{tb:Tb}{G:Gb}{m:Nat}{f:FuncId}{fn:Func}{c:Code}{args:List PV}{res:PV}(hf:P.funcs[f]? = some fn)(ht:tbB P tb=true)(hn:fn.ntmps=m)(h:PV.wfs args->∀ N H,G.p H->Hd P m N ⟨H,G⟩ (rtK tb fn.results.toList res) (.code c) [] ⟨Qf_ args,λ_=> .no⟩)(hb:fn.body=some c:=by exact Y)(hs:Nat.ble args.length m=true:=by exact Y)(h1:(fn.name == "runtime.NumGoroutine")=false:=by kernel_rfl)(h2:fn.body.isNone=false:=by kernel_rfl)(hno:res.noOsl=true:=by exact Y)(hna:Ds_ args=true:=by exact Y):Fn P G f args res:=fn_cw ht hf hb hn hs (At_ hf (hn:=h1) (hb:=h2)) hno hna h
variable{tb:Tb}{rs:List ResultVar}{as0 bs:List Nat}{res q0 q1 q2 q3:PV}
theorem qr1(h:Lr_ tb ⟨fF,fL⟩ rs=some ([q0],as0,bs):=by exact Y)(he:as0=bs:=by exact Y)(hp:PLe q0 res:=by exact ple Y):Hd P n N H0 (rtK tb rs res) (.ex .ret) [] ⟨fF,fL⟩:=rt1 h he hp
theorem qr2(h:Lr_ tb ⟨fF,fL⟩ rs=some ([q0,q1],as0,bs):=by exact Y)(he:as0=bs:=by exact Y)(hp:PLe (.tup [q0,q1]) res:=by exact ple Y):Hd P n N H0 (rtK tb rs res) (.ex .ret) [] ⟨fF,fL⟩:=rt2 h he hp
theorem qr3(h:Lr_ tb ⟨fF,fL⟩ rs=some ([q0,q1,q2],as0,bs):=by exact Y)(he:as0=bs:=by exact Y)(hp:PLe (.tup [q0,q1,q2]) res:=by exact ple Y):Hd P n N H0 (rtK tb rs res) (.ex .ret) [] ⟨fF,fL⟩:=rt3 h he hp
theorem qr4(h:Lr_ tb ⟨fF,fL⟩ rs=some ([q0,q1,q2,q3],as0,bs):=by exact Y)(he:as0=bs:=by exact Y)(hp:PLe (.tup [q0,q1,q2,q3]) res:=by exact ple Y):Hd P n N H0 (rtK tb rs res) (.ex .ret) [] ⟨fF,fL⟩:=rt4 h he hp
theorem cV{α β:Type}{v:β}{g:α}{kf:α->β}{f:FuncId}{args:List PV}{xs:Array Operand}{ats:Array TypeId}(e:v=lt g kf)(enc:α->PV)(h:Fn P H0.g f args (enc g))(ha:argsP fF x xs.toList=some (f,args))(k:∀ r,r=g->v=kf r->(enc r).wf->Hd P n N H0 Q (.ops all rest) ks ⟨updp fF d (enc r),fL⟩)(hd:Nat.blt d n=true:=by exact Y):Hd P n N H0 Q (.ops all (⟨some d, .call ⟨.value x,xs,ats⟩,ty,pos,af,none⟩::rest)) ks ⟨fF,fL⟩:=
 callv g enc h ha hd λr hr w=>k r hr (e.trans (Df_ hr)) w
theorem gy{tb:Tb}(ht:tbB P tb=true)(k:Nat){c c':Cf}{ks':List Kt}{F':Nat->PV}{L':Nat->Blk}{ps:List Prop}{as0 bs:List Nat}(next :Hd P n N H0 Q c' ks' ⟨F',L'⟩)(h:run tb n k c ks fF fL [] [] []=some ⟨c',ks',F',L',ps,as0,bs⟩:=by exact Y)(he:as0=bs:=by exact Y)(hp:AllP ps:=by repeat' (first|exact Z|refine And.intro ?_ ?_|exact λhc=>hc|exact Y|exact λhc=>rfl|omega|(intro hc;omega)|(intro hc;rw[hc];rfl))):Hd P n N H0 Q c ks ⟨fF,fL⟩:=go ht k h he hp next
theorem gmy{tb:Tb}(ht:tbB P tb=true)(k:Nat)(is:List Nat){c c':Cf}{ks':List Kt}{F':(Nat->Nat)->Nat->PV}{L':(Nat->Nat)->Nat->Blk}{ps:(Nat->Nat)->List Prop}{as0 bs:(Nat->Nat)->List Nat}(next :∀ B:Nat->Nat,Hd P n N H0 Q c' ks' ⟨F' B,L' B⟩)(h:∀ B,runE tb n k is B c ks fF fL [] [] []=some ⟨c',ks',F' B,L' B,ps B,as0 B,bs B⟩:=by exact λ_=>rfl)(he:∀ B,as0 B=bs B:=by exact λ_=>rfl)(hp:∀ B,AllP (ps B):=by intro B;repeat' (first|exact Z|refine And.intro ?_ ?_|exact λhc=>hc|exact Y|exact λhc=>rfl|omega|(intro hc;omega)|(intro hc;rw[hc];rfl))):Hd P n N H0 Q c ks ⟨fF,fL⟩:=gmp ht k is h he hp next
theorem gXy{tb:Tb}(ht:tbB P tb=true)(order:List Nat)(f:Nat){xs:Option (List Nat)}{fuel:Nat}{listed:Array Bool}{F':Nat->PV}{L':Nat->Blk}{ps:List Prop}{as0 bs:List Nat}(next :Hv P n N H0 Q xs all f (lst listed order) ks ⟨F',L'⟩)(hf:fuel=f+order.length:=by exact Y)(hc:chkV n all order listed=true:=by kernel_rfl)(h:runV tb xs all order fF fL [] [] []=some ⟨F',L',ps,as0,bs⟩:=by exact Y)(he:as0=bs:=by exact Y)(hp:AllP ps:=by repeat' (first|exact Z|refine And.intro ?_ ?_|exact λhc=>hc|exact Y|exact λhc=>rfl|omega|(intro hc;omega)|(intro hc;rw[hc];rfl))):Hv P n N H0 Q xs all fuel listed ks ⟨fF,fL⟩:=gov ht order f hf hc h he hp next
end Go.SW.V
namespace Go.SW
variable{P:Program}{n:Nat}{N:Rest}{H0:Env}{all rest:List Oper}{Q:Qs}{ks:List Kt}{T ty d:Nat}{pos:String}{af:Array Edge}{x:Operand}{K:St->Prop}
def two(L M:Ls)(i j:Nat):Ls:=λq=>if q=i then M 0 else if q=j then M 1 else L q
end Go.SW
namespace Go.SW.V
open Go.SW
variable{P:Program}{n:Nat}{N:Rest}{H0:Env}{all rest:List Oper}{Q:Qs}{ks:List Kt}{fF:Nat->PV}{fL:Nat->Blk}{T ty d:Nat}{pos:String}{af:Array Edge}{x:Operand}{K:St->Prop}
end Go.SW.V
namespace Go.SW
def GPow(H:Hp)(g:Nat):Prop:=∃ T fr,H g=some (.cells (Go.Lib.pow10Tab.map (Value.int .u64)).toArray T fr)
theorem GPow.mono{H H':Hp}{g:Nat}(h:GPow H g)(hl:HLe H H'):GPow H' g:=by
 have⟨T,fr,e⟩:=h;exact⟨T,fr,hl _ _ e⟩
open Go.RowKit
def cuts(p:UInt8):Bs->List Bs
 |[]=>[[]]
 |c::r=>if c=p then []::cuts p r else match cuts p r with
   |[]=>[[c]]
   |w::t=>(c::w)::t
theorem Zq_(p:UInt8):∀ s:Bs,Lib.splitK [p] 0 (Lib.count s [p]) s=cuts p s
 |[]=>by rw[EP (by simp[BA])];rfl
 |b::l=>by
   have ih:=Zq_ p l
   by_cases hb:b=p
   . subst hb
     rw[Lib.count_cons_eq,Nat.add_comm]
     have hix:BA (b::l) [b]=0:=by rw[BA];simp[E7]
     unfold G5 cuts
     rw[hix]
     simp[ih]
   . rw[Lib.count_cons_ne _ _ _ hb]
     have hp:([p]:List UInt8).isPrefixOf (b::l)=false:=by simp[E7,Ne.symm hb]
     have hix:BA (b::l) [p] = if BA l [p] == -1 then -1 else BA l [p]+1:=by rw[BA,hp];simp
     unfold cuts
     rw[if_neg hb,<- ih]
     cases hc:Lib.count l [p] with
     |zero=>rfl
     |succ k=>
       unfold G5
       rw[hix]
       by_cases hm:BA l [p] = -1
       . rw[EP hm] at hc;cases hc
       . have hge:=Lib.index_ge l [p]
         obtain⟨j,hj⟩:∃ j:Nat,BA l [p]=j:=⟨(BA l [p]).toNat,by omega⟩
         exact tP
theorem Zo_(p:UInt8)(s:Bs):(Lib.splitB ⟨#[p]⟩ 0 (Lib.countB ⟨s.toArray⟩ ⟨#[p]⟩) ⟨s.toArray⟩).map Value.string=(cuts p s).map str:=by
 have h:=Lib.splitB_data ⟨#[p]⟩ 0 (DN ⟨s.toArray⟩ ⟨#[p]⟩) ⟨s.toArray⟩;have hc:DN ⟨s.toArray⟩ ⟨#[p]⟩=Lib.count s [p]:=by simp[DN]
 rw[hc] at h ⊢;have e:=Zq_ p s;exact sD
theorem splitB_clen(p:UInt8)(s:Bs):Lib.countB ⟨s.toArray⟩ ⟨#[p]⟩+1=(cuts p s).length:=by
 have h:=congrArg List.length (Zo_ p s);rw[CL,CL,Lib.splitB_all ⟨#[p]⟩ (by simp[DG]) 0 _ _ rfl] at h;exact h
theorem Ve_(p:UInt8):∀ (s w:Bs),w∈cuts p s->w.length<=s.length
 |[],w,h=>by simp[cuts] at h;simp[h]
 |c::r,w,h=>by
   unfold cuts at h
   split at h
   . rcases List.mem_cons.1 h with rfl|h
     . simp
     . have :=Ve_ p r w h;simp;omega
   . split at h
     . simp at h;subst h;simp
     . rename_i x t e
       have ih:=Ve_ p r
       rw[e] at ih
       rcases List.mem_cons.1 h with rfl|h
       . have :=ih x pC;simp;omega
       . have :=ih w (by simp[h]);simp;omega
theorem cuts_le(p:UInt8):∀ s:Bs,(cuts p s).length<=s.length+1
 |[]=>by simp[cuts]
 |c::r=>by
   have ih:=cuts_le p r
   unfold cuts
   split
   . simp;omega
   . split
     . simp
     . rename_i e;rw[e] at ih;simp at ih ⊢;omega
theorem Mem.addH{N:Rest}{H:Hp}{L:Ls}{w w':World}(h:Mem N H L w)(hb:Below w.heap.size w w'){g:Nat}{o:Obj}(hg:w.heap.size<=g)(ho:w'.heap[g]? = some o):Mem N (hadd H g o) L w'/\HLe H (hadd H g o):=by
 have hs:∀ (b:Nat) o',w.heap[b]? = some o'->b<w.heap.size:=λb o' x=>by
   by_cases q:b<w.heap.size
   . exact q
   . rw[C4 qX] at x;cases x
 have hk:∀ (b:Nat) o',w.heap[b]? = some o'->w'.heap[b]? = some o':=λb o' x=>by rw[hb.block b (hs b o' x)];exact x
 have hH:H g=none:=by
   cases q:H g with
   |none=>rfl
   |some o1=>have :=hs _ _ (h.h _ _ q);omega
 refine⟨⟨hb.os.trans h.os,hb.tape.trans h.tape,hb.output.trans h.output,λb o' x=>hk _ _ (h.n b o' x),λb o' x=>?_,λi b o' x=>hk _ _ (h.l i b o' x),λb o' x=>?_,λi b o' x=>⟨(h.nl i b o' x).1,?_⟩,h.ll⟩,hadd_le hH⟩;by_cases e:b=g;subst e;simp[hadd] at x;subst x;exact ho;simp[hadd,e] at x;exact hk _ _ (h.h b o' x);have :=hs b o' (h.n b o' x);have e:b≠g:=by omega
 simp[hadd,e];exact h.nh b o' x;have :=hs b o' (h.l i b o' x);have e:b≠g:=by omega
 simp[hadd,e];exact (h.nl i b o' x).2
theorem ph_rowB{P:Program}{f:FuncId}{args:Array Value}{H:Hp}{T:TypeId}{xs:List Bs}{ys:List Value}(hy:ys=xs.map str)(hx:∀ s∈xs,s.length<=9223372036854775807)
   (h:∀ N L w,Mem N H L w->Calls P f args w λe w'=>∃ A,e = .returned (.slice (some ⟨A,0,none⟩) ys.length ys.length)/\w.heap.size<=A/\w'.ownsRow w.heap.size T 1 (.slice (some ⟨A,0,none⟩) ys.length ys.length) ys.length ys/\Below w.heap.size w w') :
   Ph P f args H (λv H'=>∃ (a:Option Addr) (c:Nat),v = .slice a xs.length c/\SlH strE 1 H' (.slice a xs.length c) xs):=by
 subst hy;intro N L w hm;refine (h N L w hm).mono λe w' ⟨A,he,hA,hr,hb⟩=>?_;simp only[CL] at he hr
 rcases hr.2 with ⟨h0,_⟩|⟨g,cap,cur,hv,hg,ho,hn,_,hc,ht⟩
 . cases h0
 . cases hv
   have⟨hm',hl⟩:=hm.addH hb hA ho
   have hcur:cur=(xs.map str).toArray:=by
     apply Array.ext'
     rw[<- ht]
     have :cur.toList.length=xs.length*1:=by simpa using hc
     rw[AZ qX]
   refine⟨_,_,he,⟨_,_,rfl,⟨_,_,rfl,AX _⟩,λm hmm=>⟨[str xs[m]],⟨rfl,hx _ (List.getElem_mem hmm)⟩,A,0,xs.length,xs.length,cur,T,(0,0),rfl,?_,rfl,λj hj=>?_⟩⟩,hl,hm'⟩
   simp[hadd]
   obtain rfl :j=0:=by simpa using hj
   subst hcur
   simp[hmm]
def flds(s:Bs):List Bs:=(GH (λx=>decide ((x:Int)=32)) ⟨s.toArray⟩).map λb=>b.data.toList
theorem flds_str(s:Bs):(Lib.goFieldsP (λx=>decide ((x:Int)=32)) ⟨s.toArray⟩).map Value.string=(flds s).map str:=by
 unfold flds;rw[DP]
 congr 1
theorem flds_piece(s w:Bs)(h:w∈flds s):w.length<=s.length:=by
 simp only[flds,GH,DP,List.mem_map,Function.comp] at h;obtain⟨x,_,rfl⟩:=h;simp only[Array.length_toList];show ((⟨s.toArray⟩:ByteArray).extract x.1 x.2).size<=s.length;rw[ByteArray.size_extract];have :(⟨s.toArray⟩:ByteArray).size=s.length:=by simp[DG]
 omega
def plen(s:Bs):Bool:=decide (s.length<=65536)&&(cuts 10 s).all λl=>decide (l.length<=65536) && decide ((flds l).length<=65536)&&(flds l).all λw=>decide (0<w.length) && decide (w.length<=19)
theorem plen_ok{s:Bs}(h:plen s=true):s.length<=65536/\∀ l∈cuts 10 s,l.length<=65536/\(flds l).length<=65536/\∀ w∈flds l,0<w.length/\w.length<=19:=by
 simp only[plen,A3,decide_eq_true_eq,CC] at h;exact⟨h.1,λl hl=>⟨(h.2 l hl).1.1,(h.2 l hl).1.2,(h.2 l hl).2⟩⟩
def dec(s:Bs):Nat:=match EE 64 s with| .ok n=>n|_=>0
def I0_(s:Bs):Bool:=s.all λc=>decide (48<=c.toNat) && decide (c.toNat<=57)
theorem pu_ok:∀ (s:Bs) (a k:Nat),a<10 ^ k->k+s.length<=19->I0_ s=true->∃ n,Lib.parseUintM 18446744073709551615 a s = .ok n/\n<10 ^ 19
 |[],a,k,ha,hk,_=>⟨a,rfl,Nat.lt_of_lt_of_le ha (CH qZ (by simpa using hk))⟩
 |c::r,a,k,ha,hk,hd=>by
   simp only[I0_,EN,A3,decide_eq_true_eq,A2] at hd hk
   have h18:10 ^ k<=10 ^ 18:=CH qZ qX
   have h19:a*10+(c.toNat-48)<10 ^ (k+1):=by rw[Nat.pow_succ];omega
   have e18:(10:Nat) ^ 18=1000000000000000000:=by decide
   unfold Lib.parseUintM
   rw[if_pos hd.1,if_neg qX,if_neg qX]
   exact pu_ok r _ (k+1) h19 qX hd.2
theorem dec_ok{s:Bs}(hl:s.length<=19)(h0:0<s.length)(hd:I0_ s=true):Lib.parseUintB 64 s = .ok (dec s)/\(dec s:Int)<=18446744073709551615:=by
 have⟨n,h,hn⟩:=pu_ok s 0 0 qZ pZ hd;have h:EE 64 s = .ok n:=by
   unfold EE
   rw[if_neg (by intro q;subst q;cases h0)]
   exact h
 have e19:(10:Nat) ^ 19=10000000000000000000:=by decide
 have e:dec s=n:=by unfold dec;rw[h]
 rw[e];exact⟨h,by omega⟩
theorem Mem.below{N:Rest}{H:Hp}{L:Ls}{w w':World}(hm:Mem N H L w)(hb:Below w.heap.size w w'):Mem N H L w':=
 hm.of_same hb.os hb.tape hb.output λc o ho=>by
   rw[hb.block c (by by_cases q:c<w.heap.size;exact q;rw[C4 qX] at ho;cases ho)]
   exact ho
theorem dig_step{s:Bs}{k:Nat}(h:I0_ (s.take k)=true)(hk:k<s.length)(hc:(decide (((s.getD k 0).toNat:Int)<48) || decide (57<((s.getD k 0).toNat:Int)))=false):I0_ (s.take (k+1))=true:=by
 have e:s.take (k+1)=s.take k++[s.getD k 0]:=by
   rw[List.take_add_one,AA hk,List.getD_eq_getElem?_getD,AA hk];rfl
 rw[e];simp only[AY,decide_eq_false_iff_not] at hc;simp only[I0_,List.all_append,A3,EN,List.all_nil,decide_eq_true_eq,Bool.and_true];exact⟨h,by omega,by omega⟩
theorem dig_all{s:Bs}{k:Nat}(h:I0_ (s.take k)=true)(hk:s.length<=k):I0_ s=true:=by
 rwa [AZ hk] at h
variable{P:Program}
open Go.MapKept
variable{n:Nat}{N:Rest}{ops:List Oper}{F:Fr}{H:Hp}{L:Ls}{K:Fr->Hp->Ls->Prop}{T ty d:Nat}{pos:String}{af:Array Edge}{x y z:Operand}{κ ν:Type}
end Go.SW
namespace Go.SW.V
open Go.SW
variable{P:Program}{n:Nat}{N:Rest}{H0:Env}{all rest:List Oper}{Q:Qs}{ks:List Kt}{fF:Nat->PV}{fL:Nat->Blk}{T ty d:Nat}{pos:String}{af:Array Edge}{x y z:Operand}{K:St->Prop}{κ ν:Type}
end Go.SW.V
namespace Go.SW
variable{P:Program}{n:Nat}{N:Rest}{H0:Env}{all rest:List Oper}{Q:Qs}{ks:List Kt}{s:St}{T T' T2 ty d:Nat}{pos:String}{af:Array Edge}{x y z:Operand}{K:St->Prop}{op:Op}{p:PV}
def boolc(b:Bool):List PV:=[.bool b]
structure Fx{α:Type}(P:Program)(G:Gb)(f:FuncId)(a0:PV)(args:List PV)(res:PV)(k e:Nat)(enc:α->List PV)(xs:List α):Prop where
 cb:A4_ P f
 no:res.noOsl=true
 run:∀ (N:Rest) (H:Hp) (L:Ls) (w:World) (i:Nat) (v0 u:Value) (vs:List Value),G.p H->SimB (λ_=> .no) H (.arr u k e enc xs) (L i)->Sims H (a0::args) (v0::vs)->Mem N H L w ->
   Calls P f (v0::u::vs).toArray w λe' w'=>∃ v H',e' = .returned v/\Sim H' res v/\HLe H H'/\Mem N H' (lupd L i none) w'
theorem fx_cw{α:Type}{tb:Tb}{G:Gb}{m:Nat}{f:FuncId}{fn:Func}{c:Code}{a0:PV}{args:List PV}{res:PV}{k e:Nat}{enc:α->List PV}{xs:List α}(ht:tbB P tb=true)(hf:P.funcs[f]? = some fn)(hb:fn.body=some c)(hn:fn.ntmps=m)(hs:Nat.ble (args.length+2) m=true)(hcb:A4_ P f)(hno:res.noOsl=true)(hna:Ds_ (a0::args)=true)
   (h:PV.wfs (a0::args)->xs.length<=140737488355328->∀ u N H,G.p H->Hd P m N ⟨H,G⟩ (rtK tb fn.results.toList res) (.code c) [] ⟨Qf_ (a0 :: .osl 0::args),lups (λ_=> .no) 0 (.arr u k e enc xs)⟩):Fx P G f a0 args res k e enc xs:=by
 refine⟨hcb,hno,λN H L w i v0 u vs hg hB hsim hm=>?_⟩;subst hn;have key:Pl P f (v0::u::vs).toArray H (L i) (λv H' _=>Sim H' res v):=by
   refine pl_of_cw hf hb (by have :=Nat.le_of_ble_eq_true hs;have :=hsim.1;simp at this ⊢;omega) λN=>?_
   have hlen:xs.length<=140737488355328:=by have⟨_,_,_,q⟩:=hB;exact q
   have h1:=h hsim.wf hlen u N H hg (L0_ (v0::u::vs).toArray) H (ofE (L i)) ⟨.refl H,hg,λt=>?_,λj=>?_⟩
   . refine Lb_ (λe' F' H' L' hq=>?_) h1
     have⟨s',ha',hq'⟩:=hq
     have⟨he,v,hr,hv⟩:=Rd_ (N:=N) ht ha' hq'
     rcases he with rfl|rfl
     . exact⟨v,hr,ha'.le,0,hv⟩
     . exact⟨v,hr,ha'.le,0,hv⟩
   . have hi:=Ns_ (sL:=lups (λ_=> .no) 0 (.arr u k e enc xs)) hsim hna
     match t with
     |0=>simpa [Qf_,nth,L0_] using hi 0
     |1=>simp[Qf_,nth,SimT,D5_,L0_]
     |t+2=>simpa [Qf_,nth,L0_] using hi (t+1)
   . by_cases e1:j=0
     . exact rB
     . simp only[Hp_ e1];trivial
 refine (key N L w i Y hm).mono λ_ _ ⟨v,H',en,h1,h5,h3,h4⟩=>⟨v,H',h1,h5,h3,?_⟩;have h6:=h4.clear i;have heq:lupd (lupd L i en) i none=lupd L i none:=funext λj=>by
   by_cases q:j=i
   . subst q;rw[C4_,C4_]
   . rw[Cx_ q,Cx_ q,Cx_ q]
 rwa [heq] at h6
theorem ecallx'{α:Type}{f:FuncId}{a0:PV}{args:List PV}{res:PV}{i k e k2 e2:Nat}{enc:α->List PV}{xs:List α}{u:Value}{as0:Array Operand}{ats:Array TypeId}(h:Fx P H0.g f a0 args res k e enc xs)(hx:evP s.F x = .fn f [] [])(ha:evPs s.F as0.toList=a0 :: .osl i::args)(hna:Ds_ (a0::args)=true)(hb:s.L i = .arr u k2 e2 enc xs)(hk:k2=k)(he2:e2=e)(hd:Nat.blt d n=true)
   (kk:res.wf->K ⟨updp (N2_ i s.F) d res,lups (Kt_ i s.L) i .no⟩):E1 P n N H0 all ⟨some d, .call ⟨.value x,as0,ats⟩,ty,pos,af,none⟩ (some i) s K:=by
 intro F H L hab;subst hk;subst he2;have h1:=(Dn_ hab.f x).sim;rw[hx] at h1;have⟨v1,v2,ex,h2,h3⟩:=h1.inv_fn
 cases h2.inv_nil
 cases h3.inv_nil
 have hsT:=Xf_ (Ls:=s.L) (H:=H) (F:=F) (G:=s.F) (xs:=as0.toList) λy _=>Dn_ hab.f y;rw[ha] at hsT;have hB:=hab.l i;rw[hb] at hB
 cases hev:evs F as0.toList with
 |nil=>have :=hsT.1;rw[hev] at this;simp at this
 |cons v0 vs1=>cases vs1 with
   |nil=>have :=hsT.1;rw[hev] at this;simp at this
   |cons v1 vs=>
   rw[hev] at hsT
   have h4:=hsT.2 1 _ _ Y Y
   simp only[SimT,hb] at h4
   subst h4
   have h5:Sims H (a0::args) (v0::vs):=by
     exact xL
   have hen:En P (.call ⟨.value x,as0,ats⟩) F f (v0::v1::vs).toArray:=by
     exact yO
   intro a w hA hm
   rw[if_pos pH]
   unfold BG
   rw[hA.eval,hen]
   refine (h.run N H L w i v0 v1 vs hab.g hB h5 hm).mono λe' w' ⟨v,H',he,hv,hl,hm'⟩=>?_
   subst he
   exact⟨_,H',_,hA.put pI v,hm',hl,only,_,Abs.put (p:=res) ((hab.mono hl).turn i (B:= .no) (x:=none) Z) d (hv.simT h.no),kk hv.wf⟩
end Go.SW
namespace Go.SW.V
open Go.SW
variable{P:Program}{n:Nat}{N:Rest}{H0:Env}{all rest:List Oper}{Q:Qs}{ks:List Kt}{fF:Nat->PV}{fL:Nat->Blk}{T T' T2 ty d:Nat}{pos:String}{af:Array Edge}{x y z:Operand}{K:St->Prop}{op:Op}{p:PV}
theorem ecallx{α:Type}{f:FuncId}{a0:PV}{args:List PV}{res:PV}{i k e k2 e2:Nat}{enc:α->List PV}{xs:List α}{u:Value}{as0:Array Operand}{ats:Array TypeId}(h:Fx P H0.g f a0 args res k e enc xs)(hx:evP fF x = .fn f [] [])(ha:evPs fF as0.toList=a0 :: .osl i::args)(hna:Ds_ (a0::args)=true)(hb:fL i = .arr u k2 e2 enc xs)(hk:k2=k)(he2:e2=e)(hd:Nat.blt d n=true)
   (kk:res.wf->K ⟨updp (N2_ i fF) d res,lups (Kt_ i fL) i .no⟩):E1 P n N H0 all ⟨some d, .call ⟨.value x,as0,ats⟩,ty,pos,af,none⟩ (some i) ⟨fF,fL⟩ K:=by
 intro F H L hab;subst hk;subst he2;have h1:=(Dn_ hab.f x).sim;rw[hx] at h1;have⟨v1,v2,ex,h2,h3⟩:=h1.inv_fn
 cases h2.inv_nil
 cases h3.inv_nil
 have hsT:=Xf_ (Ls:=fL) (H:=H) (F:=F) (G:=fF) (xs:=as0.toList) λy _=>Dn_ hab.f y;rw[ha] at hsT;have hB:=hab.l i;dsimp only at hB;rw[hb] at hB
 cases hev:evs F as0.toList with
 |nil=>have :=hsT.1;rw[hev] at this;simp at this
 |cons v0 vs1=>cases vs1 with
   |nil=>have :=hsT.1;rw[hev] at this;simp at this
   |cons v1 vs=>
   rw[hev] at hsT
   have h4:=hsT.2 1 _ _ Y Y
   simp only[SimT,hb] at h4
   subst h4
   have h5:Sims H (a0::args) (v0::vs):=by
     exact xL
   have hen:En P (.call ⟨.value x,as0,ats⟩) F f (v0::v1::vs).toArray:=by
     exact yO
   intro a w hA hm
   rw[if_pos pH]
   unfold BG
   rw[hA.eval,hen]
   refine (h.run N H L w i v0 v1 vs hab.g hB h5 hm).mono λe' w' ⟨v,H',he,hv,hl,hm'⟩=>?_
   subst he
   exact⟨_,H',_,hA.put pI v,hm',hl,only,_,Abs.put (p:=res) ((hab.mono hl).turn i (B:= .no) (x:=none) Z) d (hv.simT h.no),kk hv.wf⟩
end Go.SW.V
namespace Go.SW
variable{P:Program}{n:Nat}{N:Rest}{H0:Env}
end Go.SW
namespace Go.SW.V
open Go.SW
variable{P:Program}{n:Nat}{N:Rest}{H0:Env}{fF:Nat->PV}{fL:Nat->Blk}
end Go.SW.V
namespace Go.SW
variable{P:Program}
def EqI(P:Program)(d:Nat)(e:TypeId)(k:Nat)(xs ys:List Value)(is:List Nat)(r:Bool):Prop:=∀ w,(FT d e k xs.toArray ys.toArray is).run P w = .ok r w
theorem eqv_arr{d n k:Nat}{t e:TypeId}{xs ys:List Value}{r:Bool}(is:List Nat)(hu:P.underlying t=some (.array n e)){de:TypeDesc}(he:P.underlying e=some de)(hk:P.cellsOf e=k)(hr:List.range n=is)(h:EqI P d e k xs ys is r):EqV P (d+1) t (.agg xs.toArray) (.agg ys.toArray) r:=λw=>by
 have⟨i,hi⟩:=info_of_underlying he
 rw[run_equalIn_array w d xs.toArray ys.toArray hu hi,hk,hr]
 exact h w
theorem eqi_nil{d k:Nat}{e:TypeId}{xs ys:List Value}:EqI P d e k xs ys [] true:=λw=>by simp[FT]
theorem eqi_step{d k i:Nat}{e:TypeId}{xs ys:List Value}{is:List Nat}{a b:Value}{r r':Bool}(ha:∀ w,(part e xs.toArray (i*k)).run P w = .ok a w)(hb:∀ w,(part e ys.toArray (i*k)).run P w = .ok b w)(h:EqV P d e a b r)(kk:EqI P d e k xs ys is r'):EqI P d e k xs ys (i::is) (r&&r'):=λw=>by
 simp only[FT,Sem.run_bind,ha w,Result.andThen_ok,hb w,h w]
 cases r
 . simp
 . simpa using kk w
theorem Sn_{d k i:Nat}{e:TypeId}{xs ys:List Value}{is:List Nat}{a b:Value}{r r':Bool}(hg:Ag P e false)(hx:xs[i*k]? = some a)(hy:ys[i*k]? = some b)(h:EqV P d e a b r)(kk:EqI P d e k xs ys is r'):EqI P d e k xs ys (i::is) (r&&r'):=eqi_step (part_1 hg hx) (part_1 hg hy) h kk
theorem eqi_A{d k i:Nat}{e:TypeId}{xs ys vs us:List Value}{is:List Nat}{r r':Bool}(hg:Ag P e true)(hk:Sz P e k)(hx:sub xs (i*k) k=vs)(hy:sub ys (i*k) k=us)(h:EqV P d e (.agg vs.toArray) (.agg us.toArray) r)(kk:EqI P d e k xs ys is r'):EqI P d e k xs ys (i::is) (r&&r'):=eqi_step (part_A hg hk hx) (part_A hg hk hy) h kk
variable{n:Nat}{N:Rest}{H0:Env}
end Go.SW
namespace Go.SW.V
open Go.SW
variable{P:Program}{n:Nat}{N:Rest}{H0:Env}{fF:Nat->PV}{fL:Nat->Blk}
theorem callgF{all rest:List Oper}{Q:Qs}{ks:List Kt}{f:FuncId}{args:List PV}{res:PV}{x:Operand}{xs:Array Operand}{ats:Array TypeId}{ty d j:Nat}{want g:Bool}{pos:String}{af:Array Edge}(hg:gOp ⟨fF,fL⟩ all j want=some g)(h:g=true->Fn P H0.g f args res)(ha:argsP (strG (P5_ (x::xs.toList)) fF) x xs.toList=some (f,args))(hc:AllP (Vc_ fF g (P5_ (x::xs.toList)) []))(hno:Qa_ fF (P5_ (x::xs.toList))=true)(hd:Nat.blt d n=true)
   (k:(g=true->res.wf)->Hd P n N H0 Q (.ops all rest) ks ⟨updp fF d (.gv g res),fL⟩):Hd P n N H0 Q (.ops all (⟨some d, .call ⟨.value x,xs,ats⟩,ty,pos,af,some (j,want)⟩::rest)) ks ⟨fF,fL⟩:=by
 intro F H L hab;have⟨c,b,hy,hge⟩:=T1_ hab hg;exact ow_gd hy hd (λe=>xB) λe=>xA
end Go.SW.V
namespace Go.SW
end Go.SW
namespace Go.SW.V
open Go.SW
def Hl_(l:List Bs)(s:Bs):(List Bs):=
 (bif decide (s∈l) then
 l
 else (l++[s]))
def B5_(b:Ai_)(x:X_):Ai_×Int:=
 (bif !decide ((Kh_ x)=0) then
 (b,Kh_ x)
 else (bif (((D7_ b.Ae_ x.name).isSome)&&(decide (x=((D7_ b.Ae_ x.name).getD X_.zero)))) then
 (b,0)
 else (bif (D7_ b.Ae_ x.name).isSome then
 (b,9)
 else (bif decide (8<=(b.Ae_.length:Int)) then
 (b,12)
 else ((⟨[b.Ae_,[x]].flatten,b.binds⟩:Ai_),0)))))
def Am_(b:Ai_)(x:R_):Int:=
 (idxP (λz_4:R_=>decide (x=z_4)) b.binds)
theorem put_len(l:List Bs)(s:Bs):(Hl_ l s).length<=l.length+1:=by
 unfold Hl_
 cases decide (s∈l)<;>simp
theorem there_r(b:Ai_)(x:R_):-1<=Am_ b x/\Am_ b x<b.binds.length:=Jj_ _ _
def Bh_(b:Ai_)(x:R_):Ai_×Int:=
 (bif !((D7_ b.Ae_ x.Al_).isSome) then
 (b,10)
 else (bif decide ((((D7_ b.Ae_ x.Al_).getD X_.zero).sort)=4) then
 (b,8)
 else (bif !decide ((C6_ x.to')=0) then
 (b,C6_ x.to')
 else (bif !decide ((Qk_ (Hd_ x (((D7_ b.Ae_ x.Al_).getD X_.zero).sort)))=0) then
 (b,Qk_ (Hd_ x (((D7_ b.Ae_ x.Al_).getD X_.zero).sort)))
 else lt (Am_ b x) λr=>
 (bif decide (0<=r) then
 (b,0)
 else (bif decide (32<=(b.binds.length:Int)) then
 (b,12)
 else ((⟨b.Ae_,[b.binds,[x]].flatten⟩:Ai_),0)))))))
def B4_(b:Ai_)(Al_:Bs)(key:Bs)(h:List Pair):List R_->List Bs->List Bs->(List Bs)×(List Bs)×Int
 |[],queues,places=>(queues,places,0)
 | x::t,queues,places=>(lt1 ((bif !decide ((x.Al_)=Al_) then
 (!decide ((x.Al_)=Al_))
 else (!(Qr_ (Hd_ x (((D7_ b.Ae_ Al_).getD X_.zero).sort)) key h)))) (λv=>
 (bif v then
 B4_ b Al_ key h t queues places
 else (bif x.up then
 lt (Hl_ places (x.to')) λr=>
 B4_ b Al_ key h t queues r
 else lt (Hl_ queues (x.to')) λr1=>
 B4_ b Al_ key h t r1 places))))
def By_(b:Ai_)(Al_:Bs)(key:Bs)(h:List Pair):(List Bs)×(List Bs)×Int:=
 (bif !((D7_ b.Ae_ Al_).isSome) then
 ([],[],10)
 else (bif decide ((((D7_ b.Ae_ Al_).getD X_.zero).sort)=4) then
 ([],[((D7_ b.Ae_ Al_).getD X_.zero).to'],0)
 else B4_ b Al_ key h b.binds [] []))
def Gu_(l:List T_):List T_->Bool
 |[]=>(decide ((l.length:Int)<=40))
 | x::t=>(bif !(Ud_ x) then
 false
 else Gu_ l t)
def Ou_(l:List T_):Bool:=
 Gu_ l l
def D3_(n:Int)(least:Int)(most:Int):Bool:=
 ((decide (least<=n))&&(decide (n<=most)))
def Gn_(a:Dc_)(b:Dc_):Bool:=
 ((decide (a.level<=b.level))&&(decide ((A0 .u32 ((AC (AO .u32) a.Td_ &&& ~~~ AC (AO .u32) b.Td_).toNat))=0)))
def B2_(p:H_)(i:Int):Bool:=
 (D3_ i 0 ((p.places.length:Int)-1))
def N0_(x:Bn_)(x1:Bs):Bool:=
 (decide (x.name=x1))
def Ks_(x:Cc_)(x1:Int)(x2:Int):Bool:=
 ((decide (x.frm=x1))&&(decide (x.to'=x2)))
def Lh_(n:Bu_):Int:=
 n.total
def Gh_(p:H_)(tick:Int):Int:=
 (tick/(p.slots.length:Int))
def K_(m:Mail):Mail:=
 m
def Ca_(m:Mail):Int:=
 ((Br_ m).length:Int)
def Cm_(x:F_):F_:=
 lt (K_ x.P_) λr=>
 (⟨r,x.Nr_,x.again⟩:F_)
def Ug_(x0:Mail):Bool:=
 true
def Pn_(x:F_)(x1:Int):Bool:=
 (decide (x.P_.id=x1))
def Ej_(l:Ar_):Int:=
 (l.items.length:Int)
def Rs_(m:Mail)(x1:Int):Bool:=
 ((!decide (m.due=0))&&(decide (m.due<=x1)))
def Hv_(x:F_):Bool:=
 ((!x.Nr_)&&(Ug_ x.P_))
def Ge_(x:F_)(x1:Int):Bool:=
 ((!x.Nr_)&&(Rs_ x.P_ x1))
theorem Zm_(m:Mail):0<=Ca_ m/\Ca_ m<=3000:=by
 have :=F0_ m;simp only[Ca_];omega
def Bs_(p:H_)(from_:Int)(to_:Int):Bool:=
 ((((!decide (from_=to_))&&(B2_ p from_))&&(B2_ p to_))&&(Gn_ ((gt p.places ((from_).toNat)).label) ((gt p.places ((to_).toNat)).label)))
def J_(p:H_)(name:Bs):Int:=
 (idxP (λz_4:Bn_=>(N0_ z_4 name)) p.places)
def S_(p:H_)(from_:Int)(to_:Int):Int:=
 (idxP (λz_5:Cc_=>(Ks_ z_5 from_ to_)) p.grants)
def Cn_(n:Bu_)(x:D2_):Bu_×Int:=
 (bif decide (64<(x.text.length:Int)) then
 (n,5)
 else (bif decide (n.total=18446744073709551615) then
 (n,18)
 else ((⟨(A0 .u64 (n.total+1)),(([n.kept,[x]].flatten).drop ((max 0 ((([n.kept,[x]].flatten).length:Int)-32))).toNat)⟩:Bu_),0)))
def Kq_(n:Bu_)(number:Int):D2_×Bool:=
 (bif ((decide (number<=(A0 .u64 (n.total-(n.kept.length:Int)))))||(decide (n.total<number))) then
 ((⟨0,0,[]⟩:D2_),false)
 else ((gt n.kept (((A0 .u64 ((A0 .u64 (number-(A0 .u64 (n.total-(n.kept.length:Int)))))-1))).toNat)),true))
def Bc_(l:Ar_)(id:Int):Int:=
 (idxP (λz_4:F_=>(Pn_ z_4 id)) l.items)
def Eo_(l:Ar_)(m:Mail):Int:=
 (bif !decide ((D6_ m)=0) then
 (D6_ m)
 else (bif ((decide (0<(l.items.length:Int)))&&(decide (m.id<=((gt l.items ((((l.items.length:Int)-1)).toNat)).P_.id)))) then
 13
 else (bif decide (64<=(l.items.length:Int)) then
 12
 else 0)))
def B0_(l:Ar_):Int:=
 (idxP (λz_4:F_=>(Hv_ z_4)) l.items)
def E3_(l:Ar_)(so:Int):Int:=
 (idxP (λz_4:F_=>(Ge_ z_4 so)) l.items)
theorem S4_{α:Type}[Inhabited α]{p:α->Bool}{l:List α}(h:0<=idxP p l):p (gt l (idxP p l).toNat)=true:=by
 have hb:=Jj_ p l;exact (idxP_get qX (getG (xs:=l) (k:=(idxP p l).toNat) qX)).1
theorem find_b(p:H_)(n:Bs):-1<=J_ p n/\J_ p n<p.places.length:=Jj_ _ _
theorem grant_b(p:H_)(a b:Int):-1<=S_ p a b/\S_ p a b<p.grants.length:=Jj_ _ _
theorem grant_to{p:H_}{a b:Int}(h:0<=S_ p a b):(gt p.grants (S_ p a b).toNat).frm=a/\(gt p.grants (S_ p a b).toNat).to'=b:=by
 have :=S4_ h;simp only[Ks_,A3] at this;exact⟨of_decide_eq_true this.1,of_decide_eq_true this.2⟩
theorem lof_b(l:Ar_)(id:Int):-1<=Bc_ l id/\Bc_ l id<l.items.length:=Jj_ _ _
theorem lof_at{l:Ar_}{id:Int}(h:0<=Bc_ l id):(gt l.items (Bc_ l id).toNat).P_.id=id:=by
 have :=S4_ h;exact of_decide_eq_true this
theorem Wx_(l:Ar_):-1<=B0_ l/\B0_ l<l.items.length:=Jj_ _ _
theorem llate_b(l:Ar_)(t:Int):-1<=E3_ l t/\E3_ l t<l.items.length:=Jj_ _ _
theorem lcheck_ok{l:Ar_}{m:Mail}(h:Eo_ l m=0):D6_ m=0/\l.items.length<64/\(l.items.length=0\/(gt l.items ((l.items.length:Int)-1).toNat).P_.id<m.id):=by
 unfold Eo_ at h
 cases e1:decide (D6_ m=0) with
 |false=>rw[e1] at h;simp at h;simp[h] at e1
 |true=>
   rw[e1] at h
   simp only[A5,cond_false] at h
   cases e2:((decide (0<(l.items.length:Int)))&&(decide (m.id<=((gt l.items ((((l.items.length:Int)-1)).toNat)).P_.id)))) with
   |true=>rw[e2] at h;cases h
   |false=>
     rw[e2] at h
     cases e3:decide (64<=(l.items.length:Int)) with
     |true=>rw[e3] at h;cases h
     |false=>
       simp only[Bool.and_eq_false_iff,decide_eq_false_iff_not] at e2
       simp at e3 e1
       exact⟨e1,by omega,by omega⟩
theorem mlOk_of{m:Mail}(h:D6_ m=0)(h0:0<=m.hops):MlOk m:=by
 have⟨_,h2,h3,_,h5⟩:=Ix_ h;exact⟨(Mm_ h3).1,h0,h5,h2⟩
theorem nadd_len{n:Bu_}{x:D2_}(h:n.kept.length<=32):(Cn_ n x).1.kept.length<=32:=by
 unfold Cn_
 cases decide (64<(x.text.length:Int)) with
 |true=>exact h
 |false=>
   cases decide (n.total=18446744073709551615) with
   |true=>exact h
   |false=>simp;omega
theorem gt_set{α:Type}[Inhabited α]{xs:List α}{k:Nat}{y:α}(h:k<xs.length):gt (xs.set k y) k=y:=by
 simp[gt,h]
theorem grant_in{p:H_}(h:PoOk p)(a b:Int):0<=S_ p a b->0<=b/\b<p.places.length/\0<=(gt p.grants (S_ p a b).toNat).budget/\(gt p.grants (S_ p a b).toNat).budget<=16:=λh0=>by
 have hb:=grant_b p a b
 have ht:=grant_to h0
 have hg:=h.2.2.2.2.2.1 _ (A1 (getG (xs:=p.grants) (k:=(S_ p a b).toNat) qX))
 omega
def Dq_(l:Ar_)(x:F_):Ar_×Int:=
 lt (Eo_ l x.P_) λr=>
 (bif !decide (r=0) then
 (l,r)
 else lt (Cm_ x) λr1=>
 ((⟨[l.items,[r1]].flatten⟩:Ar_),0))
def Ax_(l:Ar_)(m:Mail):Ar_×Int:=
 lt (Dq_ l (⟨m,false,false⟩:F_)) λr=>
 (r.1,r.2)
def Ap_(l:Ar_)(id:Int):Ar_×F_×Int:=
 lt (Bc_ l id) λr=>
 (bif decide (r<0) then
 (l,aV,10)
 else lt (Cm_ (gt l.items ((r).toNat))) λr1=>
 ((⟨[(l.items.take (r).toNat),(l.items.drop ((r+1)).toNat)].flatten⟩:Ar_),r1,0))
def C8_(l:Ar_)(k:Int):Mail×Bool:=
 (bif decide (k<0) then
 (aK,false)
 else lt (K_ ((gt l.items ((k).toNat)).P_)) λr=>
 (r,true))
def Cq_:List F_->Int->Int
 |[],n=>n
 |x::t,n=>lt (Ca_ (x.P_)) λr=>
 Cq_ t (n+r)
def E2_(l:Ar_):Int:=
 Cq_ l.items 0
def Di_(l:Ar_):Ar_×F_×Bool:=
 lt (B0_ l) λr=>
 (bif decide (r<0) then
 (l,aV,false)
 else lt (Cm_ (gt (l.items.set ((r).toNat) (⟨(gt l.items ((r).toNat)).P_,true,(gt l.items ((r).toNat)).again⟩:F_)) ((r).toNat))) λr1=>
 ((⟨(l.items.set ((r).toNat) (⟨(gt l.items ((r).toNat)).P_,true,(gt l.items ((r).toNat)).again⟩:F_))⟩:Ar_),r1,true))
def Ea_(l:Ar_)(id:Int):Ar_×Int:=
 lt (Bc_ l id) λr=>
 (bif decide (r<0) then
 (l,10)
 else (bif !((gt l.items ((r).toNat)).Nr_) then
 (l,13)
 else ((⟨((l.items.set ((r).toNat) (⟨(gt l.items ((r).toNat)).P_,false,(gt l.items ((r).toNat)).again⟩:F_)).set ((r).toNat) (⟨(gt (l.items.set ((r).toNat) (⟨(gt l.items ((r).toNat)).P_,false,(gt l.items ((r).toNat)).again⟩:F_)) ((r).toNat)).P_,(gt (l.items.set ((r).toNat) (⟨(gt l.items ((r).toNat)).P_,false,(gt l.items ((r).toNat)).again⟩:F_)) ((r).toNat)).Nr_,true⟩:F_))⟩:Ar_),0)))
def Ch_:List F_->Nat->Ar_->Ar_
 |[],k,x=>x
 | x1::t,k,x=>(bif x1.Nr_ then
 Ch_ t (k+1) (⟨((x.items.set k (⟨(gt x.items k).P_,false,(gt x.items k).again⟩:F_)).set k (⟨(gt (x.items.set k (⟨(gt x.items k).P_,false,(gt x.items k).again⟩:F_)) k).P_,(gt (x.items.set k (⟨(gt x.items k).P_,false,(gt x.items k).again⟩:F_)) k).Nr_,true⟩:F_))⟩:Ar_)
 else Ch_ t (k+1) x)
def Ec_(l:Ar_):Ar_:=
 Ch_ l.items 0 l
def Au_(l:Ar_):Mail×Bool:=
 lt (C8_ l (B0_ l)) λr=>
 (r.1,r.2)
def Eb_(l:Ar_)(tick:Int):Mail×Bool:=
 lt (C8_ l (E3_ l tick)) λr=>
 (r.1,r.2)
def Es_:List F_->List F_->(List F_)
 |[],out=>out
 |x::t,out=>lt (Cm_ x) λr=>
 Es_ t (out++[r])
def E4_(l:Ar_):(List F_):=
 Es_ l.items []
def Bw_(x:Az_)(m:Mail):Az_×Int:=
 (bif !decide ((D6_ m)=0) then
 (x,D6_ m)
 else (bif decide (x.total=18446744073709551615) then
 (x,18)
 else lt (K_ m) λr=>
 ((⟨(A0 .u64 (x.total+1)),(([x.kept,[r]].flatten).drop ((max 0 ((([x.kept,[r]].flatten).length:Int)-16))).toNat)⟩:Az_),0)))
def K3_(x:Az_)(number:Int):Int×Mail×Bool:=
 (bif decide (x.total<=number) then
 (0,aK,false)
 else lt (K_ (gt x.kept (((A0 .u64 ((max (A0 .u64 ((A0 .u64 (x.total-(x.kept.length:Int)))+1)) (A0 .u64 (number+1)))-(A0 .u64 ((A0 .u64 (x.total-(x.kept.length:Int)))+1))))).toNat))) λr=>
 ((max (A0 .u64 ((A0 .u64 (x.total-(x.kept.length:Int)))+1)) (A0 .u64 (number+1))),r,true))
def K4_(x:Az_):Int:=
 x.total
def Dw_:List Mail->Int->Int
 |[],n=>n
 |x1::t,n=>lt (Ca_ x1) λr=>
 Dw_ t (n+r)
def Cl_(x:Az_):Int:=
 Dw_ x.kept 0
def Cf_(base:Int)(bytes:Int):G_:=
 (⟨base,(max 0 bytes),[],(⟨aM,aM,aM,aM,aM,aM,aM,aM,aM,aM,aM,aM,aM,aM,aM,aM⟩:A16_RiseR)⟩:G_)
def Bm_(q:Aa_):Int:=
 (bif !decide ((C6_ q.name)=0) then
 (C6_ q.name)
 else (bif ((decide (q.most<1))||(decide (64<q.most))) then
 7
 else (bif !decide (q.dead=[]) then
 (C6_ q.dead)
 else 0)))
def Rf_(x:Fe_)(x1:Bs):Bool:=
 (decide (x.q.name=x1))
def I_(s:G_)(name:Bs):Int:=
 (idxP (λz_4:Fe_=>(Rf_ z_4 name)) s.rows)
theorem bt{α:Type}{b:Bool}{x y:α}{P:α->Prop}(h1:b=true->P x)(h2:b=false->P y):P (bif b then x else y):=by
 cases b
 exact h2 Y;exact h1 Y
theorem U0_{l:List F_}(h:P7_ l){i j:Nat}{x y:F_}(hi:l[i]? = some x)(hj:l[j]? = some y)(hij:i<j):x.P_.id<y.P_.id:=by
 have h1:=List.pairwise_iff_getElem.1 h i j;obtain⟨a,rfl⟩:=List.getElem?_eq_some_iff.1 hi;obtain⟨b,rfl⟩:=List.getElem?_eq_some_iff.1 hj;have h2:=h1 (by simpa using a) (by simpa using b) hij;rw[CW,CW] at h2;exact h2
theorem rising_app{l:List F_}{x:F_}(h:P7_ l)(hx:∀ y,l[l.length-1]? = some y->y.P_.id<x.P_.id):P7_ (l++[x]):=by
 unfold P7_;rw[C3,List.pairwise_append];refine⟨h,by simp,λa ha b hb=>?_⟩;obtain⟨y,hy,rfl⟩:=List.mem_map.1 ha;simp at hb;subst hb;have⟨i,hi⟩:=List.getElem?_of_mem hy;have hil:=(List.getElem?_eq_some_iff.1 hi).1;have hl:=AA (l:=l) (i:=l.length-1) qX;have h1:=hx _ hl;by_cases e:i=l.length-1
 . subst e;rw[hl] at hi;cases hi;exact h1
 exact Int.lt_trans (U0_ h hi hl qX) h1
theorem lput_ok{l:Ar_}{x:F_}(h:LnOk l)(h0:0<=x.P_.hops):LnOk (Dq_ l x).1:=by
 unfold Dq_ lt;refine bt (P:=λr:Ar_×Int=>LnOk r.1) (λ_=>h) λe=>?_;simp only[EV,AT,decide_eq_true_eq] at e;have⟨h1,h2,h3⟩:=lcheck_ok e;refine⟨by simp;omega,λy hy=>?_,?_⟩
 . simp[Cm_,lt,K_] at hy
   rcases hy with hy|rfl
   exact h.2.1 y hy
   exact mlOk_of h1 h0
 . show P7_ ([l.items,[Cm_ x]].flatten)
   simp only[AQ,B7,AS]
   refine rising_app h.2.2 λy hy=>?_
   have hl:=(List.getElem?_eq_some_iff.1 hy).1
   rcases h3 with q|q
   omega
   . have :((l.items.length:Int)-1).toNat=l.items.length-1:=by omega
     rw[this] at q
     rw[getG (xs:=l.items) (k:=l.items.length-1) qX] at hy
     cases hy
     exact q
theorem ladd_ok{l:Ar_}{m:Mail}(h:LnOk l)(h0:0<=m.hops):LnOk (Ax_ l m).1:=lput_ok (x:=⟨m,false,false⟩) h h0
theorem Il_:MlOk ⟨0,[],[],[],[],0,0⟩:=⟨by simp,by simp,by simp,by simp⟩
theorem Gw_{α:Type}[Inhabited α]{xs:List α}{k:Nat}(h:k<xs.length):gt xs k∈xs:=A1 (getG h)
theorem Vd_{α:Type}(l:List α)(k:Nat):([l.take k,l.drop (k+1)].flatten).Sublist l:=by
 simp only[AQ,B7,AS];have h:l=l.take k++l.drop k:=(AL k l).symm
 conv=>rhs;rw[h]
 refine List.Sublist.append (List.Sublist.refl _) ?_;rw[<- List.drop_drop];exact List.drop_sublist 1 _
theorem Ru_{l:Ar_}{id:Int}(h:LnOk l):LnOk (Ap_ l id).1/\MlOk (Ap_ l id).2.1.P_:=by
 unfold Ap_ lt;refine bt (P:=λr:Ar_×F_×Int=>LnOk r.1/\MlOk r.2.1.P_) (λ_=>⟨h,Il_⟩) λe=>?_;simp only[decide_eq_false_iff_not] at e;have hb:=lof_b l id;refine⟨h.sub ?_,?_⟩;have :(Bc_ l id+1).toNat=(Bc_ l id).toNat+1:=by omega
 rw[this];exact Vd_ _ _;exact h.2.1 _ (Gw_ qX)
theorem Yl_{l:Ar_}{k:Nat}{y:F_}(h:LnOk l)(hk:k<l.items.length)(he:y.P_=(gt l.items k).P_):LnOk ⟨l.items.set k y⟩:=by
 have hm:=h.2.1 _ (Gw_ hk);refine⟨by simpa using h.1,λx hx=>?_,?_⟩
 . rcases BL hx with q|q
   exact h.2.1 x q
   subst q;rw[he];exact hm
 show P7_ (l.items.set k y);unfold P7_;rw[Ny_ (λx:F_=>x.P_.id) l.items k _ y (getG hk) (by rw[he])];exact h.2.2
theorem llend_ok{l:Ar_}(h:LnOk l):LnOk (Di_ l).1/\MlOk (Di_ l).2.1.P_:=by
 unfold Di_ lt;refine bt (P:=λr:Ar_×F_×Bool=>LnOk r.1/\MlOk r.2.1.P_) (λ_=>⟨h,Il_⟩) λe=>?_;simp only[decide_eq_false_iff_not] at e;have hb:=Wx_ l;have hm:=h.2.1 _ (Gw_ (xs:=l.items) (k:=(B0_ l).toNat) qX);refine⟨Yl_ h qX Y,?_⟩;simp only[Cm_,lt,K_];rw[gt_set qX];exact hm
theorem lback_ok{l:Ar_}{id:Int}(h:LnOk l):LnOk (Ea_ l id).1:=by
 unfold Ea_ lt;refine bt (P:=λr:Ar_×Int=>LnOk r.1) (λ_=>h) λe=>bt (P:=λr:Ar_×Int=>LnOk r.1) (λ_=>h) λ_=>?_;simp only[decide_eq_false_iff_not] at e;have hb:=lof_b l id;exact zG
theorem Yo_:∀ (t:List F_) (k:Nat) (l:Ar_),LnOk l->k+t.length<=l.items.length->LnOk (Ch_ t k l)
 |[],_,_,h,_=>h
 |x::t,k,l,h,hk=>by
   simp only[A2] at hk
   unfold Ch_
   refine bt (P:=LnOk) (λ_=>Yo_ t (k+1) _ ?_ pL) (λ_=>Yo_ t (k+1) l h qX)
   exact zG
theorem lwake_ok{l:Ar_}(h:LnOk l):LnOk (Ec_ l):=Yo_ l.items 0 l h qX
theorem ltold_ok{l:Ar_}{k:Int}(h:LnOk l)(hk:k<l.items.length):MlOk (C8_ l k).1:=by
 unfold C8_ lt;refine bt (P:=λr:Mail×Bool=>MlOk r.1) (λ_=>Il_) λe=>?_;simp only[decide_eq_false_iff_not] at e;exact h.2.1 _ (Gw_ qX)
theorem llate_ok{l:Ar_}{t:Int}(h:LnOk l):MlOk (Eb_ l t).1:=ltold_ok h (llate_b l t).2
theorem lsize_r0:∀ (t:List F_) (n:Int),n<=Cq_ t n/\Cq_ t n<=n+3000*t.length
 |[],n=>⟨Int.le_refl _,by simp[Cq_]⟩
 |x::t,n=>by
   have h:=Zm_ x.P_
   have hi:=lsize_r0 t (n+Ca_ x.P_)
   simp only[Cq_,lt,A2]
   omega
theorem lsize_r(l:Ar_):0<=E2_ l/\E2_ l<=3000*l.items.length:=by
 have :=lsize_r0 l.items 0;simp only[E2_];omega
theorem rsize_r0:∀ (t:List Mail) (n:Int),n<=Dw_ t n/\Dw_ t n<=n+3000*t.length
 |[],n=>⟨Int.le_refl _,by simp[Dw_]⟩
 |x::t,n=>by
   have h:=Zm_ x
   have hi:=rsize_r0 t (n+Ca_ x)
   simp only[Dw_,lt,A2]
   omega
theorem rsize_r(x:Az_):0<=Cl_ x/\Cl_ x<=3000*x.kept.length:=by
 have :=rsize_r0 x.kept 0;simp only[Cl_];omega
theorem rput_ok{x:Az_}{m:Mail}(h:RiOk x):RiOk (Bw_ x m).1:=by
 unfold Bw_ lt;refine bt (P:=λr:Az_×Int=>RiOk r.1) (λ_=>h) λe=>bt (P:=λr:Az_×Int=>RiOk r.1) (λ_=>h) λ_=>?_;simp only[EV,AT,decide_eq_true_eq] at e;have hm:=(Mm_ (Ix_ e).2.2.1).1;refine⟨by simp;omega,λy hy=>?_⟩;have hy:=AP hy;simp[K_] at hy
 rcases hy with hy|rfl
 exact h.2 y hy;exact hm
theorem at_b(s:G_)(n:Bs):-1<=I_ s n/\I_ s n<s.rows.length:=Jj_ _ _
theorem at_n{s:G_}{n:Bs}(h:0<=I_ s n):(gt s.rows (I_ s n).toNat).q.name=n:=by
 have :=S4_ h;exact of_decide_eq_true this
def As_(s:G_)(q:Aa_):G_×Int:=
 lt (Bm_ q) λr=>
 (bif !decide (r=0) then
 (s,r)
 else lt (I_ s q.name) λr1=>
 (bif ((decide (0<=r1))&&(decide ((gt s.rows ((r1).toNat)).q=q))) then
 (s,0)
 else (bif decide (0<=r1) then
 (s,9)
 else (bif decide (8<=(s.rows.length:Int)) then
 (s,12)
 else ((⟨s.next,s.bytes,[s.rows,[(⟨q,bD⟩:Fe_)]].flatten,s.rises⟩:G_),0)))))
def Bg_(s:G_)(name:Bs):G_×Int:=
 lt (I_ s name) λr=>
 (bif decide (r<0) then
 (s,10)
 else ((⟨s.next,s.bytes,[(s.rows.take (r).toNat),(s.rows.drop ((r+1)).toNat)].flatten,s.rises⟩:G_),0))
def Aj_(s:G_)(name:Bs):Aa_×Bool:=
 lt (I_ s name) λr=>
 (bif decide (r<0) then
 (aO,false)
 else ((gt s.rows ((r).toNat)).q,true))
def D1_:List Fe_->List Aa_->(List Aa_)
 |[],out=>out
 |x::t,out=>D1_ t (out++[x.q])
def Bk_(s:G_):(List Aa_):=
 D1_ s.rows []
def W_(s:G_)(k:Int)(l:Ar_):G_:=
 (⟨s.next,s.bytes,(s.rows.set ((k).toNat) (⟨(gt s.rows ((k).toNat)).q,l⟩:Fe_)),s.rises⟩:G_)
def Ct_(s:G_):Nat->Int->Nat->Int
 |0,_,_=>default
 | f2+1,n1,v=>(bif decide ((v:Int)<16) then
 lt (Cl_ (A16.get s.rises v)) λr1=>
 Ct_ s f2 (n1+r1) (v+1)
 else n1)
def B6_(s:G_):List Fe_->Int->Int
 |[],n=>Ct_ s (16-0+1) n 0
 |x::t,n=>lt (E2_ (x.l)) λr=>
 B6_ s t (n+r)
def A7_(s:G_):Int:=
 B6_ s s.rows 0
def Mi_(s:G_):Int:=
 s.next
theorem ksize1{s:G_}(h:∀ i,i<16->RiOk (s.rises.get i)):∀ (f:Nat) (n:Int) (v:Nat),16<f+v->v<=16->n<=Ct_ s f n v/\Ct_ s f n v<=n+48000*(16-v)
 |0,n,v,h1,h2=>by omega
 |f+1,n,v,h1,h2=>by
   unfold Ct_ lt
   refine bt (P:=λr:Int=>n<=r/\r<=n+48000*(16-(v:Int))) (λe=>?_) λe=>⟨Int.le_refl _,by omega⟩
   simp only[decide_eq_true_eq] at e
   have hr:=rsize_r (s.rises.get v)
   have hk:=(h v qX).1
   have hi:=ksize1 h f (n+Cl_ (s.rises.get v)) (v+1) qX qX
   dsimp only
   omega
theorem ksize0{s:G_}(h:∀ i,i<16->RiOk (s.rises.get i)):∀ (t:List Fe_) (n:Int),(∀ r∈t,LnOk r.l)->n<=B6_ s t n/\B6_ s t n<=n+192000*t.length+768000
 |[],n,_=>by
   have :=ksize1 h (16-0+1) n 0 qX qX
   simp only[B6_,AE];omega
 |x::t,n,hl=>by
   have hr:=lsize_r x.l
   have hk:=(hl x (B8 ..)).1
   have hi:=ksize0 h t (n+E2_ x.l) λr hr=>hl r (AI _ hr)
   simp only[B6_,lt,A2]
   omega
theorem ksize_r(s:G_)(h:StkOk s):0<=A7_ s/\A7_ s<=2304000:=by
 have :=ksize0 h.2.1 s.rows 0 h.1.2.1;have :=h.1.1;simp only[A7_];omega
theorem at_neg{s:G_}{n:Bs}(h:I_ s n<0):∀ x∈s.rows,x.q.name≠n:=λx hx e=>by
 have :=Ph_ h
 rw[FH] at this
 exact this x hx (decide_eq_true e)
theorem Rp_{s:G_}{q:Aa_}(h:StkOk s):StkOk (As_ s q).1:=by
 unfold As_ lt;refine bt (P:=λr:G_×Int=>StkOk r.1) (λ_=>h) λ_=>bt (P:=λr:G_×Int=>StkOk r.1) (λ_=>h) λ_=>bt (P:=λr:G_×Int=>StkOk r.1) (λ_=>h) λe=>bt (P:=λr:G_×Int=>StkOk r.1) (λ_=>h) λe1=>?_;simp only[decide_eq_false_iff_not] at e e1;have hn:=at_neg (s:=s) (n:=q.name) qX;refine⟨⟨by simp;omega,λr hr=>?_,?_⟩,h.2⟩
 . simp at hr
   rcases hr with hr|rfl
   exact h.1.2.1 r hr
   exact Uj_
 simp only[AQ,B7,AS,C3,AG,DQ];rw[List.nodup_append];refine⟨h.1.2.2,by simp,λa ha b hb=>?_⟩;obtain⟨x,hx,rfl⟩:=List.mem_map.1 ha;rw[List.mem_singleton.1 hb];exact hn x hx
theorem kdrop_ok{s:G_}{n:Bs}(h:StkOk s):StkOk (Bg_ s n).1:=by
 unfold Bg_ lt;refine bt (P:=λr:G_×Int=>StkOk r.1) (λ_=>h) λe=>?_;simp only[decide_eq_false_iff_not] at e;have :(I_ s n+1).toNat=(I_ s n).toNat+1:=by omega
 refine⟨h.1.sub ?_,h.2⟩;show List.Sublist [s.rows.take _,s.rows.drop _].flatten _;rw[this];exact Vd_ _ _
theorem Rq_{s:G_}{k:Int}{l:Ar_}(h:StkOk s)(hl:LnOk l)(hk:0<=k/\k<s.rows.length):StkOk (W_ s k l):=
 ⟨h.1.set (getG qX) Y hl,h.2⟩
theorem kroom_r0{s:G_}(h:StkOk s):-2304000<=s.bytes-A7_ s/\s.bytes-A7_ s<=1000000:=by
 have :=ksize_r s h;have :=h.2.2;omega
theorem T7_(s:G_)(k:Int)(l:Ar_):(W_ s k l).rows.length=s.rows.length:=by simp[W_]
def C3_(s:G_):Int:=
 (s.bytes-(A7_ s))
theorem kroom_r(s:G_)(h:StkOk s):-2304000<=C3_ s/\C3_ s<=1000000:=kroom_r0 h
def A6_(s:G_)(name:Bs)(m:Mail):G_×Int×Mail×Int:=
 lt (I_ s name) λr=>
 (bif decide (r<0) then
 (s,0,aK,10)
 else (bif !decide ((D6_ m)=0) then
 (s,0,aK,D6_ m)
 else (bif decide (s.next = 0) then
 (s,0,aK,18)
 else (lp2 ((bif decide (((gt s.rows ((r).toNat)).q.most)<=(A0 .u64 (Ej_ ((gt s.rows ((r).toNat)).l)))) then
 lt (Au_ ((gt s.rows ((r).toNat)).l)) λr1=>
 (bif !r1.2 then
 .ret (s,0,aK,12)
 else lt (Ap_ ((gt s.rows ((r).toNat)).l) r1.1.id) λr2=>
 .fin (r2.1,r1.1))
 else .fin ((gt s.rows ((r).toNat)).l,aK))) (λx x1=>
 (bif decide (((C3_ s)+(Ca_ x1))<(Ca_ (⟨s.next,m.Al_,m.key,m.head,m.body,m.due,m.hops⟩:Mail))) then
 (s,0,aK,12)
 else lt (Ax_ x (⟨s.next,m.Al_,m.key,m.head,m.body,m.due,m.hops⟩:Mail)) λr3=>
 (bif !decide (r3.2=0) then
 (s,0,aK,r3.2)
 else lt (W_ s r r3.1) λr4=>
 ((⟨(A0 .u64 (r4.next + 1)),r4.bytes,r4.rows,r4.rises⟩:G_),s.next,x1,0)))) (λr=>r)))))
def Cb_(s:G_)(name:Bs):G_×F_×Bool:=
 lt (I_ s name) λr=>
 (bif decide (r<0) then
 (s,aV,false)
 else lt (Di_ ((gt s.rows ((r).toNat)).l)) λr1=>
 lt (W_ s r r1.1) λr2=>
 (r2,r1.2.1,r1.2.2))
def Bz_(s:G_)(name:Bs)(id:Int):G_×Int:=
 lt (I_ s name) λr=>
 (bif decide (r<0) then
 (s,10)
 else lt (Ea_ ((gt s.rows ((r).toNat)).l) id) λr1=>
 lt (W_ s r r1.1) λr2=>
 (r2,r1.2))
def Ab_(s:G_)(name:Bs)(id:Int):G_×F_×Int:=
 lt (I_ s name) λr=>
 (bif decide (r<0) then
 (s,aV,10)
 else lt (Ap_ ((gt s.rows ((r).toNat)).l) id) λr1=>
 lt (W_ s r r1.1) λr2=>
 (r2,r1.2.1,r1.2.2))
def Ba_(s:G_)(place:Int)(m:Mail):G_×Int:=
 (bif ((decide (place<0))||(decide (16<=place))) then
 (s,7)
 else lt (Bw_ (A16.get s.rises ((place).toNat)) m) λr=>
 (bif !decide (r.2=0) then
 (s,r.2)
 else (bif decide (s.bytes<(((A7_ s)-(Cl_ (A16.get s.rises ((place).toNat))))+(Cl_ (r.1)))) then
 (s,12)
 else ((⟨s.next,s.bytes,s.rows,(A16.set s.rises (r.1) ((place).toNat))⟩:G_),0))))
def Bi_(tick:Int):List Fe_->Bs×Mail×Bool
 |[]=>([],aK,false)
 |x::t=>lt (Eb_ (x.l) tick) λr=>
 (bif r.2 then
 (x.q.name,r.1,true)
 else Bi_ tick t)
def Aw_(s:G_)(tick:Int):Bs×Mail×Bool:=
 Bi_ tick s.rows
def B7_:List Fe_->Nat->G_->G_
 |[],k,x=>x
 |x1::t,k,x=>lt (Ec_ (x1.l)) λr=>
 lt (W_ x (k:Int) r) λr1=>
 B7_ t (k+1) r1
def Da_(s:G_):G_:=
 B7_ s.rows 0 s
def LoP{σ ρ:Type}(I:σ->Prop)(R:ρ->Prop):Lo σ ρ->Prop
 | .fin s=>I s
 | .ret r=>R r
theorem lp0E{ρ β:Type}{P:β->Prop}{o:Lo Unit ρ}{f:β}{g:ρ->β}(I:Unit->Prop)(ho:LoP I (λr=>P (g r)) o)(hf:I ()->P f):P (lp0 o f g):=by
 cases o with
 |fin s=>exact hf ho
 |ret r=>exact ho
theorem lp1E{σ ρ β:Type}{P:β->Prop}{o:Lo σ ρ}{f:σ->β}{g:ρ->β}(I:σ->Prop)(ho:LoP I (λr=>P (g r)) o)(hf:∀ a,I a->P (f a)):P (lp1 o f g):=by
 cases o with
 |fin s=>exact hf _ ho
 |ret r=>exact ho
theorem lp2E{σ τ ρ β:Type}{P:β->Prop}{o:Lo (σ×τ) ρ}{f:σ->τ->β}{g:ρ->β}(I:σ×τ->Prop)(ho:LoP I (λr=>P (g r)) o)(hf:∀ a b,I (a,b)->P (f a b)):P (lp2 o f g):=by
 cases o with
 |fin s=>exact hf _ _ ho
 |ret r=>exact ho
def wtm(m:Mail):Nat:=33 ^ (5-m.hops.toNat)
def wtl(l:List F_):Nat:=(l.map λx=>wtm x.P_).sum
def wtk(s:G_):Nat:=(s.rows.map λr=>wtl r.l.items).sum
def wto(l:List Er_):Nat:=(l.map λx=>wtm x.P_).sum
def wt1(m:Mail):Nat:=bif decide (m.Al_=[]) then 0 else wtm m
theorem sum_cut{α:Type}[Inhabited α](f:α->Nat)(l:List α)(k:Nat)(h:k<l.length):(([l.take k,l.drop (k+1)].flatten).map f).sum+f (gt l k)=(l.map f).sum:=by
 have e:l=l.take k++(gt l k::l.drop (k+1)):=by
   conv=>lhs;rw[<- AL k l]
   congr 1
   rw[List.drop_eq_getElem_cons h]
   congr 1
   simp[gt,h]
 grind
theorem sum_set{α:Type}[Inhabited α](f:α->Nat):∀ (l:List α) (k:Nat) (y:α),k<l.length->((l.set k y).map f).sum+f (gt l k)=(l.map f).sum+f y
 |[],k,y,h=>by cases h
 |a::r,0,y,h=>by simp[gt];omega
 |a::r,k+1,y,h=>by
   have :=sum_set f r k y pT
   simp only[List.set_cons_succ,AG,EH]
   have e:gt (a::r) (k+1)=gt r k:=by simp[gt]
   rw[e];omega
theorem lof_self{l:Ar_}(h:LnOk l){k:Nat}(hk:k<l.items.length):Bc_ l (gt l.items k).P_.id=k:=by
 have h0:0<=Bc_ l (gt l.items k).P_.id:=by
   refine Int.not_lt.1 λq=>?_
   have :=Ph_ q
   rw[FH] at this
   exact this _ (Gw_ hk) (decide_eq_true Y)
 have hb:=lof_b l (gt l.items k).P_.id;have ha:=lof_at h0;obtain⟨j,hj⟩:∃ j:Nat,Bc_ l (gt l.items k).P_.id=j:=⟨_,(BD h0).symm⟩;rw[hj] at ha hb ⊢;simp only[A7] at ha;have hjl:j<l.items.length:=by omega
 rcases Nat.lt_trichotomy j k with q|q|q
 have :=U0_ h.2.2 (getG hjl) (getG hk) q;omega;rw[q];have :=U0_ h.2.2 (getG hk) (getG hjl) q;omega
theorem Yb_{l:Ar_}(h:(Au_ l).2=true):∃ k:Nat,k<l.items.length/\(Au_ l).1=(gt l.items k).P_:=by
 have hb:=Wx_ l;unfold Au_ lt C8_ lt at h ⊢;dsimp only at h ⊢
 cases e:decide (B0_ l<0) with
 |true=>rw[e] at h;cases h
 |false=>
   simp only[decide_eq_false_iff_not] at e
   exact⟨(B0_ l).toNat,by omega,rfl⟩
theorem lremove_w{l:Ar_}(h:LnOk l){k:Nat}(hk:k<l.items.length):wtl (Ap_ l (gt l.items k).P_.id).1.items+wtm (gt l.items k).P_=wtl l.items:=by
 unfold Ap_ lt;dsimp only;rw[lof_self h hk];have e:decide ((k:Int)<0)=false:=by simp
 rw[e];have :=sum_cut (λx:F_=>wtm x.P_) l.items k hk;exact this
theorem ladd_w{l:Ar_}{m:Mail}(h:(Ax_ l m).2=0):wtl (Ax_ l m).1.items=wtl l.items+wtm m:=by
 unfold Ax_ Dq_ lt at h ⊢;dsimp only at h ⊢
 cases e:decide (Eo_ l m=0) with
 |false=>rw[e] at h;simp at h;simp[h] at e
 |true=>
   simp[wtl,Cm_,lt,K_]
theorem kwith_w{s:G_}{k:Int}{l:Ar_}(hk:0<=k/\k<s.rows.length):wtk (W_ s k l)+wtl (gt s.rows k.toNat).l.items=wtk s+wtl l.items:=
 sum_set (λr:Fe_=>wtl r.l.items) s.rows k.toNat ⟨(gt s.rows k.toNat).q,l⟩ qX
theorem Xv_{s:G_}{n:Bs}{m:Mail}(h:StkOk s)(h0:0<=m.hops):StkOk (A6_ s n m).1/\MlOk (A6_ s n m).2.2.1/\((A6_ s n m).2.2.2=0->D6_ m=0/\wtk (A6_ s n m).1+wt1 (A6_ s n m).2.2.1<=wtk s+wtm m):=by
 unfold A6_ lt;let Q:G_×Int×Mail×Int->Prop:=λr=>StkOk r.1/\MlOk r.2.2.1/\(r.2.2.2=0->D6_ m=0/\wtk r.1+wt1 r.2.2.1<=wtk s+wtm m);have hno:∀ e:Int,e≠0->Q (s,0,⟨0,[],[],[],[],0,0⟩,e):=λe he=>⟨h,Il_,λq=>(he q).elim⟩;refine bt (P:=Q) (λ_=>hno _ qZ) λe=>bt (P:=Q) (λe=>hno _ pW) λec=>bt (P:=Q) (λ_=>hno _ qZ) λ_=>?_;simp only[decide_eq_false_iff_not] at e;have ec':D6_ m=0:=by simpa using ec
 have hb:=at_b s n;obtain⟨k,hk⟩:∃ k:Nat,I_ s n=k:=⟨_,(BD qX).symm⟩;rw[hk] at hb ⊢;simp only[A7];have hl:LnOk (gt s.rows k).l:=RwsOk.at h.1 (getG qX);refine lp2E (P:=Q) (λq=>LnOk q.1/\MlOk q.2/\wtl q.1.items+wt1 q.2<=wtl (gt s.rows k).l.items) ?_ λx x1 hx=>?_;refine bt (P:=LoP _ _) (λ_=>?_) λ_=>⟨hl,Il_,by simp[wt1]⟩;refine bt (P:=LoP _ _) (λ_=>hno _ qZ) λe2=>?_;have⟨j,hj,he⟩:=Yb_ (l:=(gt s.rows k).l) (by simpa using e2);have hw:=lremove_w hl hj;show LnOk _/\MlOk _/\_;rw[he];refine⟨(Ru_ hl).1,hl.2.1 _ (Gw_ hj),?_⟩;have :wt1 (gt (gt s.rows k).l.items j).P_<=wtm (gt (gt s.rows k).l.items j).P_:=by
   unfold wt1
   grind
 simp only;omega;have⟨hx1,hx2,hx3⟩:=hx;refine bt (P:=Q) (λ_=>hno _ qZ) λ_=>bt (P:=Q) (λe3=>hno _ (by simpa using e3)) λe3=>?_;have e3':(Ax_ x ⟨s.next,m.Al_,m.key,m.head,m.body,m.due,m.hops⟩).2=0:=by simpa using e3
 have ha:=ladd_w e3';have hok:=ladd_ok (l:=x) (m:=⟨s.next,m.Al_,m.key,m.head,m.body,m.due,m.hops⟩) hx1 h0;have hw:=kwith_w (s:=s) (k:=(k:Int)) (l:=(Ax_ x ⟨s.next,m.Al_,m.key,m.head,m.body,m.due,m.hops⟩).1) qX;have hs:=Rq_ (k:=(k:Int)) h hok qX;refine⟨hs,hx2,λ_=>⟨ec',?_⟩⟩;simp only[A7] at hw;show wtk (W_ s k _)+wt1 x1<=_;have he:wtm ⟨s.next,m.Al_,m.key,m.head,m.body,m.due,m.hops⟩=wtm m:=rfl;grind
theorem klend_ok{s:G_}{n:Bs}(h:StkOk s):StkOk (Cb_ s n).1/\MlOk (Cb_ s n).2.1.P_:=by
 unfold Cb_ lt;refine bt (P:=λr:G_×F_×Bool=>StkOk r.1/\MlOk r.2.1.P_) (λ_=>⟨h,Il_⟩) λe=>?_;simp only[decide_eq_false_iff_not] at e;have hb:=at_b s n;have hl:=llend_ok (RwsOk.at h.1 (getG (xs:=s.rows) (k:=(I_ s n).toNat) qX));exact⟨Rq_ h hl.1 qX,hl.2⟩
theorem kback_ok{s:G_}{n:Bs}{id:Int}(h:StkOk s):StkOk (Bz_ s n id).1:=by
 unfold Bz_ lt;refine bt (P:=λr:G_×Int=>StkOk r.1) (λ_=>h) λe=>?_;simp only[decide_eq_false_iff_not] at e;have hb:=at_b s n;exact Rq_ h (lback_ok (RwsOk.at h.1 (getG (xs:=s.rows) (k:=(I_ s n).toNat) qX))) qX
theorem Iq_{s:G_}{n:Bs}{id:Int}(h:StkOk s):StkOk (Ab_ s n id).1/\MlOk (Ab_ s n id).2.1.P_:=by
 unfold Ab_ lt;refine bt (P:=λr:G_×F_×Int=>StkOk r.1/\MlOk r.2.1.P_) (λ_=>⟨h,Il_⟩) λe=>?_;simp only[decide_eq_false_iff_not] at e;have hb:=at_b s n;have hl:=Ru_ (id:=id) (RwsOk.at h.1 (getG (xs:=s.rows) (k:=(I_ s n).toNat) qX));exact⟨Rq_ h hl.1 qX,hl.2⟩
theorem T6_{s:G_}{p:Int}{m:Mail}(h:StkOk s):StkOk (Ba_ s p m).1/\(Ba_ s p m).1.rows=s.rows:=by
 unfold Ba_ lt;let Q:G_×Int->Prop:=λr=>StkOk r.1/\r.1.rows=s.rows;refine bt (P:=Q) (λ_=>⟨h,rfl⟩) λe=>bt (P:=Q) (λ_=>⟨h,rfl⟩) λ_=>bt (P:=Q) (λ_=>⟨h,rfl⟩) λ_=>?_;simp only[AY,decide_eq_false_iff_not] at e;exact⟨h.set p.toNat qX (rput_ok (h.2.1 _ qX)),rfl⟩
theorem kwake_ok0:∀ (t:List Fe_) (k:Nat) (s:G_),StkOk s->(∀ r∈t,LnOk r.l)->k+t.length<=s.rows.length->StkOk (B7_ t k s)
 |[],_,_,h,_,_=>h
 |x::t,k,s,h,hl,hk=>by
   simp only[A2] at hk
   unfold B7_ lt
   refine kwake_ok0 t (k+1) _ (Rq_ h (lwake_ok (hl x (B8 ..))) qX) (λr hr=>hl r (AI _ hr)) ?_
   simp[W_];omega
theorem kwake_ok{s:G_}(h:StkOk s):StkOk (Da_ s):=kwake_ok0 s.rows 0 s h h.1.2.1 qX
theorem klate_ok0{t:Int}:∀ (l:List Fe_),(∀ r∈l,LnOk r.l)->MlOk (Bi_ t l).2.1
 |[],_=>Il_
 |x::l,h=>by
   unfold Bi_ lt
   refine bt (P:=λr:Bs×Mail×Bool=>MlOk r.2.1) (λ_=>llate_ok (h x (B8 ..))) (λ_=>klate_ok0 l λr hr=>h r (AI _ hr))
theorem T5_{s:G_}{t:Int}(h:StkOk s):MlOk (Aw_ s t).2.1:=klate_ok0 s.rows h.1.2.1
def Dh_(so_p:R_->Bool):List R_->List R_->(List R_)
 |[],out=>out
 | x::t,out=>(bif so_p x then
 Dh_ so_p t (out++[x])
 else Dh_ so_p t out)
def G5_(b:Ai_)(so_p:R_->Bool):(List R_):=
 Dh_ so_p b.binds []
def He_(x:R_)(x1:Bs):Bool:=
 (x.up||(!decide (x.to'=x1)))
def C1_(b:Ai_)(queue:Bs):Ai_:=
 lt (G5_ b (λz_5:R_=>(He_ z_5 queue))) λr=>
 (⟨b.Ae_,r⟩:Ai_)
def Dr_(x:X_)(x1:Bs):Bool:=
 (decide (x.name=x1))
def Ol_(x:R_)(x1:Bs):Bool:=
 (!decide (x.Al_=x1))
def Dx_(b:Ai_)(name:Bs):Ai_×Int:=
 (bif decide ((idxP (λz_5:X_=>(Dr_ z_5 name)) b.Ae_)<0) then
 (b,10)
 else lt (G5_ (⟨[(b.Ae_.take (idxP (λz_5:X_=>(Dr_ z_5 name)) b.Ae_).toNat),(b.Ae_.drop (((idxP (λz_5:X_=>(Dr_ z_5 name)) b.Ae_)+1)).toNat)].flatten,b.binds⟩:Ai_) (λz_18:R_=>(Ol_ z_18 name))) λr=>
 ((⟨[(b.Ae_.take (idxP (λz_5:X_=>(Dr_ z_5 name)) b.Ae_).toNat),(b.Ae_.drop (((idxP (λz_5:X_=>(Dr_ z_5 name)) b.Ae_)+1)).toNat)].flatten,r⟩:Ai_),0))
def C2_(b:Ai_)(x:R_):Ai_×Int:=
 lt (Am_ b x) λr=>
 (bif decide (r<0) then
 (b,10)
 else ((⟨b.Ae_,[(b.binds.take (r).toNat),(b.binds.drop ((r+1)).toNat)].flatten⟩:Ai_),0))
def Fc_(p:H_)(place:Int)(x:Aq_):E_:=
 (⟨x,p,place⟩:E_)
def Av_(p:H_)(place:Int):E_:=
 lt (Cf_ ((gt p.places ((place).toNat)).base) ((gt p.places ((place).toNat)).bytes)) λr=>
 lt (Fc_ p place (⟨aW,r,bE,(⟨0,0,0,0,0,0,0,0,0,0,0,0,0,0,0,0⟩:A16_u64),(⟨aJ,aJ,aJ,aJ,aJ,aJ,aJ,aJ⟩:A8_SpentR)⟩:Aq_)) λr1=>
 r1
def Jd_(own:Int)(tick:Int)(life:Int):Int:=
 (bif ((decide (life=0))||(decide ((A0 .u64 (18446744073709551615-tick))<life))) then
 own
 else (bif decide (own=0) then
 (A0 .u64 (tick+life))
 else (min own (A0 .u64 (tick+life)))))
def A0_(s:E_):Aq_:=
 s.x
def A8_(s:E_)(tick:Int)(kind:Int)(text:Bs):E_:=
 lt (Cn_ s.x.notes (⟨tick,kind,text⟩:D2_)) λr=>
 (⟨(⟨s.x.book,s.x.C_,r.1,s.x.seen,s.x.spent⟩:Aq_),s.L_,s.place⟩:E_)
theorem keep_eq0(p:R_->Bool):∀ (t out:List R_),Dh_ p t out=out++t.filter p
 |[],out=>by simp[Dh_]
 |x::t,out=>by
   unfold Dh_
   cases e:p x with
   |true=>simp[keep_eq0 p t,e]
   |false=>simp[keep_eq0 p t,e]
theorem Xt_(b:Ai_)(p:R_->Bool):G5_ b p=b.binds.filter p:=by simp[G5_,keep_eq0]
theorem bk_filter{b:Ai_}(h:BkOk b){p:R_->Bool}{l:List X_}(hl:l.length<=8):BkOk ⟨l,b.binds.filter p⟩:=
 ⟨hl,AK (List.length_filter_le ..) h.2.1,λy hy=>h.2.2 y (List.mem_filter.1 hy).1⟩
theorem bforget_ok{b:Ai_}{q:Bs}(h:BkOk b):BkOk (C1_ b q):=by
 unfold C1_ lt;rw[Xt_];exact bk_filter h h.1
theorem bdrop_ok{b:Ai_}{n:Bs}(h:BkOk b):BkOk (Dx_ b n).1:=by
 unfold Dx_ lt;refine bt (P:=λr:Ai_×Int=>BkOk r.1) (λ_=>h) λe=>?_;simp only[decide_eq_false_iff_not] at e;dsimp only;rw[Xt_];refine bk_filter h ?_;have hs:=h.1;have hc:=(Vd_ b.Ae_ (idxP (λz_5:X_=>Dr_ z_5 n) b.Ae_).toNat).length_le;have :(idxP (λz_5:X_=>Dr_ z_5 n) b.Ae_+1).toNat=(idxP (λz_5:X_=>Dr_ z_5 n) b.Ae_).toNat+1:=by omega
 rw[this];omega
theorem bunbind_ok{b:Ai_}{x:R_}(h:BkOk b):BkOk (C2_ b x).1:=by
 unfold C2_ lt;refine bt (P:=λr:Ai_×Int=>BkOk r.1) (λ_=>h) λe=>?_;simp only[decide_eq_false_iff_not] at e;have hc:=Vd_ b.binds (Am_ b x).toNat;have :(Am_ b x+1).toNat=(Am_ b x).toNat+1:=by omega
 dsimp only;rw[this];exact⟨h.1,AK hc.length_le h.2.1,λy hy=>h.2.2 y (hc.subset hy)⟩
theorem bmake_ok{b:Ai_}{x:X_}(h:BkOk b):BkOk (B5_ b x).1:=by
 unfold B5_;refine bt (P:=λr:Ai_×Int=>BkOk r.1) (λ_=>h) λ_=>bt (P:=λr:Ai_×Int=>BkOk r.1) (λ_=>h) λ_=>bt (P:=λr:Ai_×Int=>BkOk r.1) (λ_=>h) λ_=>bt (P:=λr:Ai_×Int=>BkOk r.1) (λ_=>h) λe=>?_;simp only[decide_eq_false_iff_not] at e;exact⟨by simp;omega,h.2⟩
theorem bbind_ok{b:Ai_}{x:R_}(h:BkOk b)(hx:x.key.length<=1000):BkOk (Bh_ b x).1:=by
 unfold Bh_ lt;refine bt (P:=λr:Ai_×Int=>BkOk r.1) (λ_=>h) λ_=>bt (P:=λr:Ai_×Int=>BkOk r.1) (λ_=>h) λ_=>bt (P:=λr:Ai_×Int=>BkOk r.1) (λ_=>h) λ_=>bt (P:=λr:Ai_×Int=>BkOk r.1) (λ_=>h) λ_=>bt (P:=λr:Ai_×Int=>BkOk r.1) (λ_=>h) λ_=>bt (P:=λr:Ai_×Int=>BkOk r.1) (λ_=>h) λe=>?_;simp only[decide_eq_false_iff_not] at e;refine⟨h.1,by simp;omega,λy hy=>?_⟩;simp at hy
 rcases hy with hy|rfl
 exact h.2.2 y hy;exact hx
theorem Ko_{s:E_}{t k:Int}{x:Bs}(h:StOk s):StOk (A8_ s t k x)/\(A8_ s t k x).x.C_=s.x.C_:=
 ⟨⟨⟨h.1.1,h.1.2.1,nadd_len h.1.2.2.1,h.1.2.2.2⟩,h.2⟩,rfl⟩
theorem Sy_{p:H_}{k:Int}(h:PoOk p)(hk:0<=k/\k<p.places.length):StOk (Av_ p k):=by
 have hb:=h.2.2.2.2.2.2 _ (Gw_ (xs:=p.places) (k:=k.toNat) qX);refine⟨⟨⟨by simp[Av_,lt,Fc_],by simp[Av_,lt,Fc_],by simp[Av_,lt,Fc_]⟩,⟨⟨by simp[Av_,lt,Fc_,Cf_],by simp[Av_,lt,Fc_,Cf_],by simp[Av_,lt,Fc_,Cf_]⟩,λi hi=>?_,?_,?_⟩,by simp[Av_,lt,Fc_],λi hi=>?_⟩,h,hk⟩;have :(Av_ p k).x.C_.rises.get i=⟨0,[]⟩:=by
   unfold Av_ lt Fc_ Cf_
   unfold A16.get
   repeat' split
   all_goals rfl
 rw[this];exact⟨by simp,by simp⟩;show 0<=max 0 _;omega;show max 0 (gt p.places k.toNat).bytes<=_;omega;have :(Av_ p k).x.spent.get i=⟨0,0⟩:=by
   unfold Av_ lt Fc_ Cf_
   unfold A8.get
   repeat' split
   all_goals rfl
 rw[this];simp
theorem rput_len(l:List Bs)(s:Bs):(Hl_ l s).length<=l.length+1:=by
 unfold Hl_
 cases decide (s∈l)<;>simp
theorem Rr_(b:Ai_)(n k:Bs)(h:List Pair):∀ (t:List R_) (q p:List Bs),(B4_ b n k h t q p).1.length<=q.length+t.length/\(B4_ b n k h t q p).2.1.length<=p.length+t.length
 |[],q,p=>⟨by simp[B4_],by simp[B4_]⟩
 |x::t,q,p=>by
   unfold B4_ lt lt1
   let Q:List Bs×List Bs×Int->Prop:=λr=>r.1.length<=q.length+(x::t).length/\r.2.1.length<=p.length+(x::t).length
   have h0:=Rr_ b n k h t q p
   have h1:=Rr_ b n k h t q (Hl_ p x.to')
   have h2:=Rr_ b n k h t (Hl_ q x.to') p
   have h3:=rput_len p x.to'
   have h4:=rput_len q x.to'
   refine bt (P:=Q) (λ_=>?_) λ_=>bt (P:=Q) (λ_=>?_) λ_=>?_
   all_goals (show _/\_;simp only[A2];omega)
theorem Uc_{b:Ai_}(n k:Bs)(h:List Pair)(hb:BkOk b):(By_ b n k h).1.length<=32/\(By_ b n k h).2.1.length<=33:=by
 unfold By_;let Q:List Bs×List Bs×Int->Prop:=λr=>r.1.length<=32/\r.2.1.length<=33;refine bt (P:=Q) (λ_=>⟨by simp,by simp⟩) λ_=>bt (P:=Q) (λ_=>⟨by simp,by simp⟩) λ_=>?_;have h0:=Rr_ b n k h b.binds [] [];have :=hb.2.1;simp only[AE] at h0;exact⟨by omega,by omega⟩
def A1_(s:E_)(to_:Int)(tick:Int):E_×Int:=
 lt (S_ s.L_ s.place to_) λr=>
 (bif decide (r<0) then
 (s,19)
 else (lt1 (lt (Gh_ s.L_ tick) λr1=>
 (bif !decide (((A8.get s.x.spent ((r).toNat)).round)=r1) then
 (⟨r1,0⟩:A2_)
 else (A8.get s.x.spent ((r).toNat)))) (λx=>
 (bif decide (((gt s.L_.grants ((r).toNat)).budget)<=x.count) then
 (s,19)
 else lt (A8_ (⟨(⟨s.x.book,s.x.C_,s.x.notes,s.x.seen,(A8.set s.x.spent (⟨x.round,(x.count+1)⟩:A2_) ((r).toNat))⟩:Aq_),s.L_,s.place⟩:E_) tick 2 ((gt s.L_.places ((to_).toNat)).name)) λr2=>
 (r2,0)))))
def Bq_(s:E_)(d:T_):E_×Int:=
 (bif decide (d.kind=2) then
 lt (As_ s.x.C_ d.queue) λr=>
 ((⟨(⟨s.x.book,r.1,s.x.notes,s.x.seen,s.x.spent⟩:Aq_),s.L_,s.place⟩:E_),r.2)
 else lt (Bg_ s.x.C_ d.name) λr1=>
 (bif decide (r1.2=0) then
 lt (C1_ s.x.book d.name) λr2=>
 ((⟨(⟨r2,r1.1,s.x.notes,s.x.seen,s.x.spent⟩:Aq_),s.L_,s.place⟩:E_),r1.2)
 else ((⟨(⟨s.x.book,r1.1,s.x.notes,s.x.seen,s.x.spent⟩:Aq_),s.L_,s.place⟩:E_),r1.2)))
def Db_(s:E_)(d:T_):E_×Ak_×Int:=
 lt (Aj_ s.x.C_ d.name) λr=>
 (bif !r.2 then
 (s,aP,10)
 else lt (Cb_ s.x.C_ d.name) λr1=>
 (bif !r1.2.2 then
 (s,aP,15)
 else ((⟨(⟨s.x.book,r1.1,s.x.notes,s.x.seen,s.x.spent⟩:Aq_),s.L_,s.place⟩:E_),(⟨r1.2.1,0,0⟩:Ak_),0)))
def Ao_(s:E_)(d:T_):E_×Int:=
 (bif decide (d.kind=0) then
 (lp0 (lt (J_ s.L_ d.Al_.to') λr=>
 (bif decide (d.Al_.sort=4) then
 (bif decide (r<0) then
 .ret (s,10)
 else lt (S_ s.L_ s.place r) λr1=>
 (bif decide (r1<0) then
 .ret (s,11)
 else .fin ()))
 else .fin ())) (
 lt (B5_ s.x.book d.Al_) λr2=>
 ((⟨(⟨r2.1,s.x.C_,s.x.notes,s.x.seen,s.x.spent⟩:Aq_),s.L_,s.place⟩:E_),r2.2)) (λr=>r))
 else (bif decide (d.kind=1) then
 lt (Dx_ s.x.book d.name) λr3=>
 ((⟨(⟨r3.1,s.x.C_,s.x.notes,s.x.seen,s.x.spent⟩:Aq_),s.L_,s.place⟩:E_),r3.2)
 else (bif decide (d.kind=5) then
 lt (C2_ s.x.book d.bind) λr4=>
 ((⟨(⟨r4.1,s.x.C_,s.x.notes,s.x.seen,s.x.spent⟩:Aq_),s.L_,s.place⟩:E_),r4.2)
 else lt (Aj_ s.x.C_ d.bind.to') λr5=>
 (lp0 (lt (J_ s.L_ d.bind.to') λr6=>
 (lt1 ((bif (d.bind.up&&(decide (r6<0))) then
 (d.bind.up&&(decide (r6<0)))
 else ((!d.bind.up)&&(!r5.2)))) (λv=>
 (bif v then
 .ret (s,10)
 else (bif (d.bind.up&&(!(Bs_ s.L_ s.place r6))) then
 .ret (s,11)
 else .fin ()))))) (
 lt (Bh_ s.x.book d.bind) λr7=>
 ((⟨(⟨r7.1,s.x.C_,s.x.notes,s.x.seen,s.x.spent⟩:Aq_),s.L_,s.place⟩:E_),r7.2)) (λr=>r)))))
theorem lt1E{σ β:Type}{P:β->Prop}{o:σ}{f:σ->β}(I:σ->Prop)(ho:I o)(hf:∀ a,I a->P (f a)):P (lt1 o f):=hf _ ho
theorem spend_ok{s:E_}{to' t:Int}(h:StOk s):StOk (A1_ s to' t).1/\(A1_ s to' t).1.x.C_=s.x.C_:=by
 unfold A1_ lt;let Q:E_×Int->Prop:=λr=>StOk r.1/\r.1.x.C_=s.x.C_;have hn:∀ e,Q (s,e):=λe=>⟨h,rfl⟩;refine bt (P:=Q) (λ_=>hn _) λe=>?_;simp only[decide_eq_false_iff_not] at e;have hg:=grant_in h.2.1 s.place to' qX;have hb:=grant_b s.L_ s.place to';have hl:=h.2.1.2.2.2.2.1;have hu:=h.1.2.2.2;refine lt1E (P:=Q) (λx:A2_=>0<=x.count) ?_ λx hx=>?_;refine bt (P:=λx:A2_=>0<=x.count) (λ_=>?_) λ_=>?_;exact BM _;exact (hu _ qX).1
 . refine bt (P:=Q) (λ_=>hn _) λe2=>?_
   simp only[decide_eq_false_iff_not] at e2
   refine Ko_ (s:=⟨⟨s.x.book,s.x.C_,s.x.notes,s.x.seen,_⟩,s.L_,s.place⟩) ⟨⟨h.1.1,h.1.2.1,h.1.2.2.1,λi hi=>?_⟩,h.2⟩
   show 0<=((s.x.spent.set _ _).get i).count/\_
   dsimp only
   rw[A8.get_set _ _ _ _ qX hi]
   split
   exact⟨by show 0<=x.count+1;omega,by show x.count+1<=16;omega⟩
   exact hu i hi
theorem Pa_{s:E_}{b:Ai_}(h:StOk s)(hb:BkOk b):StOk ⟨⟨b,s.x.C_,s.x.notes,s.x.seen,s.x.spent⟩,s.L_,s.place⟩:=⟨⟨hb,h.1.2⟩,h.2⟩
theorem Co_{s:E_}{k:G_}(h:StOk s)(hk:StkOk k):StOk ⟨⟨s.x.book,k,s.x.notes,s.x.seen,s.x.spent⟩,s.L_,s.place⟩:=⟨⟨h.1.1,hk,h.1.2.2⟩,h.2⟩
theorem queues_ok{s:E_}{d:T_}(h:StOk s):StOk (Bq_ s d).1:=by
 unfold Bq_ lt;let Q:E_×Int->Prop:=λr=>StOk r.1;refine bt (P:=Q) (λ_=>Co_ h (Rp_ h.1.2.1)) λ_=>bt (P:=Q) (λ_=>?_) λ_=>Co_ h (kdrop_ok h.1.2.1);exact Pa_ (s:=⟨⟨s.x.book,_,s.x.notes,s.x.seen,s.x.spent⟩,s.L_,s.place⟩) (Co_ h (kdrop_ok h.1.2.1)) (bforget_ok h.1.1)
theorem lend_ok{s:E_}{d:T_}(h:StOk s):StOk (Db_ s d).1/\MlOk (Db_ s d).2.1.item.P_:=by
 unfold Db_ lt;let Q:E_×Ak_×Int->Prop:=λr=>StOk r.1/\MlOk r.2.1.item.P_;exact bt (P:=Q) (λ_=>⟨h,Il_⟩) λ_=>bt (P:=Q) (λ_=>⟨h,Il_⟩) λ_=>have :=klend_ok (n:=d.name) h.1.2.1;⟨Co_ h this.1,this.2⟩
theorem shops_ok{s:E_}{d:T_}(h:StOk s)(hd:DdOk d):StOk (Ao_ s d).1:=by
 unfold Ao_ lt;let Q:E_×Int->Prop:=λr=>StOk r.1;have hn:∀ e,Q (s,e):=λe=>h;refine bt (P:=Q) (λ_=>?_) λ_=>?_;refine lp0E (P:=Q) (λ_=>True) ?_ λ_=>Pa_ h (bmake_ok h.1.1);refine bt (P:=LoP _ _) (λ_=>?_) λ_=>trivial;exact xN;refine bt (P:=Q) (λ_=>Pa_ h (bdrop_ok h.1.1)) λ_=>bt (P:=Q) (λ_=>Pa_ h (bunbind_ok h.1.1)) λ_=>lp0E (P:=Q) (λ_=>True) ?_ λ_=>Pa_ h (bbind_ok h.1.1 hd.1);exact lt1E (P:=LoP _ _) (λ_=>True) Z λv _=>xN
theorem Nq_{n:Int}:0<=IntKind.wrap .u8 n:=by
 exact sH
def Bp_(s:E_)(m:Mail)(tick:Int)(r:(List Bs)×(List Bs)×Int)(gone:List Er_):List Bs->Int->E_->E_×(List Er_)×Int×Int
 |[],n1,x1=>(x1,gone,n1,0)
 |x3::t,n1,x1=>lt (J_ x1.L_ x3) λr4=>
 (lp1 ((bif decide ((((D7_ s.x.book.Ae_ m.Al_).getD X_.zero).sort)=4) then
 lt (A1_ x1 r4 tick) λr5=>
 (bif !decide (r5.2=0) then
 .ret (s,[],0,r5.2)
 else .fin r5.1)
 else .fin x1)) (λx2=>
 lt (Ba_ x2.x.C_ r4 (⟨0,m.Al_,m.key,m.head,m.body,m.due,m.hops⟩:Mail)) λr6=>
 (bif !decide (r6.2=0) then
 (s,[],0,r6.2)
 else Bp_ s m tick r gone t (n1+1) (⟨(⟨x2.x.book,r6.1,x2.x.notes,x2.x.seen,x2.x.spent⟩:Aq_),x2.L_,x2.place⟩:E_))) (λr=>r))
def Bf_(s:E_)(m:Mail)(tick:Int)(r:(List Bs)×(List Bs)×Int):List Bs->List Er_->Int->E_->E_×(List Er_)×Int×Int
 |[],gone,n,x=>Bp_ s m tick r gone r.2.1 n x
 |x4::t1,gone,n,x=>lt (Aj_ x.x.C_ x4) λr1=>
 (bif !r1.2 then
 Bf_ s m tick r t1 gone n x
 else lt (Jd_ m.due tick r1.1.life) λr2=>
 lt (A6_ x.x.C_ x4 (⟨0,m.Al_,m.key,m.head,m.body,r2,m.hops⟩:Mail)) λr3=>
 (bif !decide (r3.2.2.2=0) then
 (s,[],0,r3.2.2.2)
 else (bif !decide (r3.2.2.1.Al_=[]) then
 Bf_ s m tick r t1 (gone++[(⟨x4,r3.2.2.1⟩:Er_)]) (n+1) (⟨(⟨x.x.book,r3.1,x.x.notes,x.x.seen,x.x.spent⟩:Aq_),x.L_,x.place⟩:E_)
 else Bf_ s m tick r t1 gone (n+1) (⟨(⟨x.x.book,r3.1,x.x.notes,x.x.seen,x.x.spent⟩:Aq_),x.L_,x.place⟩:E_))))
def Q_(s:E_)(m:Mail)(tick:Int):E_×(List Er_)×Int×Int:=
 lt (By_ s.x.book m.Al_ m.key m.head) λr=>
 (bif !decide (r.2.2=0) then
 (s,[],0,r.2.2)
 else Bf_ s m tick r r.1 [] 0 s)
def We_(W:Nat)(r:E_×List Er_×Int×Int):Prop:=StOk r.1/\(∀ g∈r.2.1,MlOk g.P_)/\(r.2.2.2=0->wtk r.1.x.C_+wto r.2.1<=W)
theorem Wz_{W:Nat}{s:E_}{e:Int}(h:StOk s)(he:e≠0):We_ W (s,[],0,e):=⟨h,(λ_ hg=>by cases hg),λq=>(he q).elim⟩
theorem send1{s:E_}{m:Mail}{tick:Int}{r:List Bs×List Bs×Int}{gone:List Er_}{W:Nat}(hs:StOk s)(hg:∀ g∈gone,MlOk g.P_):∀ (t:List Bs) (n:Int) (x:E_),StOk x->wtk x.x.C_+wto gone<=W->We_ W (Bp_ s m tick r gone t n x)
 |[],n,x,hx,hw=>⟨hx,hg,λ_=>hw⟩
 |q::t,n,x,hx,hw=>by
   unfold Bp_ lt
   refine lp1E (P:=We_ W) (λy:E_=>StOk y/\y.x.C_=x.x.C_) ?_ λy hy=>?_
   . refine bt (P:=LoP _ _) (λ_=>?_) λ_=>⟨hx,rfl⟩
     refine bt (P:=LoP _ _) (λe=>Wz_ hs ?_) λ_=>spend_ok hx
     simpa using e
   . have hr:=T6_ (p:=J_ x.L_ q) (m:=⟨0,m.Al_,m.key,m.head,m.body,m.due,m.hops⟩) hy.1.stk
     refine bt (P:=We_ W) (λe=>Wz_ hs pW) λ_=>?_
     refine send1 hs hg t _ _ (Co_ hy.1 hr.1) ?_
     have :wtk (Ba_ y.x.C_ (J_ x.L_ q) ⟨0,m.Al_,m.key,m.head,m.body,m.due,m.hops⟩).1=wtk x.x.C_:=by
       unfold wtk;rw[hr.2,hy.2]
     grind
theorem wto_app(a b:List Er_):wto (a++b)=wto a+wto b:=by simp[wto]
theorem send0{s:E_}{m:Mail}{tick:Int}{r:List Bs×List Bs×Int}(hs:StOk s)(h0:0<=m.hops):∀ (t:List Bs) (gone:List Er_) (n:Int) (x:E_),StOk x->(∀ g∈gone,MlOk g.P_)->We_ (wtk x.x.C_+wto gone+t.length*wtm m) (Bf_ s m tick r t gone n x)
 |[],gone,n,x,hx,hg=>by
   unfold Bf_
   exact send1 hs hg r.2.1 n x hx pC
 |q::t,gone,n,x,hx,hg=>by
   unfold Bf_ lt
   have hmono:∀ {W W':Nat} {r:E_×List Er_×Int×Int},W<=W'->We_ W r->We_ W' r:=λhw h=>⟨h.1,h.2.1,λe=>AK (h.2.2 e) hw⟩
   have hl:(q::t).length*wtm m=t.length*wtm m+wtm m:=by rw[A2,D7]
   refine bt (P:=We_ _) (λ_=>hmono qX (send0 hs h0 t gone n x hx hg)) λ_=>?_
   generalize hd:Jd_ m.due tick (Aj_ x.x.C_ q).1.life=due
   have hp:=Xv_ (s:=x.x.C_) (n:=q) (m:=⟨0,m.Al_,m.key,m.head,m.body,due,m.hops⟩) hx.stk h0
   dsimp only
   generalize hv:A6_ x.x.C_ q ⟨0,m.Al_,m.key,m.head,m.body,due,m.hops⟩=v at hp ⊢
   have⟨p1,p2,p3⟩:=hp
   have he:wtm ⟨0,m.Al_,m.key,m.head,m.body,due,m.hops⟩=wtm m:=rfl
   rw[he] at p3
   refine bt (P:=We_ _) (λe=>Wz_ hs pW) λe=>?_
   have hw:=(p3 pW).2
   refine bt (P:=We_ _) (λe2=>?_) λe2=>?_
   . refine hmono ?_ (send0 hs h0 t (gone++[⟨q,v.2.2.1⟩]) (n+1) ⟨⟨x.x.book,v.1,x.x.notes,x.x.seen,x.x.spent⟩,x.L_,x.place⟩ (Co_ hx p1) ?_)
     . rw[wto_app]
       have :wt1 v.2.2.1=wto [(⟨q,v.2.2.1⟩:Er_)]:=by
         have :decide (v.2.2.1.Al_=[])=false:=by simpa using e2
         simp[wt1,wto,this]
       grind
     grind
   . refine hmono ?_ (send0 hs h0 t gone (n+1) ⟨⟨x.x.book,v.1,x.x.notes,x.x.seen,x.x.spent⟩,x.L_,x.place⟩ (Co_ hx p1) hg)
     grind
theorem Lt_{s:E_}{m:Mail}{tick:Int}(hs:StOk s)(h0:0<=m.hops):We_ (wtk s.x.C_+32*wtm m) (Q_ s m tick):=by
 unfold Q_ lt;refine bt (P:=We_ _) (λe=>Wz_ hs pW) λ_=>?_;have hl:=(Uc_ m.Al_ m.key m.head hs.1.1).1;have h:=send0 (tick:=tick) (r:=By_ s.x.book m.Al_ m.key m.head) hs h0 (By_ s.x.book m.Al_ m.key m.head).1 [] 0 s hs (λ_ hg=>by cases hg)
 refine⟨h.1,h.2.1,λe=>AK (h.2.2 e) ?_⟩;have :=BP (wtm m) hl;simp only[wto,DQ,List.sum_nil];omega
theorem send1_len{s:E_}{m:Mail}{tick:Int}{r:List Bs×List Bs×Int}{gone:List Er_}{k:Nat}(hk:gone.length<=k):∀ (t:List Bs) (n:Int) (x:E_),(Bp_ s m tick r gone t n x).2.1.length<=k
 |[],n,x=>hk
 |q::t,n,x=>by
   unfold Bp_ lt
   let Q:E_×List Er_×Int×Int->Prop:=λr=>r.2.1.length<=k
   refine lp1E (P:=Q) (λ_=>True) ?_ λy _=>?_
   . refine bt (P:=LoP _ _) (λ_=>?_) λ_=>trivial
     exact bt (P:=LoP _ _) (λ_=>B5 _) λ_=>trivial
   . exact bt (P:=Q) (λ_=>B5 _) λ_=>send1_len hk t _ _
theorem U4_{s:E_}{m:Mail}{tick:Int}{r:List Bs×List Bs×Int}{k:Nat}:∀ (t:List Bs) (gone:List Er_) (n:Int) (x:E_),gone.length+t.length<=k->(Bf_ s m tick r t gone n x).2.1.length<=k
 |[],gone,n,x,hk=>by
   unfold Bf_
   exact send1_len (by simpa using hk) _ _ _
 |q::t,gone,n,x,hk=>by
   simp only[A2] at hk
   unfold Bf_ lt
   let Q:E_×List Er_×Int×Int->Prop:=λr=>r.2.1.length<=k
   refine bt (P:=Q) (λ_=>U4_ t _ _ _ qX) λ_=>?_
   refine bt (P:=Q) (λ_=>B5 _) λ_=>?_
   exact bt (P:=Q) (λ_=>U4_ t _ _ _ pL) λ_=>U4_ t _ _ _ qX
theorem Mv_{s:E_}{m:Mail}{tick:Int}(hs:StOk s):(Q_ s m tick).2.1.length<=32:=by
 unfold Q_ lt;let Q:E_×List Er_×Int×Int->Prop:=λr=>r.2.1.length<=32;exact bt (P:=Q) (λ_=>B5 _) λ_=>have hl:=(Uc_ m.Al_ m.key m.head hs.1.1).1;U4_ _ _ _ _ pZ
theorem wtm_r(m:Mail):1<=wtm m/\wtm m<=39135393:=by
 unfold wtm;refine⟨Nat.one_le_pow _ _ qZ,?_⟩;have :33 ^ (5-m.hops.toNat)<=33 ^ 5:=CH qZ qX;exact sY
theorem wto_r:∀ l:List Er_,l.length<=wto l/\wto l<=39135393*l.length
 |[]=>⟨Nat.zero_le _,by simp[wto]⟩
 |x::l=>by
   have h:=wto_r l
   have hx:=wtm_r x.P_
   simp only[wto,AG,EH,A2] at h ⊢
   omega
theorem wtl_r:∀ l:List F_,wtl l<=39135393*l.length
 |[]=>by simp[wtl]
 |x::l=>by
   have h:=wtl_r l
   have hx:=wtm_r x.P_
   simp only[wtl,AG,EH,A2] at h ⊢
   omega
theorem wtr_r:∀ l:List Fe_,(∀ r∈l,LnOk r.l)->(l.map λr=>wtl r.l.items).sum<=2504665152*l.length
 |[],_=>by simp
 |x::l,h=>by
   have h1:=wtr_r l λr hr=>h r (AI _ hr)
   have h2:=wtl_r x.l.items
   exact yW
theorem wtk_r{s:G_}(h:StkOk s):wtk s<=20037321216:=by
 have h1:=wtr_r s.rows h.1.2.1;have h2:=h.1.1;unfold wtk;omega
theorem W2_{l:List Er_}(h:0<l.length):wto (l.drop 1)+wtm (gt l 0).P_=wto l:=by
 cases l with
 |nil=>cases h
 |cons a r=>simp[wto,gt];omega
def Wd_(gone:List Er_)(lost:Int)(x:E_):Prop:=StOk x/\(∀ g∈gone,MlOk g.P_)/\0<=lost/\lost+((wtk x.x.C_+wto gone:Nat):Int)<=50000000000
theorem buryI0{gone:List Er_}{x:E_}(h:StOk x)(hg:gone.length<=600/\∀ g∈gone,MlOk g.P_):Wd_ gone 0 x:=by
 have h1:=wtk_r h.stk;have h2:=(wto_r gone).2;refine⟨h,hg.2,BM _,?_⟩;grind
section
variable{gone more:List Er_}{lost:Int}{x y:E_}{f:Nat}{m:Mail}{e:Int}
theorem Vz_(hn:0<gone.length)(h:wtk x.x.C_+wto gone<f+1):wtk x.x.C_+wto (gone.drop 1)<f:=by
 have :=W2_ hn;have :=(wtm_r (gt gone 0).P_).1;omega
theorem S0_(h:Wd_ gone lost x)(hn:0<gone.length):Wd_ (gone.drop 1) lost x:=by
 have h1:=W2_ hn;exact⟨h.1,λg hg=>h.2.1 g (AP hg),h.2.2.1,by have :=h.2.2.2;omega⟩
theorem Z7_(hs:y.x.C_=x.x.C_)(hn:0<gone.length)(h:wtk x.x.C_+wto gone<f+1):wtk y.x.C_+wto (gone.drop 1)<f:=by
 rw[hs];exact Vz_ hn h
theorem Va_(h:Wd_ gone lost x)(hy:StOk y)(hs:y.x.C_=x.x.C_)(hn:0<gone.length):Wd_ (gone.drop 1) (lost+1) y:=by
 have h1:=W2_ hn;have h2:=(wtm_r (gt gone 0).P_).1;have h3:=h.2.2.2;exact⟨hy,λg hg=>h.2.1 g (AP hg),by have :=h.2.2.1;omega,by rw[hs];omega⟩
theorem bury_w{r:Mail}(hr:r=K_ (gt gone 0).P_)(hm:MlOk (gt gone 0).P_)(h4:¬4<IntKind.wrap .u8 (r.hops+1))(hmm:m.hops=IntKind.wrap .u8 (r.hops+1)):33*wtm m=wtm (gt gone 0).P_:=by
 subst hr;have h1:=hm.2.1;have h2:=hm.2.2.1;have hw:A0 .u8 ((gt gone 0).P_.hops+1)=(gt gone 0).P_.hops+1:=by
   exact sH
 simp only[K_] at h4 hmm;rw[hw] at h4 hmm;unfold wtm;rw[hmm];have :5-(gt gone 0).P_.hops.toNat=(5-((gt gone 0).P_.hops+1).toNat)+1:=by omega
 grind
theorem W4_{r:Mail}(hn:0<gone.length)(h:wtk x.x.C_+wto gone<f+1)(hr:r=K_ (gt gone 0).P_)(hm:MlOk (gt gone 0).P_)(h4:¬4<IntKind.wrap .u8 (r.hops+1))(hw:e=0->wtk y.x.C_+wto more<=wtk x.x.C_+32*wtm m)(hmm:m.hops=IntKind.wrap .u8 (r.hops+1))(he:e=0):wtk y.x.C_+wto ((gone++more).drop 1)<f:=by
 have h1:=W2_ hn;have h2:=bury_w (m:=m) hr hm h4 hmm;have h3:=hw he;have h5:(gone++more).drop 1=gone.drop 1++more:=by cases gone with
   |nil=>cases hn
   |cons a r=>simp
 have h6:=(wtm_r m).1;rw[h5,wto_app];omega
theorem Vb_{r:Mail}(h:Wd_ gone lost x)(hy:StOk y)(hg:∀ g∈more,MlOk g.P_)(hn:0<gone.length)(hr:r=K_ (gt gone 0).P_)(hm:MlOk (gt gone 0).P_)(h4:¬4<IntKind.wrap .u8 (r.hops+1))(hw:e=0->wtk y.x.C_+wto more<=wtk x.x.C_+32*wtm m)(hmm:m.hops=IntKind.wrap .u8 (r.hops+1))(he:e=0):Wd_ ((gone++more).drop 1) lost y:=by
 have h1:=W4_ (f:=wtk x.x.C_+wto gone) hn qX hr hm h4 hw hmm he;refine⟨hy,λg hg'=>?_,h.2.2.1,by have :=h.2.2.2;omega⟩
 rcases List.mem_append.1 (AP hg') with q|q
 exact h.2.1 g q;exact hg g q
theorem app_fit(h:Wd_ gone lost x)(hw:e=0->wtk y.x.C_+wto more<=wtk x.x.C_+32*wtm m)(he:e=0):gone.length+more.length<=200000000000:=by
 have h1:=(wto_r gone).1;have h2:=(wto_r more).1;have h3:=(wtm_r m).2;have h4:=hw he;have h5:=h.2.2.2;have h6:=h.2.2.1;omega
end
def nik(s:G_):Nat:=(s.rows.map λr=>r.l.items.length).sum
theorem at_self{s:G_}(h:StkOk s){k:Nat}(hk:k<s.rows.length):I_ s (gt s.rows k).q.name=k:=by
 have h0:0<=I_ s (gt s.rows k).q.name:=Int.not_lt.1 λq=>at_neg q _ (Gw_ hk) Y;have hb:=at_b s (gt s.rows k).q.name;have ha:=at_n h0;obtain⟨j,hj⟩:∃ j:Nat,I_ s (gt s.rows k).q.name=j:=⟨_,(BD h0).symm⟩;rw[hj] at ha hb ⊢;simp only[A7] at ha;have hjl:j<s.rows.length:=by omega
 have hnd:∀ i q:Nat,(hi:i<s.rows.length)->(hq:q<s.rows.length)->i<q->(gt s.rows i).q.name≠(gt s.rows q).q.name:=λi q hi hq hiq=>by
   have h1:=List.pairwise_iff_getElem.1 h.1.2.2 i q (by simpa using hi) oQ hiq
   rw[CW,CW] at h1
   have e1:gt s.rows i=s.rows[i]:=by simp[gt,hi]
   have e2:gt s.rows q=s.rows[q]:=by simp[gt,hq]
   grind
 grind
theorem klate_at0{t:Int}:∀ (l:List Fe_),(Bi_ t l).2.2=true->∃ k j,k<l.length/\j<(gt l k).l.items.length/\(Bi_ t l).1=(gt l k).q.name/\(Bi_ t l).2.1=(gt (gt l k).l.items j).P_
 |[],h=>by cases h
 |x::l,h=>by
   unfold Bi_ lt at h ⊢
   dsimp only at h ⊢
   cases e:(Eb_ x.l t).2 with
   |true=>
     have hb:=llate_b x.l t
     have hl:∃ j:Nat,j<x.l.items.length/\(Eb_ x.l t).1=(gt x.l.items j).P_:=by
       unfold Eb_ lt C8_ lt at e ⊢
       dsimp only at e ⊢
       cases e1:decide (E3_ x.l t<0) with
       |true=>rw[e1] at e;cases e
       |false=>
         simp only[decide_eq_false_iff_not] at e1
         exact⟨(E3_ x.l t).toNat,by omega,rfl⟩
     have⟨j,hj,he⟩:=hl
     exact⟨0,j,by simp,hj,rfl,he⟩
   |false=>
     rw[e] at h
     have⟨k,j,h1,h2,h3,h4⟩:=klate_at0 l h
     have hg:gt (x::l) (k+1)=gt l k:=by simp[gt]
     grind
theorem late_n{s:G_}{t:Int}(h:StkOk s)(hl:(Aw_ s t).2.2=true):nik (Ab_ s (Aw_ s t).1 (Aw_ s t).2.1.id).1+1=nik s:=by
 have⟨k,j,h1,h2,h3,h4⟩:=klate_at0 s.rows hl;have h3':(Aw_ s t).1=_:=h3;have h4':(Aw_ s t).2.1=_:=h4;rw[h3',h4'];unfold Ab_ lt;rw[at_self h h1];have hk:decide ((k:Int)<0)=false:=by simp
 have hln:=RwsOk.at h.1 (getG h1);have hrm:(Ap_ (gt s.rows k).l (gt (gt s.rows k).l.items j).P_.id).1.items.length+1=(gt s.rows k).l.items.length:=by
   unfold Ap_ lt
   rw[lof_self hln h2]
   grind
 have hs:=sum_set (λr:Fe_=>r.l.items.length) s.rows k ⟨(gt s.rows k).q,(Ap_ (gt s.rows k).l (gt (gt s.rows k).l.items j).P_.id).1⟩ h1;dsimp only at hs ⊢;rw[hk];unfold nik;simp only[cond_false,A7,W_];omega
theorem nik_r0:∀ l:List Fe_,(∀ r∈l,LnOk r.l)->(l.map λr=>r.l.items.length).sum<=64*l.length
 |[],_=>by simp
 |x::l,h=>by
   have h1:=nik_r0 l λr hr=>h r (AI _ hr)
   exact yW
theorem nik_r{s:G_}(h:StkOk s):nik s<=512:=by
 have h1:=nik_r0 s.rows h.1.2.1;have h2:=h.1.1;unfold nik;omega
theorem Eg_{s:E_}{a:A16_u64}(h:StOk s):StOk ⟨⟨s.x.book,s.x.C_,s.x.notes,a,s.x.spent⟩,s.L_,s.place⟩:=h
theorem copy_f(m:Mail):(K_ m).head.length=m.head.length/\(K_ m).key.length=m.key.length/\(K_ m).hops=m.hops:=⟨rfl,rfl,rfl⟩
theorem st_nts{s:E_}(h:StOk s):s.x.notes.kept.length<=1000:=AK h.1.2.2.1 qZ
theorem Ya_{k:G_}{t:Int}{r:Bs×Mail×Bool}{r1:G_×F_×Int}{f:Nat}(h:StkOk k)(hr:Aw_ k t=r)(h2:r.2.2=true)(hr1:Ab_ k r.1 r.2.1.id=r1)(hf:nik k<f+1):nik r1.1<f:=by
 subst hr;subst hr1;have :=late_n h h2;omega
theorem X9_{k:G_}{t:Int}{r:Bs×Mail×Bool}{r1:G_×F_×Int}{gone:List Er_}{g:Er_}(h:StkOk k)(hr:Aw_ k t=r)(h2:r.2.2=true)(hr1:Ab_ k r.1 r.2.1.id=r1)(hf:gone.length+nik k<=512):(gone++[g]).length+nik r1.1<=512:=by
 subst hr;subst hr1;have :=late_n h h2;grind
def Bt_(tick:Int):Nat->List Er_->Int->E_->E_×Int
 |0,_,_,_=>default
 | f2+1,gone1,lost,x=>(bif decide (0<(gone1.length:Int)) then
 lt (Aj_ x.x.C_ ((gt gone1 0).queue)) λr=>
 (bif decide (((r.1).dead)=[]) then
 Bt_ tick f2 (gone1.drop 1) lost x
 else lt (K_ ((gt gone1 0).P_)) λr1=>
 lt (Q_ x (⟨r1.id,(r.1).dead,r1.key,r1.head,r1.body,0,(A0 .u8 (r1.hops+1))⟩:Mail) tick) λr2=>
 (bif ((decide (4<(A0 .u8 (r1.hops+1))))||(!decide (r2.2.2.2=0))) then
 lt (A8_ x tick 1 ((gt gone1 0).queue)) λr3=>
 Bt_ tick f2 (gone1.drop 1) (lost+1) r3
 else Bt_ tick f2 ((gone1++r2.2.1).drop 1) lost r2.1))
 else (x,lost))
def Bj_(s:E_)(gone:List Er_)(tick:Int):E_×Int:=
 Bt_ tick (wtk s.x.C_+wto gone+1) gone 0 s
def Cg_(s:E_)(d:T_):E_×Ak_×Int:=
 lt (Bz_ s.x.C_ d.name d.id) λr=>
 (bif !decide (r.2=0) then
 (s,aP,r.2)
 else (bif decide (d.how=2) then
 ((⟨(⟨s.x.book,r.1,s.x.notes,s.x.seen,s.x.spent⟩:Aq_),s.L_,s.place⟩:E_),aP,0)
 else lt (Ab_ s.x.C_ d.name d.id) λr1=>
 (bif decide (d.how=1) then
 (((Bj_ (⟨(⟨s.x.book,r1.1,s.x.notes,s.x.seen,s.x.spent⟩:Aq_),s.L_,s.place⟩:E_) [(⟨d.name,r1.2.1.P_⟩:Er_)] d.tick).1),(⟨aV,0,(Bj_ (⟨(⟨s.x.book,r1.1,s.x.notes,s.x.seen,s.x.spent⟩:Aq_),s.L_,s.place⟩:E_) [(⟨d.name,r1.2.1.P_⟩:Er_)] d.tick).2⟩:Ak_),0)
 else ((⟨(⟨s.x.book,r1.1,s.x.notes,s.x.seen,s.x.spent⟩:Aq_),s.L_,s.place⟩:E_),aP,0))))
def C5_(tick:Int):Nat->List Er_->E_->E_×Ak_
 |0,_,_=>default
 |f2+1,gone,x=>lt (Aw_ x.x.C_ tick) λr=>
 (bif !r.2.2 then
 (((Bj_ x gone tick).1),(⟨aV,(gone.length:Int),(Bj_ x gone tick).2⟩:Ak_))
 else lt (Ab_ x.x.C_ r.1 r.2.1.id) λr1=>
 C5_ tick f2 (gone++[(⟨r.1,r.2.1⟩:Er_)]) (⟨(⟨x.x.book,r1.1,x.x.notes,x.x.seen,x.x.spent⟩:Aq_),x.L_,x.place⟩:E_))
def Eu_(s:E_)(tick:Int):E_×Ak_:=
 C5_ tick (nik s.x.C_+1) [] s
def Cv_(s:E_)(d:T_):E_×Ak_×Int:=
 (bif decide ((s.L_.places.length:Int)<=d.frm) then
 (s,aP,10)
 else (bif ((!(Bs_ s.L_ d.frm s.place))&&(decide ((S_ s.L_ d.frm s.place)<0))) then
 (s,aP,11)
 else (bif decide (d.number<=(A16.get s.x.seen ((d.frm).toNat))) then
 (s,aP,13)
 else (lt1 ((bif !(Bs_ s.L_ d.frm s.place) then
 lt (A8_ (⟨(⟨s.x.book,s.x.C_,s.x.notes,(A16.set s.x.seen d.number ((d.frm).toNat)),s.x.spent⟩:Aq_),s.L_,s.place⟩:E_) d.tick 2 ((gt s.L_.places ((d.frm).toNat)).name)) λr=>
 r
 else (⟨(⟨s.x.book,s.x.C_,s.x.notes,(A16.set s.x.seen d.number ((d.frm).toNat)),s.x.spent⟩:Aq_),s.L_,s.place⟩:E_))) (λx=>
 lt (K_ d.P_) λr1=>
 lt (Q_ x (⟨r1.id,r1.Al_,r1.key,r1.head,r1.body,r1.due,(A0 .u8 (r1.hops+1))⟩:Mail) d.tick) λr2=>
 (bif ((decide (4<(A0 .u8 (r1.hops+1))))||(!decide (r2.2.2.2=0))) then
 lt (A8_ x d.tick 1 r1.Al_) λr3=>
 (r3,(⟨aV,0,1⟩:Ak_),0)
 else (((Bj_ r2.1 r2.2.1 d.tick).1),(⟨aV,r2.2.2.1,(Bj_ r2.1 r2.2.1 d.tick).2⟩:Ak_),0)))))))
def D8_(s:E_)(d:T_):E_×Ak_×Int:=
 lt (K_ d.P_) λr=>
 lt (Q_ s r d.tick) λr1=>
 (bif !decide (r1.2.2.2=0) then
 (s,aP,r1.2.2.2)
 else (((Bj_ (r1.1) r1.2.1 d.tick).1),(⟨aV,r1.2.2.1,(Bj_ (r1.1) r1.2.1 d.tick).2⟩:Ak_),0))
def Z_(s:E_)(d:T_):E_×Ak_×Int:=
 (bif !decide ((Dl_ d)=0) then
 (s,aP,Dl_ d)
 else (lt3 ((lt1 ((bif decide (d.kind=2) then
 (decide (d.kind=2))
 else (decide (d.kind=3)))) (λv=>
 (bif v then
 lt (Bq_ s d) λr=>
 (r.2,r.1,aP)
 else (bif decide (d.kind=6) then
 lt (D8_ s d) λr1=>
 (r1.2.2,r1.1,r1.2.1)
 else (bif decide (d.kind=7) then
 lt (Db_ s d) λr2=>
 (r2.2.2,r2.1,r2.2.1)
 else (bif decide (d.kind=8) then
 lt (Cg_ s d) λr3=>
 (r3.2.2,r3.1,r3.2.1)
 else (bif decide (d.kind=9) then
 lt (Eu_ s d.tick) λr4=>
 (0,r4.1,r4.2)
 else (bif decide (d.kind=10) then
 lt (Cv_ s d) λr5=>
 (r5.2.2,r5.1,r5.2.1)
 else (bif decide (d.kind=11) then
 lt (Da_ s.x.C_) λr6=>
 lt (A8_ (⟨(⟨s.x.book,r6,s.x.notes,s.x.seen,s.x.spent⟩:Aq_),s.L_,s.place⟩:E_) d.tick 3 []) λr7=>
 (0,r7,aP)
 else (bif decide (d.kind=12) then
 lt (Cn_ s.x.notes (⟨d.tick,d.code,d.text⟩:D2_)) λr8=>
 (r8.2,(⟨(⟨s.x.book,s.x.C_,r8.1,s.x.seen,s.x.spent⟩:Aq_),s.L_,s.place⟩:E_),aP)
 else lt (Ao_ s d) λr9=>
 (r9.2,r9.1,aP)))))))))))) (λe_1 x x1=>
 (bif !decide (e_1=0) then
 (s,aP,e_1)
 else (x,x1,0)))))
theorem Wp_(tick:Int):∀ (f:Nat) (gone:List Er_) (lost:Int) (x:E_),Wd_ gone lost x->wtk x.x.C_+wto gone<f->StOk (Bt_ tick f gone lost x).1
 |0,_,_,_,_,h=>by omega
 |f+1,gone,lost,x,hI,hf=>by
   unfold Bt_ lt
   let Q:E_×Int->Prop:=λr=>StOk r.1
   refine bt (P:=Q) (λe=>?_) λ_=>hI.1
   have hn:0<gone.length:=by simpa using e
   refine bt (P:=Q) (λ_=>Wp_ tick f _ _ _ (S0_ hI hn) (Vz_ hn hf)) λ_=>?_
   have hm:MlOk (gt gone 0).P_:=hI.2.1 _ (Gw_ hn)
   refine bt (P:=Q) (λ_=>?_) λe4=>?_
   . have h:=Ko_ (s:=x) (t:=tick) (k:=1) (x:=(gt gone 0).queue) hI.1
     exact Wp_ tick f _ _ _ (Va_ hI h.1 h.2 hn) (Z7_ h.2 hn hf)
   . simp only[AY,decide_eq_false_iff_not,BF,decide_eq_true_eq] at e4
     have hs:=Lt_ (s:=x) (m:=⟨(K_ (gt gone 0).P_).id,(Aj_ x.x.C_ (gt gone 0).queue).1.dead,(K_ (gt gone 0).P_).key,(K_ (gt gone 0).P_).head,(K_ (gt gone 0).P_).body,0,A0 .u8 ((K_ (gt gone 0).P_).hops+1)⟩) (tick:=tick) hI.1 Nq_
     exact Wp_ tick f _ _ _ (Vb_ hI hs.1 hs.2.1 hn Y hm e4.1 hs.2.2 Y e4.2) (W4_ hn hf Y hm e4.1 hs.2.2 Y e4.2)
theorem bury_ok{s:E_}{gone:List Er_}{tick:Int}(h:StOk s)(hg:gone.length<=600/\∀ g∈gone,MlOk g.P_):StOk (Bj_ s gone tick).1:=
 Wp_ tick _ gone 0 s (buryI0 h hg) (C2 _)
theorem settle_ok{s:E_}{d:T_}(h:StOk s):StOk (Cg_ s d).1:=by
 unfold Cg_ lt;let Q:E_×Ak_×Int->Prop:=λr=>StOk r.1;refine bt (P:=Q) (λ_=>h) λ_=>bt (P:=Q) (λ_=>Co_ h (kback_ok h.stk)) λ_=>have hr:=Iq_ (n:=d.name) (id:=d.id) h.stk;bt (P:=Q) (λ_=>bury_ok (Co_ h hr.1) ⟨by simp,λg hg=>?_⟩) λ_=>Co_ h hr.1;rw[List.mem_singleton.1 hg];exact hr.2
theorem late_ok0(t:Int):∀ (f:Nat) (gone:List Er_) (x:E_),StOk x->(∀ g∈gone,MlOk g.P_)->gone.length+nik x.x.C_<=512->nik x.x.C_<f->StOk (C5_ t f gone x).1
 |0,_,_,_,_,_,h=>by omega
 |f+1,gone,x,h,hg,hl,hf=>by
   unfold C5_ lt
   let Q:E_×Ak_->Prop:=λr=>StOk r.1
   refine bt (P:=Q) (λ_=>bury_ok h ⟨by omega,hg⟩) λe=>?_
   have e':(Aw_ x.x.C_ t).2.2=true:=by simpa using e
   have hr:=Iq_ (n:=(Aw_ x.x.C_ t).1) (id:=(Aw_ x.x.C_ t).2.1.id) h.stk
   refine late_ok0 t f _ _ (Co_ h hr.1) (λg q=>?_) (X9_ h.stk Y e' Y hl) (Ya_ h.stk Y e' Y hf)
   rcases List.mem_append.1 q with q|q
   . exact hg g q
   . rw[List.mem_singleton.1 q];exact T5_ h.stk
theorem late_ok{s:E_}{t:Int}(h:StOk s):StOk (Eu_ s t).1:=
 late_ok0 t _ [] s h (λ_ h=>by cases h) mD (C2 _)
theorem put_ok{s:E_}{d:T_}(h:StOk s)(hd:DdOk d)(h0:0<=d.P_.hops):StOk (D8_ s d).1:=by
 unfold D8_ lt;let Q:E_×Ak_×Int->Prop:=λr=>StOk r.1;have hs:=Lt_ (s:=s) (m:=K_ d.P_) (tick:=d.tick) h h0;have hl:=Mv_ (s:=s) (m:=K_ d.P_) (tick:=d.tick) h;exact bt (P:=Q) (λ_=>h) λ_=>bury_ok hs.1 ⟨by omega,hs.2.1⟩
theorem pull_ok{s:E_}{d:T_}(h:StOk s)(hd:DdOk d):StOk (Cv_ s d).1:=by
 unfold Cv_ lt;let Q:E_×Ak_×Int->Prop:=λr=>StOk r.1;refine bt (P:=Q) (λ_=>h) λ_=>bt (P:=Q) (λ_=>h) λ_=>bt (P:=Q) (λ_=>h) λ_=>lt1E (P:=Q) StOk ?_ λx hx=>?_;exact bt (P:=StOk) (λ_=>(Ko_ (Eg_ h)).1) λ_=>Eg_ h;exact bt (P:=Q) (λ_=>(Ko_ hx).1) λ_=>have hs:=Lt_ (s:=x) (m:=⟨(K_ d.P_).id,(K_ d.P_).Al_,(K_ d.P_).key,(K_ d.P_).head,(K_ d.P_).body,(K_ d.P_).due,A0 .u8 ((K_ d.P_).hops+1)⟩) (tick:=d.tick) hx Nq_;have hl:=Mv_ (s:=x) (m:=⟨(K_ d.P_).id,(K_ d.P_).Al_,(K_ d.P_).key,(K_ d.P_).head,(K_ d.P_).body,(K_ d.P_).due,A0 .u8 ((K_ d.P_).hops+1)⟩) (tick:=d.tick) hx;bury_ok hs.1 ⟨by omega,hs.2.1⟩
theorem lt3E{σ τ ρ β:Type}{P:β->Prop}{o:σ×τ×ρ}{f:σ->τ->ρ->β}(I:σ×τ×ρ->Prop)(ho:I o)(hf:∀ a b c,I (a,b,c)->P (f a b c)):P (lt3 o f):=hf _ _ _ ho
theorem do_ok{s:E_}{d:T_}(h:StOk s)(hd:DdOk d)(h0:0<=d.P_.hops):StOk (Z_ s d).1:=by
 unfold Z_ lt;let Q:E_×Ak_×Int->Prop:=λr=>StOk r.1;refine bt (P:=Q) (λ_=>h) λ_=>?_;let I:Int×E_×Ak_->Prop:=λr=>StOk r.2.1;refine lt3E (P:=Q) I ?_ λa b c hb=>bt (P:=Q) (λ_=>h) λ_=>hb;exact lt1E (P:=I) (λ_=>True) Z λv _=>bt (P:=I) (λ_=>queues_ok h) λ_=>bt (P:=I) (λ_=>put_ok h hd h0) λ_=>bt (P:=I) (λ_=>(lend_ok h).1) λ_=>bt (P:=I) (λ_=>settle_ok h) λ_=>bt (P:=I) (λ_=>late_ok h) λ_=>bt (P:=I) (λ_=>pull_ok h hd) λ_=>bt (P:=I) (λ_=>(Ko_ (Co_ h (kwake_ok h.stk))).1) λ_=>bt (P:=I) (λ_=>⟨⟨h.1.1,h.1.2.1,nadd_len h.1.2.2.1,h.1.2.2.2⟩,h.2⟩) λ_=>shops_ok h hd
instance{σ ρ:Type}[Inhabited ρ]:Inhabited (Lo σ ρ):=⟨.ret default⟩
theorem has_fd(a:Dc_)(i:Int)(h:0<=a.Td_):0<=a.Td_.fdiv (2 ^ min i.toNat IntKind.u32.bits):=
 Int.fdiv_nonneg h (Int.le_of_lt (Int.pow_pos qZ))
theorem poOk_l{p:H_}(h:PoOk p):p.places.length<=100000/\p.slots.length<=100000/\p.grants.length<=100000:=by
 have⟨_,h2,_,h4,h5,_⟩:=h;omega
def Mh_(a:Dc_)(i:Int):Bool:=
 (decide (((Int.fdiv a.Td_ (2 ^ (min (i:Int).toNat (AO .u32))))%2)=1))
def I5_(a:Dc_)(b:Dc_):Nat->Nat->Bool
 |0,_=>default
 | f2+1,i=>(bif decide ((i:Int)<32) then
 (bif ((Mh_ a (i:Int))&&(!(Mh_ b (i:Int)))) then
 false
 else I5_ a b f2 (i+1))
 else true)
def O3_(a:Dc_)(b:Dc_):Bool:=
 (bif decide (b.level<a.level) then
 false
 else I5_ a b (32-0+1) 0)
def I6_(y:Bn_):List Bn_->Lo Unit Int
 |[]=> .fin ()
 | x::t=>(bif ((decide ((x.name)=(y.name)))||(decide (x.label=y.label))) then
 .ret 9
 else I6_ y t)
def I7_(y1:Cc_):List Cc_->Lo Unit Int
 |[]=> .fin ()
 | x1::t1=>(bif ((decide ((x1.frm)=(y1.frm)))&&(decide ((x1.to')=(y1.to')))) then
 .ret 9
 else I7_ y1 t1)
def L8_(i:Nat):List Int->Bool->Lo Unit Int
 | [],has=>(bif !has then
 .ret 15
 else .fin ())
 |x2::t2,has=>L8_ i t2 (has||(decide (x2=(i:Int))))
def N3_(p:H_):Nat->Nat->Int
 |0,_=>default
 | f2+1,i=>(bif decide ((i:Int)<(p.places.length:Int)) then
 (lp0 (L8_ i p.slots false) (
 N3_ p f2 (i+1)) (λr=>r))
 else 0)
def H3_(p:H_):List Cc_->Nat->Int
 |[],k3=>N3_ p (p.places.length-0+1) 0
 | x3::t3,k3=>(lp0 ((bif ((((decide ((x3.frm)<0))||(decide ((p.places.length:Int)<=(x3.frm))))||(decide ((x3.to')<0)))||(decide ((p.places.length:Int)<=(x3.to')))) then
 .ret 10
 else (bif (O3_ ((gt p.places ((x3.frm).toNat)).label) ((gt p.places ((x3.to').toNat)).label)) then
 .ret 11
 else (bif ((decide ((x3.budget)<0))||(decide (16<(x3.budget)))) then
 .ret 7
 else I7_ x3 (p.grants.take k3))))) (
 H3_ p t3 (k3+1)) (λr=>r))
def Hh_(p:H_):List Int->Int
 | []=>(bif decide (8<(p.grants.length:Int)) then
 6
 else H3_ p p.grants 0)
 | x4::t4=>(bif ((decide (x4<0))||(decide ((p.places.length:Int)<=x4))) then
 10
 else Hh_ p t4)
def H2_(p:H_):List Bn_->Nat->Int
 | [],k=>(bif decide ((p.slots.length:Int)=0) then
 15
 else (bif decide (32<(p.slots.length:Int)) then
 6
 else Hh_ p p.slots))
 | x5::t5,k=>(lp0 ((bif !decide ((C6_ (x5.name))=0) then
 .ret (C6_ (x5.name))
 else (bif ((((decide (15<(x5.label.level)))||(decide ((x5.bytes)<0)))||(decide (65536<(x5.bytes))))||(decide ((x5.base)=0))) then
 .ret 7
 else I6_ x5 (p.places.take k)))) (
 H2_ p t5 (k+1)) (λr=>r))
def Uo_(p:H_):Int:=
 (bif ((((decide (p.work<1))||(decide (16<p.work)))||(decide (p.give<1)))||(decide (16<p.give))) then
 7
 else (bif decide ((p.places.length:Int)=0) then
 15
 else (bif decide (16<(p.places.length:Int)) then
 6
 else H2_ p p.places 0)))
def O4_(p:H_)(tick:Int):Int:=
 ((A0 .u64 (tick-(tick%(p.slots.length:Int))))/(p.slots.length:Int))
def l23_At(p:H_)(n:Int):Int:=
 (n%(p.places.length:Int))
def I4_:List Bn_->Bool
 |[]=>true
 | x::t=>(bif decide (40<((x.name).length:Int)) then
 false
 else I4_ t)
def Ot_(p:H_):Bool:=
 (bif (((decide (20<(p.places.length:Int)))||(decide (40<(p.slots.length:Int))))||(decide (10<(p.grants.length:Int)))) then
 false
 else I4_ p.places)
def L2_:List Cc_->Int->Int->List Bn_->List Int->List Cc_->H_
 |[],work1,give_1,places1,slots1,grants1=>(⟨work1,give_1,places1,slots1,grants1⟩:H_)
 |x::t,work1,give_1,places1,slots1,grants1=>L2_ t work1 give_1 places1 slots1 (grants1++[x])
def L1_(p:H_):List Bn_->Int->Int->List Bn_->List Int->List Cc_->H_
 |[],work,give_,places,slots,grants=>L2_ p.grants work give_ places (slots++p.slots) grants
 |x1::t1,work,give_,places,slots,grants=>L1_ p t1 work give_ (places++[x1]) slots grants
def Gj_(p:H_):H_:=
 L1_ p p.places p.work p.give [] [] []
theorem l05_light{p:H_}(h:Ot_ p=true):p.places.length<=100000/\p.slots.length<=100000/\p.grants.length<=100000:=by
 unfold Ot_ at h
 cases e:(decide (20<(p.places.length:Int)) || decide (40<(p.slots.length:Int)) || decide (10<(p.grants.length:Int))) with
 |true=>rw[e] at h;cases h
 |false=>
   simp only[AY,decide_eq_false_iff_not] at e
   omega
def Oe_(p:H_):Bool:=
 ((Ot_ p)&&(decide ((Uo_ (Gj_ p))=0)))
theorem riOk_nil:RiOk ⟨0,[]⟩:=⟨Nat.zero_le _,λ_ h=>by cases h⟩
theorem plen05:plen [119,111,114,107,32,52,10,103,105,118,101,32,49,10,108,97,98,101,108,32,108,111,119,32,48,32,53,49,50,32,49,10,115,108,111,116,32,108,111,119]=true:=by decide +kernel
theorem rput_ne{x:Az_}{m:Mail}(h:x.total=0\/0<x.kept.length):(Bw_ x m).1.total=0\/0<(Bw_ x m).1.kept.length:=by
 unfold Bw_ lt;grind
theorem knew_ok(b n:Int)(h:n<=1000000):StkOk (Cf_ b n):=by
 refine⟨⟨by simp[Cf_],by simp[Cf_],by simp[Cf_]⟩,λi hi=>?_,?_,?_⟩;have :(Cf_ b n).rises.get i=⟨0,[]⟩:=by
   unfold Cf_ A16.get
   grind
 rw[this];exact riOk_nil;show 0<=max 0 n;omega;show max 0 n<=1000000;omega
def poB(p:H_):Bool:=decide (0<p.places.length) && decide (p.places.length<=16) && decide (0<p.slots.length) && decide (p.slots.length<=32) && decide (p.grants.length<=8)&&(p.grants.all λg=>decide (0<=g.frm) && decide (g.frm<p.places.length) && decide (0<=g.to') && decide (g.to'<p.places.length) && decide (0<=g.budget) && decide (g.budget<=16))&&p.places.all λx=>decide (0<=x.bytes) && decide (x.bytes<=65536)
theorem Qb_{p:H_}(h:poB p=true:=by exact pN):PoOk p:=by
 simp only[poB,CC,A3,decide_eq_true_eq] at h;have⟨⟨⟨⟨⟨⟨h1,h2⟩,h3⟩,h4⟩,h5⟩,h6⟩,h7⟩:=h;exact⟨h1,h2,h3,h4,h5,λg hg=>by have :=h6 g hg;omega,h7⟩
def ddB(l:List T_):Bool:=l.all λd=>decide (d.bind.key.length<=1000) && decide (d.bind.want.length<=1000) && decide (d.P_.head.length<=1000) && decide (d.P_.key.length<=1000) && decide (0<=d.P_.hops)
theorem ddB_ok{l:List T_}(h:ddB l=true):∀ d∈l,DdOk d/\0<=d.P_.hops:=λd hd=>by
 simp only[ddB,CC,A3,decide_eq_true_eq] at h
 have :=h d hd
 exact⟨⟨this.1.1.1.1,this.1.1.1.2,this.1.1.2,this.1.2⟩,this.2⟩
theorem dd1{d:T_}(h:ddB [d]=true):DdOk d:=(ddB_ok h d B8).1
theorem s23_mem0(l0:List T_):∀ {l:List T_} {d:T_},Gu_ l0 l=true->d∈l->Ud_ d=true
 |[],d,_,hd=>by simp at hd
 |x::l,d,h,hd=>by
   simp only[Gu_] at h
   cases e:Ud_ x with
   |false=>rw[e] at h;cases h
   |true=>
     rw[e] at h
     rcases List.mem_cons.1 hd with rfl|q
     . exact e
     . exact s23_mem0 l0 h q
theorem s23_len0(l0:List T_):∀ {l:List T_},Gu_ l0 l=true->l0.length<=40
 |[],h=>by simp[Gu_] at h;omega
 |x::l,h=>by
   simp only[Gu_] at h
   cases e:Ud_ x with
   |false=>rw[e] at h;cases h
   |true=>rw[e] at h;exact s23_len0 l0 h
def DdA(l:List T_):Prop:=(∀ d∈l,DdOk d)/\l.length<=40
theorem l23_dd{l:List T_}(h:Ou_ l=true):DdA l:=⟨λd hd=>by
 have e:=s23_mem0 _ h hd
 have h1:=lightD_len d e
 simp only[Ud_,A3,decide_eq_true_eq] at e
 have h2:=Yc_ h1.2.2.2
 refine⟨by omega,by omega,by omega,by omega⟩,s23_len0 _ h⟩
theorem dd_mem{l:List T_}{k:Nat}{d:T_}(h:DdA l)(hd:l[k]? = some d):DdOk d:=h.1 d (A1 hd)
theorem at_r(p:H_)(n:Int)(h:0<p.places.length):0<=l23_At p n/\l23_At p n<p.places.length:=
 ⟨Int.emod_nonneg _ qX,Int.emod_lt_of_pos _ qX⟩
theorem to_eq1:∀ (l:List Cc_) (w g:Int) (p:List Bn_) (s:List Int) (o:List Cc_),L2_ l w g p s o=⟨w,g,p,s,o++l⟩
 |[],w,g,p,s,o=>by simp[L2_]
 |x::l,w,g,p,s,o=>by simp[L2_,to_eq1 l]
theorem to_eq0(q:H_):∀ (l:List Bn_) (w g:Int) (p:List Bn_) (s:List Int) (o:List Cc_),L1_ q l w g p s o=⟨w,g,p++l,s++q.slots,o++q.grants⟩
 |[],w,g,p,s,o=>by simp[L1_,to_eq1]
 |x::l,w,g,p,s,o=>by simp[L1_,to_eq0 q l]
theorem to_eq(p:H_):Gj_ p=p:=by simp[Gj_,to_eq0]
theorem chk1(y:Bn_):∀ l:List Bn_,LoP (λ_=>True) (λr:Int=>r≠0) (I6_ y l)
 |[]=>trivial
 |x::l=>by
   unfold I6_
   exact bt (P:=LoP _ _) (λ_=>by show (9:Int)≠0;decide) λ_=>chk1 y l
theorem chk4(y:Cc_):∀ l:List Cc_,LoP (λ_=>True) (λr:Int=>r≠0) (I7_ y l)
 |[]=>trivial
 |x::l=>by
   unfold I7_
   exact bt (P:=LoP _ _) (λ_=>by show (9:Int)≠0;decide) λ_=>chk4 y l
theorem lp0Z{σ:Type}{I:Prop}{o:Lo Unit Int}{f:Int}(h:lp0 o f (λr=>r)=0)(ho:LoP (λ_=>I) (λr:Int=>r≠0) o):I/\f=0:=by
 cases o with
 |fin u=>exact⟨ho,h⟩
 |ret r=>exact absurd h ho
theorem LoP.imp{σ ρ:Type}{I J:σ->Prop}{R:ρ->Prop}{o:Lo σ ρ}(h:LoP I R o)(k:∀ s,I s->J s):LoP J R o:=by
 cases o with
 |fin s=>exact k s h
 |ret r=>exact h
theorem chk3(p:H_):∀ (l:List Cc_) (k:Nat),H3_ p l k=0->∀ g∈l,0<=g.frm/\g.frm<p.places.length/\0<=g.to'/\g.to'<p.places.length/\0<=g.budget/\g.budget<=16
 |[],_,_,_,h=>by cases h
 |x::l,k,h,g,hg=>by
   unfold H3_ at h
   have⟨hx,h2⟩:=lp0Z (σ:=Unit) (I:=0<=x.frm/\x.frm<p.places.length/\0<=x.to'/\x.to'<p.places.length/\0<=x.budget/\x.budget<=16) h (by
     refine bt (P:=LoP _ _) (λ_=>by show (10:Int)≠0;decide) λe=>?_
     refine bt (P:=LoP _ _) (λ_=>by show (11:Int)≠0;decide) λ_=>?_
     refine bt (P:=LoP _ _) (λ_=>by show (7:Int)≠0;decide) λe2=>?_
     simp only[AY,decide_eq_false_iff_not] at e e2
     exact (chk4 x _).imp λ_ _=>⟨by omega,by omega,by omega,by omega,by omega,by omega⟩)
   rcases List.mem_cons.1 hg with rfl|q
   . exact hx
   . exact chk3 p l (k+1) h2 g q
theorem chk2(p:H_):∀ l:List Int,Hh_ p l=0->p.grants.length<=8/\H3_ p p.grants 0=0
 |[],h=>by
   unfold Hh_ at h
   cases e:decide (8<(p.grants.length:Int)) with
   |true=>rw[e] at h;cases h
   |false=>rw[e] at h;simp only[decide_eq_false_iff_not] at e;exact⟨by omega,h⟩
 |x::l,h=>by
   unfold Hh_ at h
   cases e:(decide (x<0) || decide ((p.places.length:Int)<=x)) with
   |true=>rw[e] at h;cases h
   |false=>rw[e] at h;exact chk2 p l h
theorem chk0(p:H_):∀ (l:List Bn_) (k:Nat),H2_ p l k=0->(∀ x∈l,0<=x.bytes/\x.bytes<=65536)/\0<p.slots.length/\p.slots.length<=32/\Hh_ p p.slots=0
 |[],k,h=>by
   unfold H2_ at h
   cases e:decide ((p.slots.length:Int)=0) with
   |true=>rw[e] at h;cases h
   |false=>
     rw[e] at h
     cases e2:decide (32<(p.slots.length:Int)) with
     |true=>rw[e2] at h;cases h
     |false=>
       rw[e2] at h
       simp only[decide_eq_false_iff_not] at e e2
       exact⟨λ_ hx=>by (cases hx),by omega,by omega,h⟩
 |x::l,k,h=>by
   unfold H2_ at h
   have⟨hx,h2⟩:=lp0Z (σ:=Unit) (I:=0<=x.bytes/\x.bytes<=65536) h (by
     refine bt (P:=LoP _ _) (λe=>?_) λ_=>?_
     . show C6_ x.name≠0
       simpa using e
     refine bt (P:=LoP _ _) (λ_=>by show (7:Int)≠0;decide) λe=>?_
     simp only[AY,decide_eq_false_iff_not] at e
     exact (chk1 x _).imp λ_ _=>⟨by omega,by omega⟩)
   have⟨h3,h4⟩:=chk0 p l (k+1) h2
   exact⟨λy hy=>by rcases List.mem_cons.1 hy with rfl|q;exact hx;exact h3 y q,h4⟩
theorem l05_ok{p:H_}(h:Oe_ p=true):PoOk p:=by
 simp only[Oe_,A3,decide_eq_true_eq,to_eq] at h;have h1:=h.2;unfold Uo_ at h1
 cases e0:(decide (p.work<1) || decide (16<p.work) || decide (p.give<1) || decide (16<p.give)) with
 |true=>rw[e0] at h1;cases h1
 |false=>
   rw[e0] at h1
   cases e1:decide ((p.places.length:Int)=0) with
   |true=>rw[e1] at h1;cases h1
   |false=>
     rw[e1] at h1
     cases e2:decide (16<(p.places.length:Int)) with
     |true=>rw[e2] at h1;cases h1
     |false=>
       rw[e2] at h1
       simp only[decide_eq_false_iff_not] at e1 e2
       have⟨a1,a2,a3,a4⟩:=chk0 p p.places 0 h1
       have⟨b1,b2⟩:=chk2 p p.slots a4
       exact⟨by omega,by omega,a2,a3,b1,chk3 p p.grants 0 b2,a1⟩
theorem l05_may{p:H_}(h:Oe_ p=true):PoOk p/\0<p.places.length/\p.places.length<=16/\0<p.slots.length/\p.slots.length<=32/\p.grants.length<=8:=by
 have q:=l05_ok h;have⟨h1,h2,h3,h4,h5,_⟩:=id q;grind
theorem l23_ddl{l:List T_}(h:Ou_ l=true):DdA l/\l.length<=40:=⟨l23_dd h,(l23_dd h).2⟩
variable{P:Program}{n:Nat}{N:Rest}{H0:Env}{all rest:List Oper}{Q:Qs}{ks:List Kt}{fF:Nat->PV}{fL:Nat->Blk}{T ty d:Nat}{pos:String}{af:Array Edge}{x y z:Operand}{K:St->Prop}
noncomputable def allH(H:Hp)(L:Ls):Hp:=λb=>open Classical in if h:∃ o i,L i=some (b,o) then some h.choose else H b
theorem allH_own{N:Rest}{H:Hp}{L:Ls}{w:World}(hm:Mem N H L w){i b:Nat}{o:Obj}(h:L i=some (b,o)):allH H L b=some o:=by
 have he:∃ o i,L i=some (b,o):=⟨o,i,h⟩;unfold allH;rw[dif_pos he];have⟨j,hj⟩:=he.choose_spec;have :=hm.ll i j b o _ h hj;grind
theorem allH_le{N:Rest}{H:Hp}{L:Ls}{w:World}(hm:Mem N H L w):HLe H (allH H L):=λb o h=>by
 unfold allH
 split
 . rename_i he
   have⟨o',i,hi⟩:=he
   have :=(hm.nl i b o' hi).2
   rw[h] at this;cases this
 . exact h
theorem mem_lend{N:Rest}{H:Hp}{L:Ls}{w:World}(hm:Mem N H L w):Mem N (allH H L) (λ_=>none) w:=by
 refine⟨hm.os,hm.tape,hm.output,hm.n,λb o h=>?_,(λ_ _ _ h=>by cases h),λb o h=>?_,(λ_ _ _ h=>by cases h),(λ_ _ _ _ _ h=>by cases h)⟩
 . unfold allH at h
   split at h
   . rename_i he
     cases h
     have⟨j,hj⟩:=he.choose_spec
     exact hm.l _ _ _ hj
   exact hm.h b o h
 . unfold allH
   split
   . rename_i he
     have⟨o',i,hi⟩:=he
     have :=(hm.nl i b o' hi).1
     grind
   exact hm.nh b o h
theorem mem_lent{N:Rest}{H H':Hp}{L:Ls}{w w':World}(hm:Mem N H L w)(hl:HLe (allH H L) H')(hm':Mem N H' (λ_=>none) w'):Mem N H L w':=
 ⟨hm'.os,hm'.tape,hm'.output,hm'.n,λb o h=>hm'.h b o (hl b o (allH_le hm b o h)),λi b o h=>hm'.h b o (hl b o (allH_own hm h)),hm.nh,hm.nl,hm.ll⟩
inductive LentL(sL:Nat->Blk):List PV->List PV->Prop
 |nil:LentL sL [] []
 |same (p:PV) {ps qs:List PV} (h:LentL sL ps qs):LentL sL (p::ps) (p::qs)
 |lend (j:Nat) {α:Type} {u:Value} {k e:Nat} {enc:α->List PV} {xs:List α} {ps qs:List PV} (hj:sL j = .arr u k e enc xs) (h:LentL sL ps qs):LentL sL (.usl u::ps) (.sl enc xs::qs)
 |agg {ps qs rs ss:List PV} (h1:LentL sL ps qs) (h:LentL sL rs ss):LentL sL (.agg ps::rs) (.agg qs::ss)
theorem LentL.sims{sL:Nat->Blk}{H H':Hp}{L:Ls}(hl:HLe H H')(ho:∀ i b o,L i=some (b,o)->H' b=some o)(hb:∀ i,SimB sL H (sL i) (L i)){ps qs:List PV}(h:LentL sL ps qs):∀ {vs:List Value},Sims H ps vs->Sims H' qs vs:=by
 induction h with
 |nil=>intro vs hs;cases hs.inv_nil;exact Sims.nil
 |same p _ ih=>
   intro vs hs
   obtain⟨v,us,rfl,h1,h2⟩:=hs.inv_cons
   exact (ih h2).cons (h1.mono hl)
 |lend j hj _ ih=>
   intro vs hs
   obtain⟨v,us,rfl,h1,h2⟩:=hs.inv_cons
   have e:=h1.inv_usl.1
   subst e
   have hi:=hb j
   rw[hj] at hi
   have⟨cs,h3,h4,h5⟩:=hi
   exact (ih h2).cons (Sim.of_slh (slh_ownE Ma_ h3 (h4.mono Rc_ hl) λb o q=>ho j b o q) h5)
 |agg _ _ ih1 ih=>
   intro vs hs
   obtain⟨v,us,rfl,h1,h2⟩:=hs.inv_cons
   obtain⟨zs,rfl,h3⟩:=h1.inv_agg
   exact (ih h2).cons (Sim.toAgg (ih1 h3))
theorem ecallL{f:FuncId}{args args':List PV}{res:PV}{as0:Array Operand}{ats:Array TypeId}(h:Fn P H0.g f args' res)(hf:res.flat=true)(ha:argsP fF x as0.toList=some (f,args))(hl:LentL fL args args')(hd:Nat.blt d n=true)
   (k:res.wf->K ⟨updp fF d res,fL⟩):E1 P n N H0 all ⟨some d, .call ⟨.value x,as0,ats⟩,ty,pos,af,none⟩ none ⟨fF,fL⟩ K:=by
 intro F H L hab a w hA hm;have⟨vs,h1,h2⟩:=Jk_ (ats:=ats) hab.f ha h.cb;have hle:=allH_le hm;have hs:=hl.sims hle (λi b o q=>allH_own hm q) hab.l h1;rw[if_pos pH];unfold BG;rw[hA.eval,h2];refine (h.run N (allH H L) _ w vs (H0.g.mono _ _ hle hab.g) hs (mem_lend hm)).mono λe' w' ⟨v,H',he,hv,hl',hm'⟩=>?_;subst he;exact⟨_,H,L,hA.put pI v,mem_lent hm hl' hm', .refl H,λ_ _=>rfl,_,hab.put d (Sim.simT (Sim.flat_any hf hv) h.no),k hv.wf⟩
theorem tie_le{α:Type}{i j o b T0 k e:Nat}{cs:List PV}{u:Value}{enc:α->List PV}{xs:List α}(hb:fL i = .box b T0 cs)(hj:fL j = .arr u k e enc xs)(ho:cs[o]? = some (.usl u)):StLe ⟨fF,fL⟩ ⟨fF,lups fL i (.box b T0 (cs.set o (.osl j)))⟩:=by
 intro H0 F H L ha;have hij:j≠i:=λq=>by rw[q,hb] at hj;cases hj
 have hp:∀ {p v},SimT fL H p v->SimT (lups fL i (.box b T0 (cs.set o (.osl j)))) H p v:=λ{p v} h=>by
   cases p with
   |osl q=>
     simp only[SimT] at h ⊢
     by_cases hq:q=i
     . subst hq;simp only[lups,GP,cond_true]
     . rw[Hp_ hq];exact h
   |_=>exact h
 refine⟨ha.le,ha.g,λt=>hp (ha.f t),λq=>?_⟩;have hq:SimB fL H (fL q) (L q):=ha.l q;by_cases e:q=i
 . subst e
   show SimB _ H (lups fL q _ q) (L q)
   rw[D5_]
   rw[hb] at hq
   have⟨vs,h1,h2,h3⟩:=hq
   refine⟨vs,h1,by simp[h2],λm p v hm hv=>?_⟩
   rw[CP] at hm
   split at hm
   . rename_i hom
     subst hom
     split at hm
     . cases hm
       have h4:=h3 _ _ _ ho hv
       have h5:v=u:=(Sim.inv_usl h4).1
       simp only[SimT]
       rw[Hp_ hij,hj]
       exact h5
     . cases hm
   grind
 . show SimB _ H (lups fL i _ q) (L q)
   rw[Hp_ e]
   have hq':SimB fL H (fL q) (L q):=hq
   generalize fL q=B at hq' ⊢
   cases B with
   |box b' T' cs'=>have⟨vs,h1,h2,h3⟩:=hq';exact⟨vs,h1,h2,λm p v hm hv=>hp (h3 m p v hm hv)⟩
   |_=>exact hq'
theorem bx_tie{α:Type}{i o b T0 k e:Nat}{cs:List PV}{u:Value}{enc:α->List PV}{xs:List α}(j:Nat)(hb:fL i = .box b T0 cs)(hj:fL j = .arr u k e enc xs)(ho:cs[o]? = some (.usl u))(kk:Hd P n N H0 Q (.ops all rest) ks ⟨fF,lups fL i (.box b T0 (cs.set o (.osl j)))⟩):Hd P n N H0 Q (.ops all rest) ks ⟨fF,fL⟩:=
 So.le (tie_le hb hj ho) kk
end Go.SW.V
namespace Go.SW.V
open Go.SW
variable{P:Program}{N:Rest}{H0:Env}{s:St}{T T' ty:TypeId}{x:Operand}
theorem qnilN{q:Array (String×TypeId)}(hx:evP s.F x = .val .nilIface)(hT:P.underlying T=some (.interface q)):Qy P N H0 s (.binOp .neq T x (.const .nilIface) T') ty (.bool false):=λF H L ha=>by
 have h1:=Dn_ ha.f x
 unfold Ok1 at h1
 rw[hx] at h1
 have h2:=h1.sim.inv_val
 have h:∀ d w,(Op.equalIn (d+1) T .nilIface .nilIface).run P w = .ok true w:=λd w=>by simp[Op.equalIn,run_underlying hT]
 exact⟨_,Sim.bool,λ_ _ _=>G0_ (b:= .nilIface) h2 Y (λw=>by simp[eqGuard]) λw=>by simp[binOp,Pg_ (h · w)]⟩
theorem qfA{cs ps:List PV}{fs:Array Field}{f:Field}{i k:Nat}(hx:evP s.F x = .agg cs)(hT:P.underlying T=some (.struct fs))(hf:fs[i]? = some f)(ha:Ag P f.type true)(hz:Sz P f.type k)(hc:(cs.drop f.offset).take k=ps):Qy P N H0 s (.field T x i) ty (.agg ps):=λF H L hab=>by
 have h1:=Dn_ hab.f x
 unfold Ok1 at h1
 rw[hx] at h1
 have⟨vs,hv,hs⟩:=h1.sim.inv_agg
 refine⟨.agg ((vs.drop f.offset).take k).toArray,hc ▸ Sim.toAgg ((hs.drop f.offset).take k),λH' L' _ d pos af g w _=>?_⟩
 have :=ha w
 have :=hz w
 simp[execOp,hv,Instr.field,run_underlying hT,hf,part,asAgg, *]
theorem inv_fn0{H:Hp}{f:FuncId}{v:Value}(h:Sim H (.fn f [] []) v):v = .func (.func f) #[] #[]:=by
 obtain⟨vs,us,rfl,h1,h2⟩:=h.inv_fn
 cases h1.inv_nil;cases h2.inv_nil
 rfl
end Go.SW.V
namespace Go.SW.V
open Go.SW
def L7_(s:Bs):(List Bs):=
 (flds s)
def L6_(n:Int)(least:Int)(most:Int):Int:=
 (bif decide (n<least) then
 15
 else (bif decide (most<n) then
 6
 else 0))
def Mr_(y:Bn_)(x1:Bn_):Bool:=
 ((decide (y.name=x1.name))||(decide (y.label=x1.label)))
def Mp_(y:Cc_)(x1:Cc_):Bool:=
 ((decide (y.frm=x1.frm))&&(decide (y.to'=x1.to')))
def Qq_(s:List Int)(v:Int):Bool:=
 lt (idxP (λy=>decide (v=y)) s) λr=>
 (decide (0<=r))
def Qp_:List Int->Int
 |[]=>0
 | x::t=>(bif !decide (x=0) then
 x
 else Qp_ t)
def cmp_Or(vals:List Int):Int:=
 Qp_ vals
def Kj_(a:Dc_):Bool:=
 (decide (a.level<=15))
def Ev_(s:Bs)(most:Int):Nat->Nat->Int->Int×Int
 |0,_,_=>default
 | f2+1,k1,n1=>(bif decide ((k1:Int)<(s.length:Int)) then
 (bif ((decide (((s.getD k1 0).toNat:Int)<48))||(decide (57<((s.getD k1 0).toNat:Int)))) then
 ((k1:Int),n1)
 else (bif decide (n1<=most) then
 Ev_ s most f2 (k1+1) ((10*n1)+(A0 .u8 (((s.getD k1 0).toNat:Int)-48)))
 else Ev_ s most f2 (k1+1) n1))
 else ((k1:Int),n1))
def Gv_(s:Bs)(most:Int):Int×Bs×Int:=
 (lt2 (Ev_ s most (s.length-0+1) 0 0) (λk n=>
 (bif ((decide (k=0))&&(decide ((s.length:Int)=0))) then
 (0,[],3)
 else (lt1 ((bif decide (k=0) then
 (decide (k=0))
 else ((decide (1<k))&&(decide (((s.getD 0 0).toNat:Int)=48))))) (λv=>
 (bif v then
 (0,[],4)
 else (bif decide (most<n) then
 (0,[],7)
 else (n,(s.drop (k).toNat),0))))))))
theorem plen_w{s l:Bs}{r:List Bs}(h:plen s=true)(hr:L7_ l=r)(hz:l.length<=65536/\(flds l).length<=65536/\∀ w∈flds l,0<w.length/\w.length<=19):∀ w∈r,0<w.length/\w.length<=19:=by
 subst hr;exact hz.2.2
theorem there_in{p:H_}{i:Int}(h:B2_ p i=true):0<=i/\i<p.places.length:=by
 simp only[B2_,D3_,A3,decide_eq_true_eq] at h;omega
theorem wrap8_r(z:Int):0<=IntKind.wrap .u8 z/\IntKind.wrap .u8 z<=255:=Ml_ .u8 z
theorem lnum_l(s:Bs)(most:Int):∀ (f k:Nat) (n:Int),0<=n->0<=(Ev_ s most f k n).2
 |0,_,_,_=>by simp[Ev_,default]
 |f+1,k,n,hn=>by
   unfold Ev_
   let Q:Int×Int->Prop:=λr=>0<=r.2
   refine bt (P:=Q) (λ_=>?_) λ_=>hn
   refine bt (P:=Q) (λ_=>hn) λ_=>?_
   refine bt (P:=Q) (λ_=>lnum_l s most f _ _ ?_) λ_=>lnum_l s most f _ _ hn
   have :=(wrap8_r (((s.getD k 0).toNat:Int)-48)).1
   omega
theorem lnum_r(s:Bs)(most:Int)(hm:0<=most/\most<=1000):0<=(Gv_ s most).1/\(Gv_ s most).1<=1000/\(Gv_ s most).2.1.length<=s.length:=by
 unfold Gv_;have h:=lnum_l s most (s.length-0+1) 0 0 (BM _);generalize Ev_ s most (s.length-0+1) 0 0=q at h ⊢;have⟨k,n⟩:=q;let Q:Int×Bs×Int->Prop:=λr=>0<=r.1/\r.1<=1000/\r.2.1.length<=s.length;have hno:∀ e:Int,Q (0,[],e):=λe=>⟨Int.le_refl _,by show (0:Int)<=1000;decide,B5 _⟩;show Q (bif _ then _ else _);refine bt (P:=Q) (λ_=>hno _) λ_=>lt1E (P:=Q) (λ_=>True) Z λv _=>bt (P:=Q) (λ_=>hno _) λ_=>bt (P:=Q) (λ_=>hno _) λe=>?_;simp only[decide_eq_false_iff_not] at e;exact⟨h,by show n<=1000;omega,by show (s.drop _).length<=_;rw[D5];omega⟩
def N1_(x:Bn_)(ahead:List Bn_):Int:=
 (bif !decide ((C6_ x.name)=0) then
 (C6_ x.name)
 else (lt1 ((bif !(Kj_ x.label) then
 (!(Kj_ x.label))
 else (bif !(D3_ x.bytes 0 65536) then
 (!(D3_ x.bytes 0 65536))
 else (decide (x.base=0))))) (λv=>
 (bif v then
 7
 else (bif decide (0<=idxP (λz_28:Bn_=>(Mr_ z_28 x)) ahead) then
 9
 else 0)))))
def Ia_(p:H_)(x:Cc_)(ahead:List Cc_):Int:=
 (bif !(B2_ p x.frm) then
 10
 else (bif !(B2_ p x.to') then
 10
 else (bif (Gn_ ((gt p.places ((x.frm).toNat)).label) ((gt p.places ((x.to').toNat)).label)) then
 11
 else (bif !(D3_ x.budget 0 16) then
 7
 else (bif decide (0<=idxP (λz_32:Cc_=>(Mp_ z_32 x)) ahead) then
 9
 else 0)))))
def Gq_(p:H_):Nat->Int->Nat->Int
 |0,_,_=>default
 | f2+1,e_1,i=>(bif ((decide (e_1=0))&&(decide ((i:Int)<(p.places.length:Int)))) then
 Gq_ p f2 (N1_ (gt p.places i) (p.places.take i)) (i+1)
 else e_1)
def Fl_(p:H_):Int:=
 lt (L6_ (p.places.length:Int) 1 16) λr=>
 Gq_ p (p.places.length+1-0+1) r 0
def Ft_(p:H_):Nat->Int->Nat->Int
 |0,_,_=>default
 | f2+1,e_1,i=>(bif ((decide (e_1=0))&&(decide ((i:Int)<(p.slots.length:Int)))) then
 (bif !(B2_ p (gt p.slots i)) then
 Ft_ p f2 10 (i+1)
 else Ft_ p f2 e_1 (i+1))
 else e_1)
def Fw_(p:H_):Int:=
 lt (L6_ (p.slots.length:Int) 1 32) λr=>
 Ft_ p (p.slots.length+1-0+1) r 0
def Gp_(p:H_):Nat->Int->Nat->Int
 |0,_,_=>default
 | f2+1,e_1,i=>(bif ((decide (e_1=0))&&(decide ((i:Int)<(p.grants.length:Int)))) then
 Gp_ p f2 (Ia_ p (gt p.grants i) (p.grants.take i)) (i+1)
 else e_1)
def Fk_(p:H_):Int:=
 lt (L6_ (p.grants.length:Int) 0 8) λr=>
 Gp_ p (p.grants.length+1-0+1) r 0
def Fr_(p:H_):List Bn_->Nat->Int
 |[],k=>0
 | x::t,k=>(bif !(Qq_ p.slots (k:Int)) then
 15
 else Fr_ p t (k+1))
def J3_(p:H_):Int:=
 (bif ((!(D3_ p.work 1 16))||(!(D3_ p.give 1 16))) then
 7
 else (bif !decide ((cmp_Or [(Fl_ p),(Fw_ p),(Fk_ p)])=0) then
 (cmp_Or [(Fl_ p),(Fw_ p),(Fk_ p)])
 else Fr_ p p.places 0))
def Im_(s:Bs)(most:Int):List UInt8->Int×Int
 | []=>(bif decide (most<(dec s:Int)) then
 (0,7)
 else ((dec s:Int),0))
 | x::t=>(bif ((decide ((x.toNat:Int)<48))||(decide (57<(x.toNat:Int)))) then
 (0,4)
 else Im_ s most t)
def Mq_(s:Bs)(most:Int):Int×Int:=
 (bif ((decide (s=[]))||((decide (1<(s.length:Int)))&&(decide (((s.getD 0 0).toNat:Int)=48)))) then
 (0,4)
 else Im_ s most s)
def F7_(s:Bs):Int×Int:=
 lt (Mq_ s 1048576) λr=>
 ((A0 .i64 r.1),r.2)
def Cr_(p:H_)(s:Bs):Int×Int:=
 lt (J_ p s) λr=>
 (bif decide (0<=r) then
 (r,0)
 else (0,10))
def Ju_:Nat->Bs->Int->Dc_->Dc_×Int
 |0,_,_,_=>default
 | f2+1,s1,last,x=>(bif decide (0<(s1.length:Int)) then
 (bif !decide (((s1.getD 0 0).toNat:Int)=58) then
 (bL,4)
 else lt (Gv_ (s1.drop 1) 31) λr1=>
 (bif !decide (r1.2.2=0) then
 (bL,r1.2.2)
 else (bif decide (r1.1<=last) then
 (bL,4)
 else Ju_ f2 r1.2.1 r1.1 (⟨x.level,(A0 .u32 ((AC (AO .u32) x.Td_ |||AC (AO .u32) (A0 .u32 (1*2 ^ (min (r1.1:Int).toNat (AO .u32))))).toNat))⟩:Dc_))))
 else (x,0))
def Jf_(s:Bs):Dc_×Int:=
 lt (Gv_ s 15) λr=>
 (bif !decide (r.2.2=0) then
 (bL,r.2.2)
 else Ju_ (r.2.1.length+1) r.2.1 (-1) (⟨(A0 .u8 r.1),0⟩:Dc_))
def Ce_:List Bs->Nat->Int->Int->List Bn_->List Int->List Cc_->H_×Int×Int
 |[],k,work,give_,places,slots,grants=>lt (J3_ (⟨work,give_,places,slots,grants⟩:H_)) λr16=>
 (bif !decide (r16=0) then
 (aT,0,r16)
 else ((⟨work,give_,places,slots,grants⟩:H_),0,0))
 |x::t,k,work,give_,places,slots,grants=>lt (L7_ x) λr=>
 (bif ((decide ((r.length:Int)=0))||(decide ((((gt r 0).getD 0 0).toNat:Int)=35))) then
 Ce_ t (k+1) work give_ places slots grants
 else (bif decide ((gt r 0)=[108,97,98,101,108]) then
 (bif !decide ((r.length:Int)=5) then
 (aT,((k:Int)+1),4)
 else (bif decide ((gt r 0)=[119,111,114,107]) then
 lt (F7_ (gt r 1)) λr1=>
 (bif !decide (r1.2=0) then
 (aT,((k:Int)+1),r1.2)
 else Ce_ t (k+1) r1.1 give_ places slots grants)
 else (bif decide ((gt r 0)=[103,105,118,101]) then
 lt (F7_ (gt r 1)) λr2=>
 (bif !decide (r2.2=0) then
 (aT,((k:Int)+1),r2.2)
 else Ce_ t (k+1) work r2.1 places slots grants)
 else (bif decide ((gt r 0)=[115,108,111,116]) then
 lt (Cr_ (⟨work,give_,places,slots,grants⟩:H_) (gt r 1)) λr3=>
 (bif !decide (r3.2=0) then
 (aT,((k:Int)+1),r3.2)
 else Ce_ t (k+1) work give_ places (slots++[r3.1]) grants)
 else lt (Jf_ (gt r 2)) λr4=>
 (bif !decide (r4.2=0) then
 (aT,((k:Int)+1),r4.2)
 else lt (F7_ (gt r 3)) λr5=>
 (bif !decide (r5.2=0) then
 (aT,((k:Int)+1),r5.2)
 else lt (Mq_ (gt r 4) 18446744073709551615) λr6=>
 (bif !decide (r6.2=0) then
 (aT,((k:Int)+1),r6.2)
 else Ce_ t (k+1) work give_ (places++[(⟨(gt r 1),r4.1,r5.1,r6.1⟩:Bn_)]) slots grants)))))))
 else (bif decide ((gt r 0)=[103,114,97,110,116]) then
 (bif !decide ((r.length:Int)=4) then
 (aT,((k:Int)+1),4)
 else (bif decide ((gt r 0)=[119,111,114,107]) then
 lt (F7_ (gt r 1)) λr7=>
 (bif !decide (r7.2=0) then
 (aT,((k:Int)+1),r7.2)
 else Ce_ t (k+1) r7.1 give_ places slots grants)
 else (bif decide ((gt r 0)=[103,105,118,101]) then
 lt (F7_ (gt r 1)) λr8=>
 (bif !decide (r8.2=0) then
 (aT,((k:Int)+1),r8.2)
 else Ce_ t (k+1) work r8.1 places slots grants)
 else (bif decide ((gt r 0)=[115,108,111,116]) then
 lt (Cr_ (⟨work,give_,places,slots,grants⟩:H_) (gt r 1)) λr9=>
 (bif !decide (r9.2=0) then
 (aT,((k:Int)+1),r9.2)
 else Ce_ t (k+1) work give_ places (slots++[r9.1]) grants)
 else lt (Cr_ (⟨work,give_,places,slots,grants⟩:H_) (gt r 1)) λr10=>
 (bif !decide (r10.2=0) then
 (aT,((k:Int)+1),r10.2)
 else lt (Cr_ (⟨work,give_,places,slots,grants⟩:H_) (gt r 2)) λr11=>
 (bif !decide (r11.2=0) then
 (aT,((k:Int)+1),r11.2)
 else lt (F7_ (gt r 3)) λr12=>
 (bif !decide (r12.2=0) then
 (aT,((k:Int)+1),r12.2)
 else Ce_ t (k+1) work give_ places slots (grants++[(⟨r10.1,r11.1,r12.1⟩:Cc_)]))))))))
 else (bif decide ((gt r 0)=[119,111,114,107]) then
 (bif !decide ((r.length:Int)=2) then
 (aT,((k:Int)+1),4)
 else lt (F7_ (gt r 1)) λr13=>
 (bif !decide (r13.2=0) then
 (aT,((k:Int)+1),r13.2)
 else Ce_ t (k+1) r13.1 give_ places slots grants))
 else (bif decide ((gt r 0)=[103,105,118,101]) then
 (bif !decide ((r.length:Int)=2) then
 (aT,((k:Int)+1),4)
 else lt (F7_ (gt r 1)) λr14=>
 (bif !decide (r14.2=0) then
 (aT,((k:Int)+1),r14.2)
 else Ce_ t (k+1) work r14.1 places slots grants))
 else (bif decide ((gt r 0)=[115,108,111,116]) then
 (bif !decide ((r.length:Int)=2) then
 (aT,((k:Int)+1),4)
 else lt (Cr_ (⟨work,give_,places,slots,grants⟩:H_) (gt r 1)) λr15=>
 (bif !decide (r15.2=0) then
 (aT,((k:Int)+1),r15.2)
 else Ce_ t (k+1) work give_ places (slots++[r15.1]) grants))
 else (aT,((k:Int)+1),4)))))))
def Q3_(s:Bs):H_×Int×Int:=
 Ce_ (cuts 10 s) 0 0 0 [] [] []
def Xy_:Bool:=
 lt (Jf_ [50,58,48,58,53]) λr=>
 lt (Jf_ [51,58,48,58,53,58,55]) λr1=>
 lt (Jf_ [51,58,53]) λr2=>
 ((((((decide (r.2=0))&&(decide (r1.2=0)))&&(decide (r2.2=0)))&&(Gn_ r.1 r1.1))&&(!(Gn_ r.1 r2.1)))&&(!(Gn_ r1.1 r.1)))
def Xx_:Bool:=
 (Xy_)
def X0_:Bool:=
 lt (Q3_ [119,111,114,107,32,52,10,103,105,118,101,32,49,10,108,97,98,101,108,32,108,111,119,32,48,32,53,49,50,32,49,10,115,108,111,116,32,108,111,119]) λr=>
 (((((((Xx_)&&true)&&(decide (r.2.1=0)))&&(decide (r.2.2=0)))&&(decide ((r.1.places.length:Int)=1)))&&(decide (r.1.work=4)))&&(decide (((gt r.1.places 0).bytes)=512)))
def Xz_:Bool:=
 (X0_)
def X3_:Bool:=
 lt (Ax_ bD (⟨3,[97],[],[],[],0,0⟩:Mail)) λr=>
 lt (Ax_ r.1 (⟨5,[97],[],[],[],0,0⟩:Mail)) λr1=>
 lt (Di_ r1.1) λr2=>
 lt (Di_ r2.1) λr3=>
 lt (Ea_ r3.1 3) λr4=>
 lt (Au_ r4.1) λr5=>
 (((((((((decide (r.2=0))&&(decide (r1.2=0)))&&r2.2.2)&&(decide (r2.2.1.P_.id=3)))&&r3.2.2)&&(decide (r3.2.1.P_.id=5)))&&(decide (r4.2=0)))&&r5.2)&&(decide (r5.1.id=3)))
def X2_:Bool:=
 (X3_)
def Nt_:Nat->Nat->Bu_->Bool
 |0,_,_=>default
 | f2+1,v,x=>(bif decide ((v:Int)<40) then
 lt (Cn_ x (⟨0,(A0 .u8 (v:Int)),[]⟩:D2_)) λr=>
 Nt_ f2 (v+1) r.1
 else lt (Kq_ x 9) λr1=>
 lt (Kq_ x 8) λr2=>
 (((r1.2&&(decide (r1.1.kind=8)))&&(!r2.2))&&(decide ((Lh_ x)=40))))
def T8_:Bool:=
 Nt_ (40-0+1) 0 bE
def X4_:Bool:=
 (T8_)
def Nu_:Nat->Nat->Az_->Bool
 |0,_,_=>default
 | f2+1,v,x=>(bif decide ((v:Int)<20) then
 lt (Bw_ x bB) λr=>
 Nu_ f2 (v+1) r.1
 else lt (K3_ x 0) λr1=>
 lt (K3_ x 20) λr2=>
 (((decide (r1.1=5))&&r1.2.2)&&(!r2.2.2)))
def T9_:Bool:=
 Nu_ (20-0+1) 0 aM
def X5_:Bool:=
 (T9_)
def X7_:Bool:=
 lt (Cf_ 7 100) λr=>
 lt (As_ r (⟨[113],3,0,[]⟩:Aa_)) λr1=>
 lt (A6_ r1.1 [113] bB) λr2=>
 (((((X2_)&&(X5_))&&(decide (r1.2=0)))&&(decide (r2.2.2.2=0)))&&(decide (r2.2.1=7)))
def X6_:Bool:=
 (X7_)
def Nv_:Nat->Nat->E_->Bool
 |0,_,_=>default
 | f2+1,v,x=>(bif decide ((v:Int)<([aZ,aY,aX].length:Int)) then
 lt (Z_ x (gt [aZ,aY,aX] v)) λr1=>
 (bif !decide (r1.2.2=0) then
 false
 else Nv_ f2 (v+1) r1.1)
 else lt (Z_ x bM) λr2=>
 lt (Z_ r2.1 (⟨7,0,aR,aO,aS,[113],0,0,0,0,0,aK,[]⟩:T_)) λr3=>
 ((((((((Xz_)&&(X6_))&&true)&&(X4_))&&(decide (r2.2.2=0)))&&(decide (r2.2.1.count=1)))&&(decide (r3.2.2=0)))&&(decide (r3.2.1.item.P_.body=[120]))))
def Ua_:Bool:=
 lt (Av_ bC 0) λr=>
 Nv_ (([aZ,aY,aX].length)-0+1) 0 r
def Oy_(x:F_)(y:F_):Bool:=
 (((decide (x.P_=y.P_))&&(x.Nr_==y.Nr_))&&(x.again==y.again))
def Jx_(s2:List R_):List R_->Nat->Bool
 |[],k=>true
 | x::t,k=>(bif !(decide (x=(gt s2 k))) then
 false
 else Jx_ s2 t (k+1))
def Rn_(s1:List R_)(s2:List R_):Bool:=
 (bif !decide ((s1.length:Int)=(s2.length:Int)) then
 false
 else Jx_ s2 s1 0)
def Jy_(s2:List F_):List F_->Nat->Bool
 |[],k=>true
 | x::t,k=>(bif !(Oy_ x (gt s2 k)) then
 false
 else Jy_ s2 t (k+1))
def Tx_(s1:List F_)(s2:List F_):Bool:=
 (bif !decide ((s1.length:Int)=(s2.length:Int)) then
 false
 else Jy_ s2 s1 0)
def Jz_(s2:List Mail):List Mail->Nat->Bool
 |[],k=>true
 | x::t,k=>(bif !(decide (x=(gt s2 k))) then
 false
 else Jz_ s2 t (k+1))
def Ty_(s1:List Mail)(s2:List Mail):Bool:=
 (bif !decide ((s1.length:Int)=(s2.length:Int)) then
 false
 else Jz_ s2 s1 0)
def Uf_(a:Ar_)(b:Ar_):Bool:=
 (Tx_ a.items b.items)
def Nh_(a:Az_)(b:Az_):Bool:=
 ((decide (a.total=b.total))&&(Ty_ a.kept b.kept))
def Rw_(a:Bu_)(b:Bu_):Bool:=
 ((decide (a.total=b.total))&&(decide (a.kept=b.kept)))
def Jh_(a:Ai_)(b:Ai_):Bool:=
 ((decide (a.Ae_=b.Ae_))&&(Rn_ a.binds b.binds))
def Nm_(x:Fe_)(y:Fe_):Bool:=
 ((decide (x.q=y.q))&&(Uf_ x.l y.l))
def Lc_(s2:List Fe_):List Fe_->Nat->Bool
 |[],k=>true
 | x::t,k=>(bif !(Nm_ x (gt s2 k)) then
 false
 else Lc_ s2 t (k+1))
def Xe_(s1:List Fe_)(s2:List Fe_):Bool:=
 (bif !decide ((s1.length:Int)=(s2.length:Int)) then
 false
 else Lc_ s2 s1 0)
def Ji_(a:G_)(b:G_):Nat->Nat->Bool
 |0,_=>default
 | f2+1,v=>(bif decide ((v:Int)<16) then
 (bif !(Nh_ (A16.get a.rises v) (A16.get b.rises v)) then
 false
 else Ji_ a b f2 (v+1))
 else true)
def Pc_(a:G_)(b:G_):Bool:=
 (bif (((!decide (a.next = b.next))||(!decide (a.bytes=b.bytes)))||(!(Xe_ a.rows b.rows))) then
 false
 else Ji_ a b (16-0+1) 0)
def Pd_(a:Aq_)(b:Aq_):Bool:=
 (((((Jh_ a.book b.book)&&(Pc_ a.C_ b.C_))&&(Rw_ a.notes b.notes))&&(decide (a.seen=b.seen)))&&(decide (a.spent=b.spent)))
def Gg_(b:Ai_):(List X_):=
 b.Ae_
def Ep_:List R_->List R_->(List R_)
 |[],out=>out
 |x::t,out=>Ep_ t (out++[x])
def Et_(b:Ai_):(List R_):=
 Ep_ b.binds []
theorem all_len0:∀ (t out:List F_),(Es_ t out).length=out.length+t.length
 |[],out=>rfl
 |x::t,out=>by
   unfold Es_ lt
   rw[all_len0 t];simp;omega
theorem all_len{l:Ar_}(h:LnOk l):(E4_ l).length<=64:=by
 unfold E4_;rw[all_len0];have :=h.1;simp;omega
structure Clo(B:Ai_->Prop)(K:G_->Prop)(M:Bu_->Prop):Prop where
 ma:∀ {b x},0<=x.sort->B b->B (B5_ b x).1
 bd:∀ {b x},(∀ p∈x.want,p.wf)->B b->B (Bh_ b x).1
 dp:∀ {b n},B b->B (Dx_ b n).1
 ub:∀ {b x},B b->B (C2_ b x).1
 fg:∀ {b q},B b->B (C1_ b q)
 km:∀ {k q},K k->K (As_ k q).1
 kd:∀ {k n},K k->K (Bg_ k n).1
 kp:∀ {k n m},StkOk k->K k->K (A6_ k n m).1
 kl:∀ {k n},K k->K (Cb_ k n).1
 kr:∀ {k n i},K k->K (Ab_ k n i).1
 kb:∀ {k n i},K k->K (Bz_ k n i).1
 ks:∀ {k p m},K k->K (Ba_ k p m).1
 kw:∀ {k},StkOk k->K k->K (Da_ k)
 na:∀ {n x},0<=x.kind/\x.kind<=255->M n->M (Cn_ n x).1
def Cl(B:Ai_->Prop)(K:G_->Prop)(M:Bu_->Prop)(s:E_):Prop:=B s.x.book/\K s.x.C_/\M s.x.notes
section
variable{B:Ai_->Prop}{K:G_->Prop}{M:Bu_->Prop}(C:Clo B K M)
include C
variable{s:E_}
omit C in
section
variable{m:Mail}{tick:Int}{r:List Bs×List Bs×Int}
end
section
variable{d:T_}
end
end
def BiB(y:R_):Prop:=y.Al_.length<=16/\C6_ y.to'=0/\y.key.length<=64/\Dz_ y.want=0/\∀ p∈y.want,p.wf
def BkB(b:Ai_):Prop:=(∀ s∈b.Ae_,Kh_ s=0/\0<=s.sort)/\∀ y∈b.binds,BiB y
def RoB(k:G_):Prop:=∀ r∈k.rows,Bm_ r.q=0
def NoB(n:Bu_):Prop:=∀ x∈n.kept,x.text.length<=64/\0<=x.kind/\x.kind<=255
theorem O1_{s:Bs}(h:C6_ s=0):s.length<=16:=by
 unfold C6_ at h;grind
theorem keyE_len{l:List Bs}{s:Bs}(h:keyE l s=0):s.length<=64:=by
 unfold keyE at h
 split at h
 . cases h
 omega
theorem Vx_{x:X_}(h:Kh_ x=0):x.name.length<=16/\x.to'.length<=16/\x.sort<=4:=by
 unfold Kh_ at h
 split at h
 grind
 . rename_i q
   split at h
   . cases h
   . refine⟨O1_ oP,?_,by omega⟩
     split at h
     exact O1_ h
     grind
theorem Pu_{q:Aa_}(h:Bm_ q=0):q.name.length<=16/\q.dead.length<=16/\1<=q.most/\q.most<=64:=by
 unfold Bm_ at h;by_cases q1:C6_ q.name=0
 . rw[decide_eq_true q1] at h
   simp only[A5,cond_false] at h
   cases e:(decide (q.most<1) || decide (64<q.most)) with
   |true=>rw[e] at h;cases h
   |false=>
     rw[e] at h
     simp only[cond_false] at h
     simp only[AY,decide_eq_false_iff_not] at e
     refine⟨O1_ q1,?_,by omega,by omega⟩
     by_cases q2:q.dead=[]
     . rw[q2];simp
     . rw[decide_eq_false q2] at h;exact O1_ h
 grind
theorem mem_td{α:Type}{l:List α}{a b:Nat}{x:α}(h:x∈[l.take a,l.drop b].flatten):x∈l:=by
 grind
theorem Pr_{α:Type}{l:List α}{y x:α}(h:x∈[l,[y]].flatten):x∈l\/x=y:=by
 simpa using h
theorem Wv_(f:R_->Bool):∀ (t out:List R_) (y:R_),y∈Dh_ f t out->y∈out\/y∈t
 |[],out,y,h=> .inl h
 |x::t,out,y,h=>by
   unfold Dh_ at h
   cases e:f x with
   |true=>
     rw[e] at h
     rcases Wv_ f t _ y h with q|q
     . rcases List.mem_append.1 q with q|q
       . exact .inl q
       . exact .inr (by rw[List.mem_singleton.1 q];simp)
     . exact .inr pX
   |false=>
     rw[e] at h
     rcases Wv_ f t _ y h with q|q
     . exact .inl q
     . exact .inr pX
theorem ruleE_f{r:Rule}(h:Qk_ r=0):r.key.length<=64/\Dz_ r.want=0:=by
 unfold Qk_ at h
 split at h
 . cases h
 . split at h
   . split at h
     grind
     . rename_i q;exact⟨keyE_len oP,h⟩
   . split at h
     grind
     . rename_i q;exact⟨keyE_len oP,h⟩
theorem shopOf_mem{l:List X_}{n:Bs}(h:(D7_ l n).isSome=true):∃ s∈l,s.name=n:=by
 have⟨s,hs⟩:=Option.isSome_iff_exists.1 h;exact⟨s,List.mem_of_find?_eq_some hs,by simpa using List.find?_some hs⟩
theorem Sk_{s:G_}{k:Int}{l:Ar_}(h:RoB s):RoB (W_ s k l):=λr hr=>by
 have hr:r∈s.rows.set k.toNat ⟨(gt s.rows k.toNat).q,l⟩:=hr
 by_cases q:k.toNat<s.rows.length
 . rcases BL hr with e|e
   . exact h r e
   . rw[e];exact h (gt s.rows k.toNat) (A1 (getG q))
 . rw[List.set_eq_of_length_le qX] at hr;exact h r hr
theorem rob_wake:∀ (t:List Fe_) (k:Nat) (x:G_),RoB x->RoB (B7_ t k x)
 |[],_,_,h=>h
 |_::t,k,_,h=>rob_wake t (k+1) _ (Sk_ h)
theorem cloB:Clo BkB RoB NoB where
 ma:=λ{b x} hq h=>by
   unfold B5_
   let Q:Ai_×Int->Prop:=λr=>BkB r.1
   refine bt (P:=Q) (λ_=>h) λe=>bt (P:=Q) (λ_=>h) λ_=>bt (P:=Q) (λ_=>h) λ_=>bt (P:=Q) (λ_=>h) λ_=>⟨λs hs=>?_,h.2⟩
   rcases Pr_ hs with q|q
   . exact h.1 s q
   . rw[q];exact⟨by simpa using e,hq⟩
 bd:=λ{b x} hw h=>by
   unfold Bh_ lt
   let Q:Ai_×Int->Prop:=λr=>BkB r.1
   refine bt (P:=Q) (λ_=>h) λe1=>bt (P:=Q) (λ_=>h) λ_=>bt (P:=Q) (λ_=>h) λe2=>bt (P:=Q) (λ_=>h) λe3=>bt (P:=Q) (λ_=>h) λ_=>bt (P:=Q) (λ_=>h) λ_=>⟨h.1,λy hy=>?_⟩
   rcases Pr_ hy with q|q
   . exact h.2 y q
   . rw[q]
     obtain⟨s,hs,hn⟩:=shopOf_mem (by simpa using e1)
     have hr:=ruleE_f (by simpa using e3)
     exact⟨by rw[<- hn];exact (Vx_ (h.1 s hs).1).1,by simpa using e2,hr.1,hr.2,hw⟩
 dp:=λ{b n} h=>by
   unfold Dx_ lt
   let Q:Ai_×Int->Prop:=λr=>BkB r.1
   refine bt (P:=Q) (λ_=>h) λ_=>⟨λs hs=>h.1 s (mem_td hs),λy hy=>?_⟩
   rcases Wv_ _ _ _ y hy with q|q
   . cases q
   . exact h.2 y q
 ub:=λ{b x} h=>by
   unfold C2_ lt
   let Q:Ai_×Int->Prop:=λr=>BkB r.1
   exact bt (P:=Q) (λ_=>h) λ_=>⟨h.1,λy hy=>h.2 y (mem_td hy)⟩
 fg:=λ{b q} h=>⟨h.1,λy hy=>by
   rcases Wv_ _ _ _ y hy with q|q
   . cases q
   . exact h.2 y q⟩
 km:=λ{k q} h=>by
   unfold As_ lt
   let Q:G_×Int->Prop:=λr=>RoB r.1
   refine bt (P:=Q) (λ_=>h) λe=>bt (P:=Q) (λ_=>h) λ_=>bt (P:=Q) (λ_=>h) λ_=>bt (P:=Q) (λ_=>h) λ_=>λr hr=>?_
   rcases Pr_ hr with q|q
   . exact h r q
   . rw[q];simpa using e
 kd:=λ{k n} h=>by
   unfold Bg_ lt
   let Q:G_×Int->Prop:=λr=>RoB r.1
   exact bt (P:=Q) (λ_=>h) λ_=>λr hr=>h r (mem_td hr)
 kp:=λ{k n m} _ h=>by
   unfold A6_ lt
   let Q:G_×Int×Mail×Int->Prop:=λr=>RoB r.1
   refine bt (P:=Q) (λ_=>h) λ_=>bt (P:=Q) (λ_=>h) λ_=>bt (P:=Q) (λ_=>h) λ_=>?_
   refine lp2E (P:=Q) (λ_=>True) ?_ λx x1 _=>?_
   . exact bt (P:=LoP _ _) (λ_=>bt (P:=LoP _ _) (λ_=>h) λ_=>trivial) λ_=>trivial
   . exact bt (P:=Q) (λ_=>h) λ_=>bt (P:=Q) (λ_=>h) λ_=>λr hr=>Sk_ (k:=I_ k n) h r hr
 kl:=λ{k n} h=>by
   unfold Cb_ lt
   let Q:G_×F_×Bool->Prop:=λr=>RoB r.1
   exact zH
 kr:=λ{k n i} h=>by
   unfold Ab_ lt
   let Q:G_×F_×Int->Prop:=λr=>RoB r.1
   exact zH
 kb:=λ{k n i} h=>by
   unfold Bz_ lt
   let Q:G_×Int->Prop:=λr=>RoB r.1
   exact zH
 ks:=λ{k p m} h=>by
   unfold Ba_ lt
   let Q:G_×Int->Prop:=λr=>RoB r.1
   exact zI
 kw:=λ{k} _ h=>rob_wake _ _ _ h
 na:=λ{n x} hk h=>by
   unfold Cn_
   let Q:Bu_×Int->Prop:=λr=>NoB r.1
   refine bt (P:=Q) (λ_=>h) λe=>bt (P:=Q) (λ_=>h) λ_=>λy hy=>?_
   simp only[decide_eq_false_iff_not] at e
   rcases Pr_ (AP hy) with q|q
   . exact h y q
   . rw[q];exact⟨by omega,hk⟩
def StB(s:E_):Prop:=Cl BkB RoB NoB s
theorem newB(p:H_)(k:Int):StB (Av_ p k):=⟨⟨(λ_ h=>by cases h),λ_ h=>by cases h⟩,(λ_ h=>by cases h),λ_ h=>by cases h⟩
theorem binds_eq0:∀ (l out:List R_),Ep_ l out=out++l
 |[],out=>by simp[Ep_]
 |x::t,out=>by unfold Ep_;rw[binds_eq0 t];simp
theorem binds_eq(b:Ai_):Et_ b=b.binds:=by unfold Et_;rw[binds_eq0];rfl
theorem shops_eq(b:Ai_):Gg_ b=b.Ae_:=rfl
theorem T2_{h:List Pair}(e:Dz_ h=0):h.length<=8:=by
 unfold Dz_ at e
 split at e
 . cases e
 omega
theorem bk_want{b:Ai_}(h:BkOk b)(k:BkB b):b.binds.length<=1000/\∀ y∈b.binds,y.want.length<=1000:=
 ⟨by have :=h.2.1;omega,λy hy=>by have :=T2_ (k.2 y hy).2.2.2.1;omega⟩
def X8_:Bool:=
 (Ua_)
variable{P:Program}{n:Nat}{N:Rest}{H0:Env}{Q:Qs}{ks:List Kt}{fF:Nat->PV}{fL:Nat->Blk}
theorem junk_le{i o b T0:Nat}{cs:List PV}(hb:fL i = .box b T0 cs):StLe ⟨fF,fL⟩ ⟨fF,lups fL i (.box b T0 (cs.set o .junk))⟩:=by
 intro H0 F H L ha;have hp:∀ {p v},SimT fL H p v->SimT (lups fL i (.box b T0 (cs.set o .junk))) H p v:=λ{p v} h=>by
   cases p with
   |osl q=>
     simp only[SimT] at h ⊢
     by_cases hq:q=i
     . subst hq;simp only[hb] at h
       simp only[lups,GP,cond_true]
     . rw[Hp_ hq];exact h
   |_=>exact h
 refine⟨ha.le,ha.g,λt=>hp (ha.f t),λq=>?_⟩;have hq:SimB fL H (fL q) (L q):=ha.l q;by_cases e:q=i
 . subst e
   show SimB _ H (lups fL q _ q) (L q)
   rw[D5_]
   rw[hb] at hq
   have⟨vs,h1,h2,h3⟩:=hq
   refine⟨vs,h1,by simp[h2],λm p v hm hv=>?_⟩
   rw[CP] at hm
   split at hm
   . split at hm
     . cases hm;exact Sim.junk
     . cases hm
   grind
 . show SimB _ H (lups fL i _ q) (L q)
   rw[Hp_ e]
   have hq':SimB fL H (fL q) (L q):=hq
   generalize fL q=B at hq' ⊢
   cases B with
   |box b' T' cs'=>have⟨vs,h1,h2,h3⟩:=hq';exact⟨vs,h1,h2,λm p v hm hv=>hp (h3 m p v hm hv)⟩
   |_=>exact hq'
theorem bx_junk{i b T0:Nat}{cs:List PV}{c:Code}(o:Nat)(hb:fL i = .box b T0 cs)(kk:Hd P n N H0 Q (.code c) ks ⟨fF,lups fL i (.box b T0 (cs.set o .junk))⟩):Hd P n N H0 Q (.code c) ks ⟨fF,fL⟩:=
 SW.hd_le (junk_le hb) (λ_ h=>by cases h) kk
theorem rm2{tb:Tb}{rs:List ResultVar}{res p1 p2:PV}{b b' T:Nat}{post q:List PV}{as0 bs:List Nat}(h:Lr_ tb ⟨fF,fL⟩ rs=some ([p1,p2],as0,bs))(he:as0=bs)(hp:PLe (.tup [p1,p2]) res)(hb:fL 0 = .box b' T q)(hbb:b'=b)(hn:Ds_ q=true)(hq:PLes q post):Hd P n N H0 (rmK tb rs res b T post) (.ex .ret) [] ⟨fF,fL⟩:=SW.rm h he hp hb hbb hn hq
end Go.SW.V
namespace Go.SW
variable{P:Program}{n:Nat}{N:Rest}{H0:Env}{all rest:List Oper}{Q:Qs}{ks:List Kt}{s:St}{T ty d:Nat}{pos:String}{af:Array Edge}{x:Operand}{K:St->Prop}
structure Fy(P:Program)(G:Gb)(f:FuncId)(arg:PV)(args:List PV)(T:TypeId)(pre:List PV)(res:PV)(post:List PV):Prop where
 cb:A4_ P f
 no:res.noOsl=true
 np:Ds_ post=true
 run:∀ (N:Rest) (H:Hp) (L:Ls) (w:World) (b i:Nat) (v0:Value) (vs vc:List Value),G.p H->Sim H arg v0->Sims H args vs->L i=some (b,bx T vc)->Sims H pre vc->Mem N H L w ->
   Calls P f (v0::Value.pointer (some ⟨b,0,none⟩)::vs).toArray w λe w'=>∃ v H' vc',e = .returned v/\Sim H' res v/\Sims H' post vc'/\HLe H H'/\Mem N H' (lupd L i (some (b,bx T vc'))) w'
theorem fy_cw{tb:Tb}{G:Gb}{m:Nat}{f:FuncId}{fn:Func}{c:Code}{arg:PV}{args pre post:List PV}{res:PV}{T:Nat}(ht:tbB P tb=true)(hf:P.funcs[f]? = some fn)(hb:fn.body=some c)(hn:fn.ntmps=m)(hs:Nat.ble (args.length+2) m=true)(hcb:A4_ P f)(hno:res.noOsl=true)(hna:Ds_ (arg::args)=true)(hnp:Ds_ pre=true)(hnq:Ds_ post=true)
   (h:PV.wfs (arg::args)->PV.wfs pre->∀ b N H,G.p H->Hd P m N ⟨H,G⟩ (rmK tb fn.results.toList res b T post) (.code c) [] ⟨Qf_ (arg :: .own 0 b 0::args),lups (λ_=> .no) 0 (.box b T pre)⟩):Fy P G f arg args T pre res post:=by
 refine⟨hcb,hno,hnq,λN H L w b i v0 vs vc hg hs0 hsim hL hpre hm=>?_⟩;subst hn;simp only[Ds_,A3] at hna;have hs':Sims H (arg :: .own 0 b 0::args) (v0::CS (some ⟨b,0,none⟩)::vs):=(hsim.cons Sim.own).cons hs0;have key:Pm P f (v0::CS (some ⟨b,0,none⟩)::vs).toArray H b (bx T vc) (λv H' o'=>∃ vc',o'=bx T vc'/\Sim H' res v/\Sims H' post vc'):=by
   refine pm_of_cw hf hb nO λN=>?_
   have h1:=h (hsim.cons hs0).wf hpre.wf b N H hg (L0_ (v0::CS (some ⟨b,0,none⟩)::vs).toArray) H (ofL [(b,bx T vc)]) ⟨.refl H,hg,λt=>Ns_ hs' (by simp only [Ds_,A3];exact ⟨hna.1,rfl,hna.2⟩) t,λj=>by
     by_cases e:j=0
     . subst e;simp only[D5_];exact⟨vc,rfl,Hz_ hpre hnp⟩
     . simp only[Hp_ e];trivial⟩
   refine Lb_ (λe F' H' L' hq=>?_) h1
   have⟨s',ha',hq',q,hq1,hq2,hq3⟩:=hq
   have⟨he,v,hr,hv⟩:=Rd_ (N:=N) ht ha' hq'
   have h3:=ha'.l 0
   rw[hq1] at h3
   have⟨vc',hL',hsv⟩:=h3
   rcases he with rfl|rfl
   . exact yH
   . exact yH
 exact zF
theorem ecally{f:FuncId}{arg:PV}{args pre post:List PV}{res:PV}{as0:Array Operand}{ats:Array TypeId}{i b b' T0 off:Nat}(h:Fy P H0.g f arg args T0 pre res post)(ha:argsP s.F x as0.toList=some (f,arg :: .own i b off::args))(hoff:off=0)(hb:s.L i = .box b' T0 pre)(hbb:b'=b)(hd:Nat.blt d n=true)(k:res.wf->PV.wfs post->K ⟨updp s.F d res,lups s.L i (.box b T0 post)⟩):E1 P n N H0 all ⟨some d, .call ⟨.value x,as0,ats⟩,ty,pos,af,none⟩ (some i) s K:=by
 intro F H L hab;subst hoff;subst hbb;have⟨us,h1,h2⟩:=Jk_ (ats:=ats) hab.f ha h.cb;obtain⟨v1,us1,rfl,g3,g4⟩:=h1.inv_cons;obtain⟨v0,vs,rfl,h3,h4⟩:=g4.inv_cons;have h5:=h3.inv_own;subst h5;have h6:=hab.l i;exact tN
end Go.SW
namespace Go.SW.V
open Go.SW
variable{P:Program}{n:Nat}{N:Rest}{H0:Env}{all rest:List Oper}{Q:Qs}{ks:List Kt}{fF:Nat->PV}{fL:Nat->Blk}{T ty d:Nat}{pos:String}{af:Array Edge}{x:Operand}{K:St->Prop}
theorem ecally{f:FuncId}{arg:PV}{args pre post:List PV}{res:PV}{as0:Array Operand}{ats:Array TypeId}{i b b' T0 off:Nat}(h:Fy P H0.g f arg args T0 pre res post)(ha:argsP fF x as0.toList=some (f,arg :: .own i b off::args))(hoff:off=0)(hb:fL i = .box b' T0 pre)(hbb:b'=b)(hd:Nat.blt d n=true)(k:res.wf->PV.wfs post->K ⟨updp fF d res,lups fL i (.box b T0 post)⟩):E1 P n N H0 all ⟨some d, .call ⟨.value x,as0,ats⟩,ty,pos,af,none⟩ (some i) ⟨fF,fL⟩ K:=by
 intro F H L hab;subst hoff;subst hbb;have⟨us,h1,h2⟩:=Jk_ (ats:=ats) hab.f ha h.cb;obtain⟨v1,us1,rfl,g3,g4⟩:=h1.inv_cons;obtain⟨v0,vs,rfl,h3,h4⟩:=g4.inv_cons;have h5:=h3.inv_own;subst h5;have h6:=hab.l i;dsimp only at h6;exact tN
def Kw_(m:Mail):Int:=
 (bif !decide ((D6_ m)=0) then
 0
 else ((Qg_ m).length:Int))
theorem Uq_(m:Mail):0<=Kw_ m/\Kw_ m<=20000:=by
 unfold Kw_;by_cases e:D6_ m=0;rw[decide_eq_true e];simp only[A5,cond_false];have⟨mk1,mk2,mk3,mk4,mk5⟩:=Ix_ e;have hs:=Pb_ mk3;have :=r9B_len hs;have :=hs.1;have :=T2_ mk3;have :(r9B m.head).length<=17000:=by omega
 simp only[Qg_,List.length_append,V_,Ii_];omega;rw[decide_eq_false e];simp
def G1_:List F_->Int->Int
 |[],n=>n
 |x::t,n=>lt (Kw_ (x.P_)) λr=>
 G1_ t (n+r)
def N6_(l:List F_):Int:=
 G1_ l 0
def G4_:List Mail->Int->Int
 |[],n=>n
 |x1::t,n=>lt (Kw_ x1) λr=>
 G4_ t (n+r)
def N7_(x:Az_):Int:=
 G4_ x.kept 0
theorem r18size_b:∀ (l:List F_) (n:Int),n<=G1_ l n/\G1_ l n<=n+20000*l.length
 |[],n=>by simp[G1_]
 |x::t,n=>by
   unfold G1_ lt
   have h1:=r18size_b t (n+Kw_ x.P_)
   have h2:=Uq_ x.P_
   exact sM
theorem r18size_r(l:List F_):0<=N6_ l/\N6_ l<=20000*l.length:=by
 have :=r18size_b l 0;unfold N6_;omega
theorem r20size_b:∀ (l:List Mail) (n:Int),n<=G4_ l n/\G4_ l n<=n+20000*l.length
 |[],n=>by simp[G4_]
 |x::t,n=>by
   unfold G4_ lt
   have h1:=r20size_b t (n+Kw_ x)
   have h2:=Uq_ x
   exact sM
theorem r20size_r(x:Az_):0<=N7_ x/\N7_ x<=20000*x.kept.length:=by
 have :=r20size_b x.kept 0;unfold N7_;omega
def RkOk(s:Ac_):Prop:=s.rows.length<=8/\(∀ r∈s.rows,r.l.length<=64/\r.q.name.length<=16/\r.q.dead.length<=16)/\∀ i,i<16->(s.rises.get i).kept.length<=16
def Lp_(s:Ac_):Nat->Int->Nat->Int
 |0,_,_=>default
 | f2+1,n1,v=>(bif decide ((v:Int)<16) then
 lt (N7_ (A16.get s.rises v)) λr1=>
 Lp_ s f2 (n1+r1) (v+1)
 else n1)
def J8_(s:Ac_):List G9_->Int->Int
 |[],n=>Lp_ s (16-0+1) n 0
 |x::t,n=>lt (N6_ (x.l)) λr=>
 J8_ s t (n+r)
def K0_(s:Ac_):Int:=
 J8_ s s.rows 0
variable{r r':Bs}
def bitM(y:Bool):Nat:=if y then 1 else 0
def Te_(s:X_):Bs:=txtB s.name++(numB 1 s.sort.toNat++txtB s.to')
def M1_(y:R_):Bs:=txtB y.Al_++(txtB y.to'++(numB 1 (bitM y.up)++(txtB y.key++(Bv_ y.want++numB 1 (bitM y.all)))))
def So_(n:D2_):Bs:=numB 8 n.tick.toNat++(numB 1 n.kind.toNat++txtB n.text)
def Mj_(n:Bu_):Bs:=numB 8 n.total.toNat++(numB 1 n.kept.length++n.kept.flatMap So_)
def bookB(b:Ai_):Bs:=numB 1 b.Ae_.length++(b.Ae_.flatMap Te_++(numB 1 b.binds.length++b.binds.flatMap M1_))
end Go.SW.V
namespace Go.SW.V
open Go.SW
def F5_(yes:Bool):Int:=
 (bif yes then
 1
 else 0)
def Dj_(x:F_):Int:=
 (bif x.Nr_ then
 (bif x.again then
 (A0 .u64 (1+2))
 else 1)
 else (bif x.again then
 (A0 .u64 (0+2))
 else 0))
def Cy_:List D2_->Out->Bs
 |[],x=>x.s
 |x1::t,x=>Cy_ t (O_ (D_ (D_ x (x1.tick) 8) (x1.kind) 1) (x1.text))
def Dt_(n:Bu_):Bs:=
 Cy_ n.kept (D_ (D_ aE n.total 8) (n.kept.length:Int) 1)
def Dg_:List Mail->Out->Bs
 |[],x1=>x1.s
 |x2::t,x1=>Dg_ t (A5_ x1 (Br_ x2))
def B3_(x:Az_):Bs:=
 Dg_ x.kept (D_ (D_ aE x.total 8) (x.kept.length:Int) 1)
def Ir_:List F_->Ar_->Ar_×Int
 |[],x=>(x,0)
 |x1::t,x=>lt (Dq_ x x1) λr=>
 (bif !decide (r.2=0) then
 (bD,r.2)
 else Ir_ t r.1)
def Vp_(items:List F_):Ar_×Int:=
 Ir_ items bD
theorem Pp_(i:In):MlOk (Em_ i).1:=by
 unfold Em_;dsimp only
 split
 . split
   . rename_i h
     by_cases hc:D6_ ⟨(Ah_ i 8).1,(Ag_ (Ah_ i 8).2 16).1,(Ag_ (Ag_ (Ah_ i 8).2 16).2 64).1,(Cd_ (Ag_ (Ag_ (Ah_ i 8).2 16).2 64).2).1,(Ag_ (Cd_ (Ag_ (Ag_ (Ah_ i 8).2 16).2 64).2).2 256).1,(Ah_ (Ag_ (Cd_ (Ag_ (Ag_ (Ah_ i 8).2 16).2 64).2).2 256).2 8).1,(Ah_ (Ah_ (Ag_ (Cd_ (Ag_ (Ag_ (Ah_ i 8).2 16).2 64).2).2 256).2 8).2 1).1⟩=0
     exact mlOk_of hc (B9_ _ _).1
     exact (Ly_ hc h).elim
   exact Il_
 exact Il_
theorem mls_nil:∀ y∈([]:List F_),MlOk y.P_:=λ_ h=>by cases h
theorem mls_app{l:List F_}{x:F_}(h:∀ y∈l,MlOk y.P_)(hx:MlOk x.P_):∀ y∈l++[x],MlOk y.P_:=λy hy=>by
 rcases List.mem_append.1 hy with q|q
 . exact h y q
 . rw[List.mem_singleton.1 q];exact hx
theorem lof_ok0:∀ (t:List F_) (l:Ar_),LnOk l->(∀ y∈t,MlOk y.P_)->LnOk (Ir_ t l).1
 |[],_,h,_=>h
 |x::t,l,h,hx=>by
   unfold Ir_ lt
   refine bt (P:=λr:Ar_×Int=>LnOk r.1) (λ_=>Uj_) λ_=>?_
   exact lof_ok0 t _ (lput_ok h (hx x pC).2.1) λy hy=>hx y pQ
theorem lof_ok{t:List F_}(h:∀ y∈t,MlOk y.P_):LnOk (Vp_ t).1:=lof_ok0 t _ Uj_ h
theorem nb_len0:∀ (t:List D2_) (x:Out),(∀ y∈t,y.text.length<=64)->(Cy_ t x).length<=x.s.length+100*t.length
 |[],x,_=>by simp[Cy_]
 |y::t,x,h=>by
   have h1:=nb_len0 t (O_ (D_ (D_ x (y.tick) 8) (y.kind) 1) (y.text)) (λz hz=>h z pS)
   have h2:=Be_ (D_ (D_ x (y.tick) 8) (y.kind) 1) y.text
   have h3:=Ad_ (D_ x (y.tick) 8) (y.kind) 1
   have h4:=Ad_ x (y.tick) 8
   have h5:=h y pC
   rw[Cy_]
   exact sM
theorem nb_len{n:Bu_}(hn:n.kept.length<=32)(h:NoB n):(Dt_ n).length<=4000:=by
 have h1:=nb_len0 n.kept (D_ (D_ aE n.total 8) (n.kept.length:Int) 1) (λy hy=>(h y hy).1);have h2:=Ad_ (D_ aE n.total 8) (n.kept.length:Int) 1;have h3:=Ad_ aE n.total 8;have h4:aE.s.length=0:=rfl;unfold Dt_;omega
theorem rb_len0:∀ (t:List Mail) (x:Out),(Dg_ t x).length<=x.s.length+3000*t.length
 |[],x=>by simp[Dg_]
 |y::t,x=>by
   have h1:=rb_len0 t (A5_ x (Br_ y))
   have h2:=Ew_ x (Br_ y)
   have h3:=F0_ y
   rw[Dg_]
   exact sM
theorem rb_len{x:Az_}(h:RiOk x):(B3_ x).length<=50000:=by
 have h1:=rb_len0 x.kept (D_ (D_ aE x.total 8) (x.kept.length:Int) 1);have h2:=Ad_ (D_ aE x.total 8) (x.kept.length:Int) 1;have h3:=Ad_ aE x.total 8;have h4:aE.s.length=0:=rfl;have h5:=h.1;unfold B3_;omega
theorem mks_app{l:List Mail}{x:Mail}(h:∀ y∈l,MlOk y)(hx:MlOk x):∀ y∈l++[x],MlOk y:=λy hy=>by
 rcases List.mem_append.1 hy with q|q
 . exact h y q
 . rw[List.mem_singleton.1 q];exact hx
theorem mks_nil:∀ y∈([]:List Mail),MlOk y:=λ_ h=>by cases h
def ImOk(x:Aq_):Prop:=BkOk x.book/\BkB x.book/\StkOk x.C_/\RoB x.C_/\x.notes.kept.length<=32/\NoB x.notes
def DdG(d:T_):Prop:=DdOk d/\0<=d.code/\d.code<=255/\0<=d.P_.hops/\0<=d.Al_.sort/\∀ p∈d.bind.want,p.wf
def DdsG(i:In)(l:List T_):Prop:=i.err=0->∀ d∈l,DdG d
theorem ddq(q:Aa_):DdG (⟨2,0,aR,q,aS,[],0,0,0,0,0,aK,[]⟩:T_):=
 ⟨⟨by simp,by simp,by simp,by simp⟩,by simp,by simp,by simp,by simp,λ_ h=>by cases h⟩
theorem dds_nil{i:In}:DdsG i []:=λ_ _ h=>by cases h
theorem dds_app{i j:In}{l:List T_}{d:T_}(h:DdsG i l)(he:j.err=0->i.err=0/\DdG d):DdsG j (l++[d]):=λe y hy=>by
 have⟨e1,e2⟩:=he e
 rcases List.mem_append.1 hy with q|q
 . exact h e1 y q
 . rw[List.mem_singleton.1 q];exact e2
theorem dds_shop{i:In}{r1 r2 r3:_}{l:List T_}(h:DdsG i l)(h1:Ag_ i 16=r1)(h2:Ah_ r1.2 1=r2)(h3:Ag_ r2.2 16=r3):DdsG r3.2 (l++[(⟨0,0,(⟨r1.1,r2.1,r3.1⟩:X_),aO,aS,[],0,0,0,0,0,aK,[]⟩:T_)]):=by
 refine dds_app h λe=>?_;subst h3;have e2:=(Or_ e).1;subst h2;have e1:=(Pk_ e2).1;subst h1;exact⟨(Or_ e1).1,⟨by simp,by simp,by simp,by simp⟩,by simp,by simp,by simp,(B9_ _ _).1,λ_ h=>by cases h⟩
theorem dds_bind{i:In}{r5 r6 r7 r8 r9 r10:_}{l:List T_}(h:DdsG i l)(h5:Ag_ i 16=r5)(h6:Ag_ r5.2 16=r6)(h7:Ah_ r6.2 1=r7)(h8:Ag_ r7.2 64=r8)(h9:Cd_ r8.2=r9)(h10:Ah_ r9.2 1=r10):DdsG r10.2 (l++[(⟨4,0,aR,aO,(⟨r5.1,r6.1,decide (r7.1=1),r8.1,r9.1,decide (r10.1=1)⟩:R_),[],0,0,0,0,0,aK,[]⟩:T_)]):=by
 refine dds_app h λe=>?_;subst h10;have e9:=(Pk_ e).1;subst h9;have⟨e8,_,hd⟩:=headRead_back e9;subst h8;have k8:=Or_ e8;subst h7;have e6:=(Pk_ k8.1).1;subst h6;have e5:=(Or_ e6).1;subst h5;refine⟨(Or_ e5).1,⟨?_,?_,by simp,by simp⟩,by simp,by simp,by simp,by simp,headRead_pw⟩;have :=k8.2.2;show (Ag_ _ 64).1.length<=1000;omega;have :=(Mm_ hd).1;show (Cd_ _).1.length<=1000;omega
def B8_:List F_->Out->Out
 |[],x2=>x2
 |x3::t,x2=>B8_ t (A5_ (D_ x2 (Dj_ x3) 1) (Br_ (x3.P_)))
def C9_(s:G_)(x:Out):Nat->Int->Nat->Out->Bs
 |0,_,_,_=>default
 | f2+1,many,v,x4=>(bif decide ((v:Int)<16) then
 lt (K4_ (A16.get s.rises v)) λr1=>
 (bif decide (0<r1) then
 C9_ s x f2 (A0 .u64 (many+1)) (v+1) (A5_ (D_ x4 (v:Int) 1) (B3_ (A16.get s.rises v)))
 else C9_ s x f2 many (v+1) x4)
 else ((A5_ (D_ x many 1) x4.s).s))
def Ck_(s:G_):List Fe_->Out->Bs
 |[],x=>C9_ s x (16-0+1) 0 0 aE
 | x5::t1,x=>(lt1 (lt (E4_ (x5.l)) λr=>
 B8_ r (D_ (O_ (D_ (D_ (O_ x (x5.q.name)) (x5.q.most) 8) (x5.q.life) 8) (x5.q.dead)) (A0 .u64 (Ej_ (x5.l))) 1)) (λx1=>
 Ck_ s t1 x1))
def Y_(s:G_):Bs:=
 Ck_ s s.rows (D_ (D_ aE s.next 8) (s.rows.length:Int) 1)
theorem kb_len1:∀ (t:List F_) (x:Out),(B8_ t x).s.length<=x.s.length+3100*t.length
 |[],x=>by simp[B8_]
 |y::t,x=>by
   have h1:=kb_len1 t (A5_ (D_ x (Dj_ y) 1) (Br_ (y.P_)))
   have h2:=Ew_ (D_ x (Dj_ y) 1) (Br_ (y.P_))
   have h3:=F0_ y.P_
   have h4:=Ad_ x (Dj_ y) 1
   rw[B8_]
   exact sM
theorem kb_len2{s:G_}(hs:StkOk s)(x:Out):∀ (f:Nat) (many:Int) (v:Nat) (x4:Out),(C9_ s x f many v x4).length<=x.s.length+8+x4.s.length+60000*(16-v)
 |0,_,_,_=>B5 _
 |f+1,many,v,x4=>by
   rw[C9_]
   refine bt (P:=λr:Bs=>r.length<=_) (λe=>?_) λe=>?_
   . simp only[decide_eq_true_eq] at e
     unfold lt
     refine bt (P:=λr:Bs=>r.length<=_) (λ_=>?_) λ_=>?_
     . have h1:=kb_len2 hs x f (A0 .u64 (many+1)) (v+1) (A5_ (D_ x4 (v:Int) 1) (B3_ (A16.get s.rises v)))
       have h2:=Ew_ (D_ x4 (v:Int) 1) (B3_ (A16.get s.rises v))
       have h3:=Ad_ x4 (v:Int) 1
       have h4:=rb_len (hs.2.1 v qX)
       have h5:(B3_ (A16.get s.rises v)).length<=50000:=h4
       omega
     . have h1:=kb_len2 hs x f many (v+1) x4
       omega
   . have h2:=Ew_ (D_ x many 1) x4.s
     have h3:=Ad_ x many 1
     omega
theorem kb_len0{s:G_}(hs:StkOk s):∀ (t:List Fe_) (x:Out),(∀ r∈t,LnOk r.l/\Bm_ r.q=0)->(Ck_ s t x).length<=x.s.length+200000*(t.length+5)
 |[],x,_=>by
   have h1:=kb_len2 hs x (16-0+1) 0 0 aE
   have h4:aE.s.length=0:=rfl
   rw[Ck_]
   simp only[AE]
   omega
 |r::t,x,h=>by
   rw[Ck_]
   have⟨hl,hq⟩:=h r pC
   have⟨q1,q2,_,_⟩:=Pu_ hq
   show (Ck_ s t (B8_ (E4_ r.l) (D_ (O_ (D_ (D_ (O_ x (r.q.name)) (r.q.most) 8) (r.q.life) 8) (r.q.dead)) (A0 .u64 (Ej_ (r.l))) 1))).length<=_
   have h7:=Be_ x (r.q.name)
   generalize O_ x (r.q.name)=o1 at h7 ⊢
   have h6:=Ad_ o1 (r.q.most) 8
   generalize D_ o1 (r.q.most) 8=o2 at h6 ⊢
   have h5:=Ad_ o2 (r.q.life) 8
   generalize D_ o2 (r.q.life) 8=o3 at h5 ⊢
   have h4:=Be_ o3 (r.q.dead)
   generalize O_ o3 (r.q.dead)=o4 at h4 ⊢
   have h3:=Ad_ o4 (A0 .u64 (Ej_ (r.l))) 1
   generalize D_ o4 (A0 .u64 (Ej_ (r.l))) 1=o5 at h3 ⊢
   have h8:=all_len hl
   have h2:=kb_len1 (E4_ r.l) o5
   generalize B8_ (E4_ r.l) o5=o6 at h2 ⊢
   have h1:=kb_len0 hs t o6 (λz hz=>h z pS)
   refine AK h1 ?_
   clear h1
   generalize (E4_ r.l).length=n at h2 h8
   exact sM
theorem kb_len{s:G_}(hs:StkOk s)(hq:RoB s):(Y_ s).length<=3000000:=by
 unfold Y_;have h3:=Ad_ aE s.next 8;have h4:aE.s.length=0:=rfl;generalize D_ aE s.next 8=o1 at h3 ⊢;have h2:=Ad_ o1 (s.rows.length:Int) 1;generalize D_ o1 (s.rows.length:Int) 1=o2 at h2 ⊢;have h1:=kb_len0 hs s.rows o2 (λr hr=>⟨hs.1.2.1 r hr,hq r hr⟩);have h5:=hs.1.1;refine AK h1 ?_;clear h1;omega
theorem Cp_{z:Int}(h0:0<=z)(h1:z<=18446744073709551615):IntKind.wrap .u64 z=z:=Rj_ ⟨h0,h1⟩
def Hk_(r1:Int×In):Nat->Int->Int->List Mail->In->Az_×In
 |0,_,_,_,_=>default
 | f2+1,k,total,kept,x1=>(bif ((decide (k<r1.1))&&(decide (x1.err=0))) then
 lt (Em_ x1) λr2=>
 Hk_ r1 f2 (A0 .u64 (k+1)) total (kept++[r2.1]) r2.2
 else (bif !decide (x1.err=0) then
 (aM,x1)
 else ((⟨total,kept⟩:Az_),x1)))
def Js_(i:In):Az_×In:=
 lt (Ah_ i 8) λr=>
 lt (Ah_ r.2 1) λr1=>
 (lt1 ((bif !decide (r1.2.err=0) then
 r1.2
 else (bif decide (16<r1.1) then
 (B1_ r1.2 6)
 else (bif !decide (r1.1=(min r.1 16)) then
 (B1_ r1.2 7)
 else r1.2)))) (λx=>
 Hk_ r1 ((r1.1-0).toNat+1) 0 r.1 [] x))
def E5_(r1:Int×In):Nat->Int->Int->List D2_->In->Bu_×In
 |0,_,_,_,_=>default
 | f2+1,k,total,kept,x1=>(bif ((decide (k<r1.1))&&(decide (x1.err=0))) then
 lt (Ah_ x1 8) λr2=>
 lt (Ah_ r2.2 1) λr3=>
 lt (Ag_ r3.2 64) λr4=>
 E5_ r1 f2 (A0 .u64 (k+1)) total (kept++[(⟨r2.1,r3.1,r4.1⟩:D2_)]) r4.2
 else (bif !decide (x1.err=0) then
 (bE,x1)
 else ((⟨total,kept⟩:Bu_),x1)))
def Ed_(i:In):Bu_×In:=
 lt (Ah_ i 8) λr=>
 lt (Ah_ r.2 1) λr1=>
 (lt1 ((bif !decide (r1.2.err=0) then
 r1.2
 else (bif decide (32<r1.1) then
 (B1_ r1.2 6)
 else (bif !decide (r1.1=(min r.1 32)) then
 (B1_ r1.2 7)
 else r1.2)))) (λx=>
 E5_ r1 ((r1.1-0).toNat+1) 0 r.1 [] x))
theorem rread_ok0(r1:Int×In):∀ (f:Nat) (k total:Int) (kept:List Mail) (x:In),(∀ m∈kept,MlOk m)->(kept.length:Int)=k->k<=16->(x.err=0->r1.1<=16)->RiOk (Hk_ r1 f k total kept x).1
 |0,_,_,_,_,_,_,_,_=>⟨Nat.zero_le _,λ_ h=>by cases h⟩
 |f+1,k,total,kept,x,h,hk,h16,he=>by
   rw[Hk_]
   refine bt (P:=λr:Az_×In=>RiOk r.1) (λe=>?_) λe=>?_
   . simp only[A3,decide_eq_true_eq] at e
     have h1:=he e.2
     refine rread_ok0 r1 f _ _ _ _ (mks_app h (Pp_ x)) ?_ ?_ (λ_=>h1)
     . exact tE
     . exact tD
   . refine bt (P:=λr:Az_×In=>RiOk r.1) (λ_=>riOk_nil) λ_=>?_
     exact⟨by show kept.length<=16;omega,λm hm=>(h m hm).1⟩
theorem Wu_{i:In}{c:Int}(h:(B1_ i c).err=0):i.err=0/\c=0:=by
 by_cases hc:c=0;subst hc;rw[Wt_] at h;exact⟨h,rfl⟩;exact (Ly_ hc h).elim
theorem rread_ok(i:In):RiOk (Js_ i).1:=by
 unfold Js_ lt lt1;refine rread_ok0 _ _ _ _ _ _ mks_nil Y qZ λe=>?_
 revert e
 refine bt (P:=λj:In=>j.err=0->_) (λe1 e2=>?_) λe1=>bt (P:=λj:In=>j.err=0->_) (λe2 e3=>(Ly_ qZ e3).elim) λe2 _=>?_;exact sG;simp only[decide_eq_false_iff_not] at e2;omega
theorem nread_ok0(r1:Int×In):∀ (f:Nat) (k total:Int) (kept:List D2_) (x:In),(x.err=0->NoB ⟨0,kept⟩)->(kept.length:Int)=k->k<=32->(x.err=0->r1.1<=32)->(E5_ r1 f k total kept x).1.kept.length<=32/\NoB (E5_ r1 f k total kept x).1
 |0,_,_,_,_,_,_,_,_=>⟨Nat.zero_le _,λ_ h=>by cases h⟩
 |f+1,k,total,kept,x,h,hk,h16,he=>by
   rw[E5_]
   refine bt (P:=λr:Bu_×In=>r.1.kept.length<=32/\NoB r.1) (λe=>?_) λe=>?_
   . simp only[A3,decide_eq_true_eq] at e
     have h1:=he e.2
     unfold lt
     refine nread_ok0 r1 f _ _ _ _ (λe4=>?_) ?_ ?_ (λ_=>h1)
     . intro y hy
       rcases List.mem_append.1 hy with q|q
       . exact h e.2 y q
       . rw[List.mem_singleton.1 q]
         have k1:=(Or_ e4).2.2
         have k2:=B9_ (Ah_ x 8).2 1
         refine⟨?_,k2.1,k2.2.2.2 qZ⟩
         show (Ag_ _ 64).1.length<=64
         omega
     . exact tE
     . exact tD
   . refine bt (P:=λr:Bu_×In=>r.1.kept.length<=32/\NoB r.1) (λ_=>⟨Nat.zero_le _,λ_ h=>by cases h⟩) λe1=>?_
     simp only[BF,decide_eq_true_eq] at e1
     exact⟨by show kept.length<=32;omega,h e1⟩
theorem nread_ok(i:In):(Ed_ i).1.kept.length<=32/\NoB (Ed_ i).1:=by
 unfold Ed_ lt lt1;refine nread_ok0 _ _ _ _ _ _ (λ_ _ h=>by cases h) Y qZ λe=>?_
 revert e
 refine bt (P:=λj:In=>j.err=0->_) (λe1 e2=>?_) λe1=>bt (P:=λj:In=>j.err=0->_) (λe2 e3=>(Ly_ qZ e3).elim) λe2 _=>?_;exact sG;simp only[decide_eq_false_iff_not] at e2;omega
theorem nread_e0{r1:Int×In}:∀ (f:Nat) (k total:Int) (kept:List D2_) (x:In),k<r1.1+1->(r1.1-k).toNat<f->0<=k->r1.1<=255->(E5_ r1 f k total kept x).2.err=0->x.err=0
 |0,_,_,_,_,_,hf,_,_,_=>by omega
 |f+1,k,total,kept,x,hk,hf,h0,h5,h=>by
   rw[E5_] at h
   revert h
   refine bt (P:=λr:Bu_×In=>r.2.err=0->x.err=0) (λe h=>?_) λe=>?_
   . simp only[A3,decide_eq_true_eq] at e
     exact e.2
   . exact bt (P:=λr:Bu_×In=>r.2.err=0->x.err=0) (λ_ h=>h) λ_ h=>h
theorem binds_id(b:Ai_):Et_ b=b.binds:=binds_eq b
theorem shops_f{b:Ai_}(h:BkOk b)(h2:BkB b):(Gg_ b).length<=8/\∀ s∈Gg_ b,Kh_ s=0:=⟨h.1,λs hs=>(h2.1 s hs).1⟩
theorem binds_f{b:Ai_}(h:BkOk b)(h2:BkB b):(Et_ b).length<=32/\∀ s∈Et_ b,BiB s:=by
 rw[binds_id];exact⟨h.2.1,h2.2⟩
theorem bib_f{y:R_}(h:BiB y):y.Al_.length<=16/\y.to'.length<=16/\y.key.length<=64:=⟨h.1,O1_ h.2.1,h.2.2.1⟩
theorem kmake_pos(s:G_)(q:Aa_):(As_ s q).2=0->0<(As_ s q).1.rows.length:=by
 unfold As_ lt;let R:G_×Int->Prop:=λr=>r.2=0->0<r.1.rows.length;refine bt (P:=R) (λe h=>?_) λ_=>bt (P:=R) (λe _=>?_) λ_=>bt (P:=R) (λ_ h=>by cases h) λ_=>bt (P:=R) (λ_ h=>by cases h) λ_ _=>?_
 exact sF;simp only[A3,decide_eq_true_eq] at e;have :=at_b s q.name;have :=e.1;show 0<s.rows.length;omega;simp
def Gt_(x:Aq_):Nat->Nat->Out->Bs
 |0,_,_=>default
 | f4+1,v1,x4=>(bif decide ((v1:Int)<8) then
 Gt_ x f4 (v1+1) (D_ (D_ x4 ((A8.get x.spent v1).round) 8) (A0 .u64 ((A8.get x.spent v1).count)) 1)
 else x4.s)
def Hn_(x:Aq_):Nat->Nat->Out->Bs
 |0,_,_=>default
 | f5+1,v,x3=>(bif decide ((v:Int)<16) then
 Hn_ x f5 (v+1) (D_ x3 (A16.get x.seen v) 8)
 else Gt_ x (8-0+1) 0 x3)
def Ff_(x:Aq_):List R_->Out->Bs
 |[],x2=>lt (Y_ x.C_) λr2=>
 Hn_ x (16-0+1) 0 (A5_ (A5_ (D_ x2 (r2.length:Int) 4) r2) (Dt_ x.notes))
 |x5::t,x2=>Ff_ x t (D_ (A5_ (O_ (D_ (O_ (O_ x2 (x5.Al_)) (x5.to')) (F5_ (x5.up)) 1) (x5.key)) (Bv_ (x5.want))) (F5_ (x5.all)) 1)
def Gs_(x:Aq_)(r1:(List R_)):List X_->Out->Bs
 |[],x1=>Ff_ x r1 (D_ x1 (r1.length:Int) 1)
 |x6::t1,x1=>Gs_ x r1 t1 (O_ (D_ (O_ x1 (x6.name)) (x6.sort) 1) (x6.to'))
def E0_(x:Aq_):Bs:=
 lt (Gg_ x.book) λr=>
 lt (Et_ x.book) λr1=>
 Gs_ x r1 r (D_ aE (r.length:Int) 1)
def Bl_(s:G_)(r:Bs×In)(r1:Int×In)(r2:Int×In)(r3:Bs×In):Nat->List F_->Int->In->G_×In
 |0,_,_,_=>default
 | f2+1,items,n,x=>(bif ((decide (0<n))&&(decide (x.err=0))) then
 lt (Ah_ x 1) λr5=>
 lt (Em_ r5.2) λr6=>
 (bif ((decide (3<r5.1))||((!decide (s.next = 0))&&(decide (s.next <= r6.1.id)))) then
 Bl_ s r r1 r2 r3 f2 (items++[(⟨r6.1,decide ((r5.1%2)=1),decide ((r5.1/2)=1)⟩:F_)]) (A0 .u64 (n-1)) (B1_ r6.2 4)
 else Bl_ s r r1 r2 r3 f2 (items++[(⟨r6.1,decide ((r5.1%2)=1),decide ((r5.1/2)=1)⟩:F_)]) (A0 .u64 (n-1)) r6.2)
 else lt (Vp_ items) λr7=>
 (lt1 ((bif ((decide (r1.1<(A0 .u64 (Ej_ r7.1))))||(decide (0<=(I_ s r.1)))) then
 (B1_ (B1_ x r7.2) 4)
 else (B1_ x r7.2))) (λx1=>
 lt (As_ s (⟨r.1,r1.1,r2.1,r3.1⟩:Aa_)) λr8=>
 (bif decide (((B1_ x1 r8.2).err)=0) then
 lt (W_ r8.1 ((r8.1.rows.length:Int)-1) r7.1) λr9=>
 (r9,(B1_ x1 r8.2))
 else (r8.1,(B1_ x1 r8.2))))))
def Cu_(s:G_)(i:In):G_×In:=
 lt (Ag_ i 16) λr=>
 lt (Ah_ r.2 8) λr1=>
 lt (Ah_ r1.2 8) λr2=>
 lt (Ag_ r2.2 16) λr3=>
 lt (Ah_ r3.2 1) λr4=>
 Bl_ s r r1 r2 r3 ((r4.1).toNat+1) [] r4.1 r4.2
theorem stk_def:StkOk default/\RoB default:=⟨knew_ok 0 0 qZ,λ_ h=>by cases h⟩
theorem rob_make{s:G_}{q:Aa_}(h:RoB s):RoB (As_ s q).1:=cloB.km h
theorem rrow_ok0{s:G_}(hs:StkOk s)(hq:RoB s)(r:Bs×In)(r1 r2:Int×In)(r3:Bs×In):∀ (f:Nat) (items:List F_) (n:Int) (x:In),(∀ y∈items,MlOk y.P_)->StkOk (Bl_ s r r1 r2 r3 f items n x).1/\RoB (Bl_ s r r1 r2 r3 f items n x).1
 |0,_,_,_,_=>stk_def
 |f+1,items,n,x,hi=>by
   rw[Bl_]
   let R:G_×In->Prop:=λy=>StkOk y.1/\RoB y.1
   refine bt (P:=R) (λ_=>?_) λ_=>?_
   . have h1:=mls_app (x:=(⟨(Em_ (Ah_ x 1).2).1,decide (((Ah_ x 1).1%2)=1),decide (((Ah_ x 1).1/2)=1)⟩:F_)) hi (Pp_ (Ah_ x 1).2)
     unfold lt
     exact bt (P:=R) (λ_=>rrow_ok0 hs hq r r1 r2 r3 f _ _ _ h1) λ_=>rrow_ok0 hs hq r r1 r2 r3 f _ _ _ h1
   . unfold lt lt1
     refine bt (P:=R) (λe=>?_) λ_=>⟨Rp_ hs,rob_make hq⟩
     simp only[decide_eq_true_eq] at e
     have h2:=kmake_pos s _ (Wu_ e).2
     exact⟨Rq_ (Rp_ hs) (lof_ok hi) qX,Sk_ (rob_make hq)⟩
theorem rrow_ok{s:G_}(hs:StkOk s)(hq:RoB s)(i:In):StkOk (Cu_ s i).1/\RoB (Cu_ s i).1:=by
 unfold Cu_ lt;exact rrow_ok0 hs hq _ _ _ _ _ _ _ _ mls_nil
theorem knew_f(b n:Int)(h:n<=1000000):StkOk (Cf_ b n)/\RoB (Cf_ b n):=⟨knew_ok b n h,λ_ h=>by cases h⟩
def Hs_:Nat->Int->In->G_->In×G_
 |0,_,_,_=>default
 | f4+1,n1,x4,x5=>(bif ((decide (0<n1))&&(decide (x4.err=0))) then
 lt (Ah_ x4 1) λr5=>
 lt (Js_ r5.2) λr6=>
 (bif decide (16<=r5.1) then
 ((B1_ r6.2 4),x5)
 else Hs_ f4 (A0 .u64 (n1-1)) r6.2 (⟨x5.next,x5.bytes,x5.rows,(A16.set x5.rises r6.1 ((r5.1).toNat))⟩:G_))
 else (x4,x5))
def Fy_(text:Bs):Nat->Int->In->G_->G_×Int
 |0,_,_,_=>default
 | f5+1,n,x,x1=>(bif ((decide (0<n))&&(decide (x.err=0))) then
 lt (Cu_ x1 x) λr3=>
 Fy_ text f5 (A0 .u64 (n-1)) r3.2 r3.1
 else (lt2 (lt (Ah_ x 1) λr4=>
 Hs_ ((r4.1).toNat+1) r4.1 r4.2 x1) (λx2 x3=>
 (bif (((!decide ((inEnd x2)=0))||(decide ((C3_ x3)<0)))||(!decide ((Y_ x3)=text))) then
 (bO,4)
 else (x3,0)))))
def Iz_(text:Bs)(bytes:Int):G_×Int:=
 lt (Ah_ (⟨text,0⟩) 8) λr=>
 lt (Cf_ r.1 bytes) λr1=>
 lt (Ah_ r.2 1) λr2=>
 Fy_ text ((r2.1).toNat+1) r2.1 r2.2 r1
theorem kof_ok1:∀ (f:Nat) (n:Int) (x:In) (s:G_),StkOk s->RoB s->StkOk (Hs_ f n x s).2/\RoB (Hs_ f n x s).2
 |0,_,_,_,_,_=>stk_def
 |f+1,n,x,s,hs,hq=>by
   rw[Hs_]
   let R:In×G_->Prop:=λy=>StkOk y.2/\RoB y.2
   refine bt (P:=R) (λ_=>?_) λ_=>⟨hs,hq⟩
   unfold lt
   refine bt (P:=R) (λ_=>⟨hs,hq⟩) λe=>?_
   simp only[decide_eq_false_iff_not] at e
   have h0:=(B9_ x 1).1
   exact kof_ok1 f _ _ _ (hs.set _ qX (rread_ok _)) hq
theorem kof_ok0(text:Bs):∀ (f:Nat) (n:Int) (x:In) (s:G_),StkOk s->RoB s->StkOk (Fy_ text f n x s).1/\RoB (Fy_ text f n x s).1
 |0,_,_,_,_,_=>stk_def
 |f+1,n,x,s,hs,hq=>by
   rw[Fy_]
   let R:G_×Int->Prop:=λy=>StkOk y.1/\RoB y.1
   refine bt (P:=R) (λ_=>?_) λ_=>?_
   . have⟨h1,h2⟩:=rrow_ok hs hq x
     exact kof_ok0 text f _ _ _ h1 h2
   . unfold lt2 lt
     have h3:=kof_ok1 ((Ah_ x 1).1.toNat+1) (Ah_ x 1).1 (Ah_ x 1).2 s hs hq
     exact bt (P:=R) (λ_=>knew_f 0 0 qZ) λ_=>h3
theorem kof_ok(text:Bs)(n:Int)(hn:n<=1000000):StkOk (Iz_ text n).1/\RoB (Iz_ text n).1:=by
 unfold Iz_ lt;have⟨h1,h2⟩:=knew_f (Ah_ (⟨text,0⟩:In) 8).1 n hn;exact kof_ok0 text _ _ _ _ h1 h2
def Bb_(r:RdR):List T_->E_->Ai_×Bool×RdR
 |[],x1=>lt (A0_ x1) λr4=>
 (r4.book,true,(⟨(),r.H8_⟩:RdR))
 |x2::t,x1=>lt (A0_ x1) λr2=>
 lt (Z_ x1 x2) λr3=>
 (bif ((!decide (r3.2.2=0))||(Jh_ r2.book ((A0_ r3.1).book))) then
 (aW,false,(⟨(),r.H8_⟩:RdR))
 else Bb_ r t r3.1)
def Cj_(r:RdR):List Aa_->E_->Ai_×Bool×RdR
 |[],x=>Bb_ r r.H8_ x
 |x3::t1,x=>lt (Z_ x (⟨2,0,aR,x3,aS,[],0,0,0,0,0,aK,[]⟩:T_)) λr1=>
 Cj_ r t1 r1.1
def A9_(r:RdR)(s:E_)(queues:List Aa_):Ai_×Bool×RdR:=
 Cj_ r queues s
def U64(t:Int):Prop:=0<=t/\t<=18446744073709551615
structure Clw(T:Int->Prop)(W:Mail->Prop)(K:G_->Prop)(M:Bu_->Prop):Prop where
 kp:∀ {k n m},StkOk k->W m->K k->K (A6_ k n m).1/\W (A6_ k n m).2.2.1
 kl:∀ {k n},K k->K (Cb_ k n).1
 kr:∀ {k n i},K k->K (Ab_ k n i).1/\W (Ab_ k n i).2.1.P_
 kb:∀ {k n i},K k->K (Bz_ k n i).1
 ks:∀ {k p m},W m->K k->K (Ba_ k p m).1
 kw:∀ {k},StkOk k->K k->K (Da_ k)
 kt:∀ {k t},K k->W (Aw_ k t).2.1
 na:∀ {n x},T x.tick->0<=x.kind/\x.kind<=255->M n->M (Cn_ n x).1
 wd:∀ {m t l},W m->W ⟨0,m.Al_,m.key,m.head,m.body,Jd_ m.due t l,m.hops⟩
 wr:∀ {m},W m->W ⟨0,m.Al_,m.key,m.head,m.body,m.due,m.hops⟩
 wb:∀ {m s},W m->W ⟨m.id,s,m.key,m.head,m.body,0,IntKind.wrap .u8 (m.hops+1)⟩
 wp:∀ {m},W m->W ⟨m.id,m.Al_,m.key,m.head,m.body,m.due,IntKind.wrap .u8 (m.hops+1)⟩
def Sp(a:A8_SpentR):Prop:=∀ i,i<8->U64 (A8.get a i).round
theorem round_u{p:H_}{t:Int}(h:U64 t):U64 (Gh_ p t):=by
 unfold Gh_;have⟨h1,h2⟩:=h;have h3:0<=t/(p.slots.length:Int):=Int.ediv_nonneg h1 qX;have h4:t/(p.slots.length:Int)<=t:=Int.ediv_le_self _ h1;exact⟨h3,by omega⟩
theorem Sp.all{a:A8_SpentR}(h:Sp a)(k:Nat):U64 (A8.get a k).round:=by
 by_cases q:k<8;exact h k q;obtain⟨n,rfl⟩:∃ n,k=n+8:=⟨_,(FN qX).symm⟩;exact h 7 qZ
theorem Sp.set{a:A8_SpentR}(h:Sp a){x:A2_}(hx:U64 x.round)(k:Nat):Sp (A8.set a x k):=by
 have key:∀ k,k<8->Sp (A8.set a x k):=λk hk i hi=>by
   rw[A8.get_set _ _ _ _ hk hi]
   by_cases q:i=k
   . grind
   . rw[if_neg q];exact h i hi
 by_cases q:k<8;exact key k q;obtain⟨n,rfl⟩:∃ n,k=n+8:=⟨_,(FN qX).symm⟩;exact key 7 qZ
def seenW(s:E_)(d:T_):E_:=⟨⟨s.x.book,s.x.C_,s.x.notes,A16.set s.x.seen d.number d.frm.toNat,s.x.spent⟩,s.L_,s.place⟩
structure Kw(T:Int->Prop)(K:G_->Prop)(M:Bu_->Prop)(s0 s:E_):Prop where
 po:s.L_=s0.L_
 pl:s.place=s0.place
 bo:s.x.book=s0.x.book
 k:K s.x.C_
 n:M s.x.notes
 se:s.x.seen=s0.x.seen
 sp:(∀ t,T t->U64 t)->Sp s0.x.spent->Sp s.x.spent
section
variable{T:Int->Prop}{W:Mail->Prop}{K:G_->Prop}{M:Bu_->Prop}(C:Clw T W K M){s0 s:E_}
include C
omit C in
theorem Kw.C_(h:Kw T K M s0 s){k:G_}(hk:K k):Kw T K M s0 ⟨⟨s.x.book,k,s.x.notes,s.x.seen,s.x.spent⟩,s.L_,s.place⟩:=⟨h.po,h.pl,h.bo,hk,h.n,h.se,h.sp⟩
theorem Kw.note(h:Kw T K M s0 s){t k:Int}{x:Bs}(ht:T t)(hk:0<=k/\k<=255):Kw T K M s0 (A8_ s t k x):=⟨h.po,h.pl,h.bo,h.k,C.na ht hk h.n,h.se,h.sp⟩
theorem Kw.spend(h:Kw T K M s0 s){to' t:Int}(ht:T t):Kw T K M s0 (A1_ s to' t).1:=by
 unfold A1_ lt;let Q:E_×Int->Prop:=λr=>Kw T K M s0 r.1;refine bt (P:=Q) (λ_=>h) λ_=>lt1E (P:=Q) (λx:A2_=>(∀ t,T t->U64 t)->Sp s.x.spent->U64 x.round) ?_ λx hx=>bt (P:=Q) (λ_=>h) λ_=>⟨h.po,h.pl,h.bo,h.k,C.na ht ⟨(by decide :(0:Int)<=2),(by decide :(2:Int)<=255)⟩ h.n,h.se,λu q=>Sp.set (h.sp u q) (x:=⟨x.round,x.count+1⟩) (hx u (h.sp u q)) _⟩;exact bt (P:=λx:A2_=>(∀ t,T t->U64 t)->Sp s.x.spent->U64 x.round) (λ_ u _=>round_u (u _ ht)) λ_ _ q=>q.all _
def GnW(T:Int->Prop)(W:Mail->Prop)(K:G_->Prop)(M:Bu_->Prop)(s0:E_)(r:E_×List Er_×Int×Int):Prop:=Kw T K M s0 r.1/\∀ g∈r.2.1,W g.P_
section
variable{m:Mail}{tick:Int}{r:List Bs×List Bs×Int}
theorem send1_w{gone:List Er_}(ht:T tick)(hm:W m)(hs:Kw T K M s0 s)(hg:∀ g∈gone,W g.P_):∀ (t:List Bs) (n:Int) (x:E_),Kw T K M s0 x->GnW T W K M s0 (Bp_ s m tick r gone t n x)
 |[],n,x,hx=>⟨hx,hg⟩
 |q::t,n,x,hx=>by
   unfold Bp_ lt
   have h0:∀ e,GnW T W K M s0 (s,[],0,e):=λe=>⟨hs,(λ_ h=>by cases h)⟩
   refine lp1E (P:=GnW T W K M s0) (Kw T K M s0) ?_ λy hy=>?_
   . refine bt (P:=LoP _ _) (λ_=>?_) λ_=>hx
     exact bt (P:=LoP _ _) (λ_=>h0 _) λ_=>Kw.spend C hx ht
   . exact bt (P:=GnW T W K M s0) (λ_=>h0 _) λ_=>send1_w ht hm hs hg t _ _ (hy.C_ (C.ks (C.wr hm) hy.k))
theorem send0_w(ht:T tick)(hm:W m)(hs:Kw T K M s0 s)(h0:0<=m.hops):∀ (t:List Bs) (gone:List Er_) (n:Int) (x:E_),(∀ g∈gone,W g.P_)->StOk x->Kw T K M s0 x->GnW T W K M s0 (Bf_ s m tick r t gone n x)
 |[],gone,n,x,hg,_,hx=>by
   unfold Bf_
   exact send1_w C ht hm hs hg _ _ _ hx
 |q::t,gone,n,x,hg,ho,hx=>by
   unfold Bf_ lt
   refine bt (P:=GnW T W K M s0) (λ_=>send0_w ht hm hs h0 t _ _ x hg ho hx) λ_=>?_
   have hw:=C.wd (t:=tick) (l:=(Aj_ x.x.C_ q).1.life) hm
   generalize Jd_ m.due tick (Aj_ x.x.C_ q).1.life=due at hw ⊢
   have hp:=(Xv_ (s:=x.x.C_) (n:=q) (m:=⟨0,m.Al_,m.key,m.head,m.body,due,m.hops⟩) ho.stk h0).1
   have hk:=C.kp (n:=q) (m:=⟨0,m.Al_,m.key,m.head,m.body,due,m.hops⟩) ho.stk hw hx.k
   refine bt (P:=GnW T W K M s0) (λ_=>⟨hs,(λ_ h=>by cases h)⟩) λ_=>?_
   refine bt (P:=GnW T W K M s0) (λ_=>send0_w ht hm hs h0 t _ _ _ (λg q=>?_) (Co_ ho hp) (hx.C_ hk.1)) λ_=>send0_w ht hm hs h0 t _ _ _ hg (Co_ ho hp) (hx.C_ hk.1)
   rcases List.mem_append.1 q with q|q
   . exact hg g q
   . rw[List.mem_singleton.1 q];exact hk.2
theorem send_w(ht:T tick)(ho:StOk s)(hs:Kw T K M s0 s)(hm:W m)(h0:0<=m.hops):GnW T W K M s0 (Q_ s m tick):=by
 unfold Q_ lt;exact bt (P:=GnW T W K M s0) (λ_=>⟨hs,(λ_ h=>by cases h)⟩) λ_=>send0_w C ht hm hs h0 _ _ _ _ (λ_ h=>by cases h) ho hs
end
theorem bury_w0{tick:Int}(ht:T tick):∀ (f:Nat) (gone:List Er_) (lost:Int) (x:E_),Wd_ gone lost x->wtk x.x.C_+wto gone<f->(∀ g∈gone,W g.P_)->Kw T K M s0 x->Kw T K M s0 (Bt_ tick f gone lost x).1
 |0,_,_,_,_,h,_,_=>by omega
 |f+1,gone,lost,x,hI,hf,hg,hx=>by
   unfold Bt_ lt
   let Q:E_×Int->Prop:=λr=>Kw T K M s0 r.1
   refine bt (P:=Q) (λe=>?_) λ_=>hx
   have hn:0<gone.length:=by simpa using e
   have hd:∀ g∈gone.drop 1,W g.P_:=λg q=>hg g (AP q)
   refine bt (P:=Q) (λ_=>bury_w0 ht f _ _ _ (S0_ hI hn) (Vz_ hn hf) hd hx) λ_=>?_
   have hm:MlOk (gt gone 0).P_:=hI.2.1 _ (Gw_ hn)
   refine bt (P:=Q) (λ_=>?_) λe4=>?_
   . have h:=Ko_ (s:=x) (t:=tick) (k:=1) (x:=(gt gone 0).queue) hI.1
     exact bury_w0 ht f _ _ _ (Va_ hI h.1 h.2 hn) (Z7_ h.2 hn hf) hd (Kw.note C hx ht qZ)
   . simp only[AY,decide_eq_false_iff_not,BF,decide_eq_true_eq] at e4
     have hs:=Lt_ (s:=x) (m:=⟨(K_ (gt gone 0).P_).id,(Aj_ x.x.C_ (gt gone 0).queue).1.dead,(K_ (gt gone 0).P_).key,(K_ (gt gone 0).P_).head,(K_ (gt gone 0).P_).body,0,A0 .u8 ((K_ (gt gone 0).P_).hops+1)⟩) (tick:=tick) hI.1 Nq_
     have hw:=send_w C (tick:=tick) ht hI.1 hx (C.wb (m:=K_ (gt gone 0).P_) (s:=(Aj_ x.x.C_ (gt gone 0).queue).1.dead) (hg _ (Gw_ hn))) Nq_
     refine bury_w0 ht f _ _ _ (Vb_ hI hs.1 hs.2.1 hn Y hm e4.1 hs.2.2 Y e4.2) (W4_ hn hf Y hm e4.1 hs.2.2 Y e4.2) (λg q=>?_) hw.1
     rcases List.mem_append.1 (AP q) with q|q
     . exact hg g q
     . exact hw.2 g q
theorem bury_v{gone:List Er_}{tick:Int}(ht:T tick)(h:StOk s)(hg:gone.length<=600/\∀ g∈gone,MlOk g.P_)(hw:∀ g∈gone,W g.P_)(hs:Kw T K M s0 s):Kw T K M s0 (Bj_ s gone tick).1:=
 bury_w0 C ht _ gone 0 s (buryI0 h hg) (C2 _) hw hs
section
variable{d:T_}
theorem settle_w(ht:T d.tick)(h:StOk s)(hs:Kw T K M s0 s):Kw T K M s0 (Cg_ s d).1:=by
 unfold Cg_ lt;let Q:E_×Ak_×Int->Prop:=λr=>Kw T K M s0 r.1;refine bt (P:=Q) (λ_=>hs) λ_=>bt (P:=Q) (λ_=>hs.C_ (C.kb hs.k)) λ_=>have hr:=Iq_ (n:=d.name) (id:=d.id) h.stk;have hk:=C.kr (n:=d.name) (i:=d.id) hs.k;bt (P:=Q) (λ_=>bury_v C ht (Co_ h hr.1) ⟨by simp,λg hg=>?_⟩ (λg hg=>?_) (hs.C_ hk.1)) λ_=>hs.C_ hk.1;grind;grind
theorem late_w0{t:Int}(ht:T t):∀ (f:Nat) (gone:List Er_) (x:E_),StOk x->(∀ g∈gone,MlOk g.P_)->(∀ g∈gone,W g.P_)->gone.length+nik x.x.C_<=512->nik x.x.C_<f->Kw T K M s0 x->Kw T K M s0 (C5_ t f gone x).1
 |0,_,_,_,_,_,_,h,_=>by omega
 |f+1,gone,x,h,hg,hw,hl,hf,hs=>by
   unfold C5_ lt
   let Q:E_×Ak_->Prop:=λr=>Kw T K M s0 r.1
   refine bt (P:=Q) (λ_=>bury_v C ht h ⟨by omega,hg⟩ hw hs) λe=>?_
   have e':(Aw_ x.x.C_ t).2.2=true:=by simpa using e
   have hr:=Iq_ (n:=(Aw_ x.x.C_ t).1) (id:=(Aw_ x.x.C_ t).2.1.id) h.stk
   refine late_w0 ht f _ _ (Co_ h hr.1) (λg q=>?_) (λg q=>?_) (X9_ h.stk Y e' Y hl) (Ya_ h.stk Y e' Y hf) (hs.C_ (C.kr hs.k).1)
   . rcases List.mem_append.1 q with q|q
     . exact hg g q
     . rw[List.mem_singleton.1 q];exact T5_ h.stk
   . rcases List.mem_append.1 q with q|q
     . exact hw g q
     . rw[List.mem_singleton.1 q];exact C.kt hs.k
theorem late_w{t:Int}(ht:T t)(h:StOk s)(hs:Kw T K M s0 s):Kw T K M s0 (Eu_ s t).1:=
 late_w0 C ht _ [] s h (λ_ h=>by cases h) (λ_ h=>by cases h) mD (C2 _) hs
theorem put_w(ht:T d.tick)(h:StOk s)(h0:0<=d.P_.hops)(hm:W d.P_)(hs:Kw T K M s0 s):Kw T K M s0 (D8_ s d).1:=by
 unfold D8_ lt;let Q:E_×Ak_×Int->Prop:=λr=>Kw T K M s0 r.1;have h1:=Lt_ (s:=s) (m:=K_ d.P_) (tick:=d.tick) h h0;have hl:=Mv_ (s:=s) (m:=K_ d.P_) (tick:=d.tick) h;have hw:=send_w C (m:=K_ d.P_) (tick:=d.tick) ht h hs hm h0;exact bt (P:=Q) (λ_=>hs) λ_=>bury_v C ht h1.1 ⟨by omega,h1.2.1⟩ hw.2 hw.1
theorem lend_w(hs:Kw T K M s0 s):Kw T K M s0 (Db_ s d).1:=by
 unfold Db_ lt;let Q:E_×Ak_×Int->Prop:=λr=>Kw T K M s0 r.1;exact bt (P:=Q) (λ_=>hs) λ_=>bt (P:=Q) (λ_=>hs) λ_=>hs.C_ (C.kl hs.k)
theorem pull_w(ht:T d.tick)(h:StOk s)(hm:W d.P_)(hs:Kw T K M s s):Kw T K M s (Cv_ s d).1\/Kw T K M (seenW s d) (Cv_ s d).1:=by
 unfold Cv_ lt;let Q:E_×Ak_×Int->Prop:=λr=>Kw T K M s r.1\/Kw T K M (seenW s d) r.1;refine bt (P:=Q) (λ_=> .inl hs) λ_=>bt (P:=Q) (λ_=> .inl hs) λ_=>bt (P:=Q) (λ_=> .inl hs) λ_=>?_;let I:E_->Prop:=λx=>StOk x/\Kw T K M (seenW s d) x;have h2:Kw T K M (seenW s d) (⟨(⟨s.x.book,s.x.C_,s.x.notes,(A16.set s.x.seen d.number ((d.frm).toNat)),s.x.spent⟩:Aq_),s.L_,s.place⟩:E_):=⟨rfl,rfl,rfl,hs.k,hs.n,rfl,λ_=>id⟩;refine lt1E (P:=Q) I ?_ λx hx=>?_;exact bt (P:=I) (λ_=>⟨(Ko_ (Eg_ h)).1,Kw.note C h2 ht qZ⟩) λ_=>⟨Eg_ h,h2⟩;exact bt (P:=Q) (λ_=> .inr (Kw.note C hx.2 ht qZ)) λ_=>have h1:=Lt_ (s:=x) (m:=⟨(K_ d.P_).id,(K_ d.P_).Al_,(K_ d.P_).key,(K_ d.P_).head,(K_ d.P_).body,(K_ d.P_).due,A0 .u8 ((K_ d.P_).hops+1)⟩) (tick:=d.tick) hx.1 Nq_;have hl:=Mv_ (s:=x) (m:=⟨(K_ d.P_).id,(K_ d.P_).Al_,(K_ d.P_).key,(K_ d.P_).head,(K_ d.P_).body,(K_ d.P_).due,A0 .u8 ((K_ d.P_).hops+1)⟩) (tick:=d.tick) hx.1;have hw:=send_w C (tick:=d.tick) ht hx.1 hx.2 (C.wp (m:=K_ d.P_) hm) Nq_;.inr (bury_v C ht h1.1 ⟨by omega,h1.2.1⟩ hw.2 hw.1)
theorem do_w(ht:T d.tick)(hc:0<=d.code/\d.code<=255)(h:StOk s)(h0:0<=d.P_.hops)(hm:W d.P_)(hs:Kw T K M s s):(Z_ s d).1=s\/(Kw T K M s (Z_ s d).1\/Kw T K M (seenW s d) (Z_ s d).1)\/(Z_ s d).1=(Bq_ s d).1\/(Z_ s d).1=(Ao_ s d).1:=by
 unfold Z_ lt;let Q:E_×Ak_×Int->Prop:=λr=>r.1=s\/(Kw T K M s r.1\/Kw T K M (seenW s d) r.1)\/r.1=(Bq_ s d).1\/r.1=(Ao_ s d).1;refine bt (P:=Q) (λe=> .inl Y) λ_=>?_;let I:Int×E_×Ak_->Prop:=λr=>(Kw T K M s r.2.1\/Kw T K M (seenW s d) r.2.1)\/r.2.1=(Bq_ s d).1\/r.2.1=(Ao_ s d).1;refine lt3E (P:=Q) I ?_ λa b c hb=>bt (P:=Q) (λe=> .inl Y) λe=> .inr hb;refine lt1E (P:=I) (λv:Bool=>True) Z λv hv=>bt (P:=I) (λe=> .inr (.inl Y)) λ_=>bt (P:=I) (λe=> .inl (.inl (put_w C ht h h0 hm hs))) λ_=>bt (P:=I) (λe=> .inl (.inl (lend_w C hs))) λ_=>bt (P:=I) (λe=> .inl (.inl (settle_w C ht h hs))) λ_=>bt (P:=I) (λe=> .inl (.inl (late_w C ht h hs))) λ_=>bt (P:=I) (λe=> .inl (pull_w C ht h hm hs)) λ_=>bt (P:=I) (λ_=> .inl (.inl (Kw.note C (s:=⟨⟨s.x.book,Da_ s.x.C_,s.x.notes,s.x.seen,s.x.spent⟩,s.L_,s.place⟩) (hs.C_ (C.kw h.stk hs.k)) ht qZ))) λ_=>bt (P:=I) (λ_=> .inl (.inl ⟨rfl,rfl,rfl,hs.k,C.na ht hc hs.n,rfl,λ_=>id⟩)) λ_=> .inr (.inr Y)
end
end
def ShB(s:E_)(d:T_)(b:Ai_):Prop:=b=s.x.book\/b=(B5_ s.x.book d.Al_).1\/b=(Dx_ s.x.book d.name).1\/b=(C2_ s.x.book d.bind).1\/b=(Bh_ s.x.book d.bind).1
theorem shops_x(s:E_)(d:T_):∃ b,(Ao_ s d).1=⟨⟨b,s.x.C_,s.x.notes,s.x.seen,s.x.spent⟩,s.L_,s.place⟩/\ShB s d b:=by
 unfold Ao_ lt;let Q:E_×Int->Prop:=λr=>∃ b,r.1=⟨⟨b,s.x.C_,s.x.notes,s.x.seen,s.x.spent⟩,s.L_,s.place⟩/\ShB s d b;have hn:∀ {e},Q (s,e):=⟨_,rfl, .inl Y⟩;refine bt (P:=Q) (λ_=>?_) λ_=>?_;refine lp0E (P:=Q) (λ_=>True) ?_ λ_=>⟨_,rfl, .inr (.inl Y)⟩;refine bt (P:=LoP _ _) (λ_=>?_) λ_=>trivial;exact xO;refine bt (P:=Q) (λ_=>⟨_,rfl, .inr (.inr (.inl Y))⟩) λ_=>bt (P:=Q) (λ_=>⟨_,rfl, .inr (.inr (.inr (.inl Y)))⟩) λ_=>lp0E (P:=Q) (λ_=>True) ?_ λ_=>⟨_,rfl, .inr (.inr (.inr (.inr Y)))⟩;exact lt1E (P:=LoP _ _) (λ_=>True) Z λv _=>xO
theorem queues_x(s:E_)(d:T_):∃ b k,(Bq_ s d).1=⟨⟨b,k,s.x.notes,s.x.seen,s.x.spent⟩,s.L_,s.place⟩/\(k=(As_ s.x.C_ d.queue).1\/k=(Bg_ s.x.C_ d.name).1)/\(b=s.x.book\/b=C1_ s.x.book d.name):=by
 unfold Bq_ lt;let Q:E_×Int->Prop:=λr=>∃ b k,r.1=⟨⟨b,k,s.x.notes,s.x.seen,s.x.spent⟩,s.L_,s.place⟩/\(k=(As_ s.x.C_ d.queue).1\/k=(Bg_ s.x.C_ d.name).1)/\(b=s.x.book\/b=C1_ s.x.book d.name);exact bt (P:=Q) (λ_=>⟨_,_,rfl, .inl Y, .inl Y⟩) λ_=>bt (P:=Q) (λ_=>⟨_,_,rfl, .inr Y, .inr Y⟩) λ_=>⟨_,_,rfl, .inr Y, .inl Y⟩
theorem cloBw:Clw (λ_=>True) (λ_=>True) RoB NoB where
 kp:=λhs _ h=>⟨cloB.kp hs h,trivial⟩
 kl:=cloB.kl
 kr:=λh=>⟨cloB.kr h,trivial⟩
 kb:=cloB.kb
 ks:=λ_ h=>cloB.ks h
 kw:=cloB.kw
 kt:=λ_=>trivial
 na:=λ_ hk h=>cloB.na hk h
 wd:=λh=>h
 wr:=λh=>h
 wb:=λ_=>trivial
 wp:=λ_=>trivial
theorem doB{s:E_}{d:T_}(hc:0<=d.code/\d.code<=255)(h:StOk s)(h0:0<=d.P_.hops)(hq:0<=d.Al_.sort)(hw:∀ p∈d.bind.want,p.wf)(hs:StB s):StB (Z_ s d).1:=by
 have⟨h1,h2,h3⟩:=hs;have key:∀ s0 t:E_,s0.x.book=s.x.book->Kw (λ_=>True) RoB NoB s0 t->StB t:=λs0 t e k=>⟨by rw[k.bo,e];exact h1,k.k,k.n⟩
 rcases do_w cloBw trivial hc h h0 trivial (⟨rfl,rfl,rfl,h2,h3,rfl,λ_=>id⟩:Kw (λ_=>True) RoB NoB s s) with e|(e|e)|e|e
 rw[e];exact⟨h1,h2,h3⟩;exact key _ _ Y e;exact key (seenW s d) _ Y e;have⟨b,k,e2,e3,e4⟩:=queues_x s d;rw[e,e2];refine⟨?_,?_,h3⟩
 . show BkB b
   rcases e4 with rfl|rfl
   exact h1
   exact cloB.fg h1
 . show RoB k
   rcases e3 with rfl|rfl
   exact cloB.km h2
   exact cloB.kd h2
 . have⟨b,e2,e3⟩:=shops_x s d
   rw[e,e2]
   refine⟨?_,h2,h3⟩
   show BkB b
   rcases e3 with rfl|rfl|rfl|rfl|rfl
   exact h1
   exact cloB.ma hq h1
   exact cloB.dp h1
   exact cloB.ub h1
   exact cloB.bd hw h1
def EqT(i:In)(m:Int)(r:Bs×In):Prop:=Ag_ i m=r
def EqN(i:In)(m:Int)(r:Int×In):Prop:=Ah_ i m=r
def EqR(i:In)(m:Int)(r:Bs×In):Prop:=F6_ i m=r
def EqH(i:In)(r:List Pair×In):Prop:=Cd_ i=r
def EqO(i:In)(r:Bu_×In):Prop:=Ed_ i=r
theorem book_ok1(r:RdR):∀ (t:List T_) (s:E_),StOk s->StB s->(∀ d∈t,DdG d)->BkOk (Bb_ r t s).1/\BkB (Bb_ r t s).1
 |[],s,hs,hb,_=>⟨hs.1.1,hb.1⟩
 |d::t,s,hs,hb,hd=>by
   rw[Bb_]
   unfold lt
   let R:Ai_×Bool×RdR->Prop:=λy=>BkOk y.1/\BkB y.1
   have⟨h1,h2,h3,h4,h5,h6⟩:=hd d pC
   refine bt (P:=R) (λ_=>⟨⟨by simp,by simp,λ_ h=>by cases h⟩,(λ_ h=>by cases h),λ_ h=>by cases h⟩) λ_=>?_
   exact book_ok1 r t _ (do_ok hs h1 h4) (doB ⟨h2,h3⟩ hs h4 h5 h6 hb) λy hy=>hd y pQ
theorem book_ok0(r:RdR):∀ (t:List Aa_) (s:E_),StOk s->StB s->(∀ d∈r.H8_,DdG d)->BkOk (Cj_ r t s).1/\BkB (Cj_ r t s).1
 |[],s,hs,hb,hd=>by rw[Cj_];exact book_ok1 r _ s hs hb hd
 |q::t,s,hs,hb,hd=>by
   rw[Cj_]
   unfold lt
   have⟨h1,h2,h3,h4,h5,h6⟩:=ddq q
   exact book_ok0 r t _ (do_ok hs h1 h4) (doB ⟨h2,h3⟩ hs h4 h5 h6 hb) hd
theorem book_ok(r:RdR)(s:E_)(queues:List Aa_)(hs:StOk s)(hb:StB s)(hd:∀ d∈r.H8_,DdG d):BkOk (A9_ r s queues).1/\BkB (A9_ r s queues).1:=book_ok0 r queues s hs hb hd
theorem nread_err{i:In}(h:(Ed_ i).2.err=0):i.err=0:=by
 unfold Ed_ lt lt1 at h;have h1:=B9_ (Ah_ i 8).2 1;have h2:=nread_e0 _ _ _ _ _ qX qX qZ (h1.2.2.2 qZ) h
 revert h2
 have h3:(Ah_ (Ah_ i 8).2 1).2.err=0->i.err=0:=λe=>(Pk_ (Pk_ e).1).1;refine bt (P:=λj:In=>j.err=0->i.err=0) (λ_=>h3) λ_=>bt (P:=λj:In=>j.err=0->i.err=0) (λ_ e=>h3 (Wu_ e).1) λ_=>bt (P:=λj:In=>j.err=0->i.err=0) (λ_ e=>h3 (Wu_ e).1) λ_=>h3
theorem dds_mono{i j:In}{l:List T_}(h:DdsG i l)(he:j.err=0->i.err=0):DdsG j l:=λe=>h (he e)
theorem S1_{i:In}{n:Int}{r:_}{l:List T_}(h:DdsG i l)(h1:Ah_ i n=r):DdsG r.2 l:=dds_mono h λe=>by subst h1;exact (Pk_ e).1
theorem dds_raw{i:In}{n:Int}{r:_}{l:List T_}(h:DdsG i l)(h1:F6_ i n=r):DdsG r.2 l:=dds_mono h λe=>by subst h1;exact (T4_ e).1
theorem dds_notes{i:In}{r:_}{l:List T_}(h:DdsG i l)(h1:Ed_ i=r):DdsG r.2 l:=dds_mono h λe=>by subst h1;exact nread_err e
theorem inEnd_e{i:In}(h:inEnd i=0):i.err=0:=by
 unfold inEnd at h
 split at h
 omega;exact h
def PkOk(x:Aq_):Prop:=StkOk x.C_/\RoB x.C_/\x.notes.kept.length<=32/\NoB x.notes
theorem imOk_of{b:Ai_}{x:Aq_}{a:_}{c:_}(h:BkOk b/\BkB b)(k:PkOk x):ImOk ⟨b,x.C_,x.notes,a,c⟩:=⟨h.1,h.2,k⟩
theorem Yy_{p:H_}{k:Int}(hp:PoOk p)(hk:0<=k/\k<p.places.length):(gt p.places k.toNat).bytes<=1000000:=by
 have h1:=hp.2.2.2.2.2.2 (gt p.places k.toNat) (Gw_ qX);omega
def Ei_(text:Bs)(p:H_)(place:Int)(deeds1:List T_)(r13:G_×Int):Nat->Int->Nat->In->Aq_->Aq_×Int
 |0,_,_,_,_=>default
 | f8+1,e_1,v1,x4,x5=>(bif decide ((v1:Int)<8) then
 lt (Ah_ x4 8) λr16=>
 lt (Ah_ r16.2 1) λr17=>
 (bif decide (16<((A8.get (A8.set x5.spent (⟨r16.1,r17.1⟩:A2_) v1) v1).count)) then
 Ei_ text p place deeds1 r13 f8 4 (v1+1) r17.2 (⟨x5.book,x5.C_,x5.notes,x5.seen,(A8.set x5.spent (⟨r16.1,r17.1⟩:A2_) v1)⟩:Aq_)
 else Ei_ text p place deeds1 r13 f8 e_1 (v1+1) r17.2 (⟨x5.book,x5.C_,x5.notes,x5.seen,(A8.set x5.spent (⟨r16.1,r17.1⟩:A2_) v1)⟩:Aq_))
 else (bif ((!decide ((inEnd x4)=0))||(!decide (e_1=0))) then
 (bP,4)
 else lt (Av_ p place) λr18=>
 lt (Bk_ (r13.1)) λr19=>
 lt (A9_ (⟨(),deeds1⟩:RdR) r18 r19) λr20=>
 (bif ((!r20.2.1)||(!decide ((E0_ (⟨(r20.1),x5.C_,x5.notes,x5.seen,x5.spent⟩:Aq_))=text))) then
 (bP,4)
 else ((⟨(r20.1),x5.C_,x5.notes,x5.seen,x5.spent⟩:Aq_),0))))
def Fh_(text:Bs)(p:H_)(place:Int)(deeds1:List T_)(r13:G_×Int):Nat->Nat->In->Aq_->Aq_×Int
 |0,_,_,_=>default
 | f9+1,v,x2,x3=>(bif decide ((v:Int)<16) then
 lt (Ah_ x2 8) λr15=>
 Fh_ text p place deeds1 r13 f9 (v+1) r15.2 (⟨x3.book,x3.C_,x3.notes,(A16.set x3.seen r15.1 v),x3.spent⟩:Aq_)
 else Ei_ text p place deeds1 r13 (8-0+1) r13.2 0 x2 x3)
def Dp_(text:Bs)(p:H_)(place:Int):Nat->Int->In->List T_->Aq_×Int
 |0,_,_,_=>default
 | f10+1,n1,x1,deeds1=>(bif ((decide (0<n1))&&(decide (x1.err=0))) then
 lt (Ag_ x1 16) λr5=>
 lt (Ag_ ((r5).2) 16) λr6=>
 lt (Ah_ ((r6).2) 1) λr7=>
 lt (Ag_ ((r7).2) 64) λr8=>
 lt (Cd_ r8.2) λr9=>
 lt (Ah_ r9.2 1) λr10=>
 Dp_ text p place f10 (A0 .u64 (n1-1)) r10.2 (deeds1++[(⟨4,0,aR,aO,(⟨(r5).1,(r6).1,decide (((r7).1)=1),r8.1,r9.1,decide (r10.1=1)⟩:R_),[],0,0,0,0,0,aK,[]⟩:T_)])
 else lt (Ah_ x1 4) λr11=>
 lt (F6_ ((r11).2) (A0 .i64 ((r11).1))) λr12=>
 lt (Iz_ (r12.1) ((gt p.places ((place).toNat)).bytes)) λr13=>
 lt (Ed_ (r12.2)) λr14=>
 Fh_ text p place deeds1 r13 (16-0+1) 0 (r14.2) (⟨aW,(r13.1),(r14.1),(⟨0,0,0,0,0,0,0,0,0,0,0,0,0,0,0,0⟩:A16_u64),(⟨aJ,aJ,aJ,aJ,aJ,aJ,aJ,aJ⟩:A8_SpentR)⟩:Aq_))
def Fg_(text:Bs)(p:H_)(place:Int):Nat->Int->In->List T_->Aq_×Int
 |0,_,_,_=>default
 | f11+1,n,x,H8_=>(bif ((decide (0<n))&&(decide (x.err=0))) then
 lt (Ag_ x 16) λr1=>
 lt (Ah_ ((r1).2) 1) λr2=>
 lt (Ag_ ((r2).2) 16) λr3=>
 Fg_ text p place f11 (A0 .u64 (n-1)) r3.2 (H8_++[(⟨0,0,(⟨(r1).1,(r2).1,r3.1⟩:X_),aO,aS,[],0,0,0,0,0,aK,[]⟩:T_)])
 else lt (Ah_ x 1) λr4=>
 Dp_ text p place ((r4.1).toNat+1) r4.1 r4.2 H8_)
def Ld_(text:Bs)(p:H_)(place:Int):Aq_×Int:=
 lt (Ah_ (⟨text,0⟩) 1) λr=>
 Fg_ text p place ((r.1).toNat+1) r.1 r.2 []
theorem im_st{s:E_}(h:StOk s)(k:StB s):ImOk (A0_ s):=⟨h.1.1,k.1,h.1.2.1,k.2.1,h.1.2.2.1,k.2.2⟩
theorem bit_n(b:Bool):(F5_ b).toNat=bitM b:=by cases b<;>rfl
theorem ib0(x:Aq_)(r1:List R_):∀ (t:List X_) (o:Out),(∀ s∈t,Kh_ s=0)->Gs_ x r1 t o=Ff_ x r1 (D_ ⟨o.s++t.flatMap Te_,o.err⟩ (r1.length:Int) 1)
 |[],o,_=>by rw[Gs_];simp
 |y::t,o,h=>by
   have hy:=Vx_ (h y pC)
   rw[Gs_,ib0 x r1 t _ (λz hz=>h z pS),Cz_ (s:=y.name) qX,Hb_ (n:=y.sort),Cz_ (s:=y.to') qX]
   simp[Te_,A6]
theorem ib1(x:Aq_):∀ (t:List R_) (o:Out),(∀ y∈t,BiB y)->Ff_ x t o=Ff_ x [] ⟨o.s++t.flatMap M1_,o.err⟩
 |[],o,_=>by simp
 |y::t,o,h=>by
   have hy:=bib_f (h y pC)
   rw[Ff_.eq_2,ib1 x t _ (λz hz=>h z pS),Cz_ (s:=y.Al_) qX,Cz_ (s:=y.to') qX,Hb_ (n:=F5_ y.up),Cz_ (s:=y.key) qX,Hb_ (n:=F5_ y.all),bit_n,bit_n]
   simp[M1_,A5_,A6]
theorem nb_eq0:∀ (t:List D2_) (o:Out),(∀ y∈t,y.text.length<=64)->Cy_ t o=o.s++t.flatMap So_
 |[],o,_=>by simp[Cy_]
 |y::t,o,h=>by
   have hy:=h y pC
   rw[Cy_,nb_eq0 t _ (λz hz=>h z pS),Hb_,Mg_,Cz_ qX]
   simp[So_,A6]
theorem nb_eq{n:Bu_}(h:NoB n):Dt_ n=Mj_ n:=by
 unfold Dt_;rw[nb_eq0 _ _ (λy hy=>(h y hy).1),Hb_,Mg_];simp[Mj_]
def Ub_:Bool:=
 lt (Av_ bC 0) λr=>
 lt (A0_ r) λr1=>
 lt (E0_ r1) λr2=>
 lt (Ld_ r2 bC 0) λr3=>
 ((((X8_)&&(decide ((r2.length:Int)=225)))&&(decide (r3.2=0)))&&(decide ((Mi_ r3.1.C_)=1)))
def J4_(name:Bs):List Bn_->Nat->Int
 |[],k=>(-1)
 | x::t,k=>(bif decide ((x.name)=name) then
 (k:Int)
 else J4_ name t (k+1))
def Ku_(p:H_)(name:Bs):Int:=
 J4_ name p.places 0
def Kv_(p:H_)(from_:Int)(to_:Int):Bool:=
 ((((((!decide (from_=to_))&&(decide (0<=from_)))&&(decide (from_<(p.places.length:Int))))&&(decide (0<=to_)))&&(decide (to_<(p.places.length:Int))))&&(O3_ ((gt p.places ((from_).toNat)).label) ((gt p.places ((to_).toNat)).label)))
def Ib_(from_:Int)(to_:Int):List Cc_->Nat->Int
 |[],k=>(-1)
 | x::t,k=>(bif ((decide ((x.frm)=from_))&&(decide ((x.to')=to_))) then
 (k:Int)
 else Ib_ from_ to_ t (k+1))
def Fx_(p:H_)(from_:Int)(to_:Int):Int:=
 Ib_ from_ to_ p.grants 0
def Lm_(id:Int):List F_->Nat->Int
 |[],k=>(-1)
 | x::t,k=>(bif decide ((x.P_.id)=id) then
 (k:Int)
 else Lm_ id t (k+1))
def N5_(l:List F_)(id:Int):Int:=
 Lm_ id l 0
def Kf_:List F_->Mail×Bool
 |[]=>(aK,false)
 | x::t=>(bif !(x.Nr_) then
 (x.P_,true)
 else Kf_ t)
def Q6_(l:List F_):Mail×Bool:=
 Kf_ l
def Gy_(l:List F_)(x:F_):List F_->Int->(List F_)×Int
 | [],e_1=>(lt1 ((bif ((decide (e_1=0))&&(decide (64<=(l.length:Int)))) then
 12
 else e_1)) (λe_2=>
 (bif !decide (e_2=0) then
 (l,e_2)
 else ((l++[x]),0))))
 | x1::t,e_1=>(bif ((decide (e_1=0))&&(decide (x.P_.id<=(x1.P_.id)))) then
 Gy_ l x t 13
 else Gy_ l x t e_1)
def Vt_(l:List F_)(x:F_):(List F_)×Int:=
 Gy_ l x l (D6_ x.P_)
def Ie_(l:List F_)(m:Mail):(List F_)×Int:=
 lt (Vt_ l (⟨m,false,false⟩:F_)) λr=>
 (r.1,r.2)
def E6_(l:List F_)(r:Int):List F_->Nat->List F_->(List F_)×F_×Int
 |[],k,out=>(out,(gt l ((r).toNat)),0)
 | x::t,k,out=>(bif !decide ((k:Int)=r) then
 E6_ l r t (k+1) (out++[x])
 else E6_ l r t (k+1) out)
def Kg_(l:List F_)(id:Int):(List F_)×F_×Int:=
 lt (N5_ l id) λr=>
 (bif decide (r<0) then
 (l,aV,10)
 else E6_ l r l 0 [])
def E7_(k:Int)(x:F_):List F_->Nat->List F_->(List F_)
 |[],k1,out=>out
 | x1::t,k1,out=>(bif decide ((k1:Int)=k) then
 E7_ k x t (k1+1) (out++[x])
 else E7_ k x t (k1+1) (out++[x1]))
def Hw_(l:List F_)(k:Int)(x:F_):(List F_):=
 E7_ k x l 0 []
def I8_(l:List F_):List F_->Nat->(List F_)×F_×Bool
 |[],k=>(l,aV,false)
 | x::t,k=>(bif !(x.Nr_) then
 lt (Hw_ l (k:Int) (⟨x.P_,true,x.again⟩:F_)) λr=>
 (r,(⟨x.P_,true,x.again⟩:F_),true)
 else I8_ l t (k+1))
def Px_(l:List F_):(List F_)×F_×Bool:=
 I8_ l l 0
def Pw_(l:List F_)(id:Int):(List F_)×Int:=
 lt (N5_ l id) λr=>
 (bif decide (r<0) then
 (l,10)
 else (bif !((gt l ((r).toNat)).Nr_) then
 (l,13)
 else lt (Hw_ l r (⟨(gt l ((r).toNat)).P_,false,true⟩:F_)) λr1=>
 (r1,0)))
def Ln_(tick:Int):List F_->Mail×Bool
 |[]=>(aK,false)
 | x::t=>(bif (((!(x.Nr_))&&(decide (0<(x.P_.due))))&&(decide ((x.P_.due)<=tick))) then
 (x.P_,true)
 else Ln_ tick t)
def Sc_(l:List F_)(tick:Int):Mail×Bool:=
 Ln_ tick l
def G2_:List F_->List F_->(List F_)
 |[],out=>out
 |x::t,out=>G2_ t (out++[(⟨x.P_,false,((x.again)||(x.Nr_))⟩:F_)])
def Ms_(l:List F_):(List F_):=
 G2_ l []
def Q7_(n:Bu_)(x:D2_):Bu_×Int:=
 (bif decide (64<(x.text.length:Int)) then
 (n,5)
 else (bif decide (n.total=18446744073709551615) then
 (n,18)
 else (bif decide (32<((n.kept++[x]).length:Int)) then
 ((⟨(A0 .u64 (n.total+1)),((n.kept++[x]).drop 1)⟩:Bu_),0)
 else ((⟨(A0 .u64 (n.total+1)),(n.kept++[x])⟩:Bu_),0))))
def Kz_(x:Az_)(m:Mail):Az_×Int:=
 (lt1 ((bif ((decide ((D6_ m)=0))&&(decide (x.total=18446744073709551615))) then
 18
 else (D6_ m))) (λe_1=>
 (bif !decide (e_1=0) then
 (x,e_1)
 else (bif decide (16<((x.kept++[m]).length:Int)) then
 ((⟨(A0 .u64 (x.total+1)),((x.kept++[m]).drop 1)⟩:Az_),0)
 else ((⟨(A0 .u64 (x.total+1)),(x.kept++[m])⟩:Az_),0)))))
end Go.SW.V
