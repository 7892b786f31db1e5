/-
  A part of the proof of VaultAgain: Elements of lists that are owned: places told by a number, read and written. Over any program; each asks what
-/
import Derived.Test.YtfojlhfchpkhlaaGreatDoorVaultAgainP2
import Derived.Lib.Repeat
import Derived.Lib.FieldsP
import Derived.Lib.ParseIntB
import Derived.Lib.SmallJoins
set_option linter.unusedVariables false
set_option linter.unusedSimpArgs false
set_option maxRecDepth 100000
set_option maxHeartbeats 4000000
open BitVec renaming ofInt->AF
open Bool renaming and_eq_true->A5,not_eq_eq_eq_not->F4,not_false->AE,not_true->A2,or_eq_false_iff->AO
open ByteArray renaming size->CV
open Go.Builtin renaming copy_->DB,firstCells->AK,lenOf->BS
open Go.Instr renaming index->GO,makeSlice->FV
open Go.IntKind renaming bits->AC,wrap->A0
open Go.Lib renaming repeatL->AY,countB->DW,count_miss->EV,goFieldsP->GP,index->BG,parseUintB->EI,splitK->G7
open Go.Op renaming eqItems->FW
open Go.Oper renaming wp->BJ
open Int renaming le_refl->BX,toNat_natCast->AI,toNat_of_nonneg->CM
open List renaming all_cons->ET,all_eq_true->CY,append_assoc->A7,append_nil->AJ,drop_append->C5,drop_append_of_le_length->E0,drop_eq_nil_of_le->D4,drop_of_length_le->A9,drop_take->DG,eq_of_mem_replicate->EK,find?_eq_none->FP,flatten_cons->AP,flatten_nil->AU,getElem?_drop->CO,getElem?_eq_getElem->AA,getElem?_map->B8,getElem?_set->CS,getElem?_take->BA,getElem_map->CZ,isPrefixOf->E9,length_append->A1,length_cons->A3,length_drop->AM,length_map->C8,length_nil->A6,length_replicate->BN,length_take->B5,map_append->BK,map_cons->BC,map_map->EW,map_nil->DC,mem_cons_of_mem->AB,mem_cons_self->AG,mem_of_getElem?->A4,mem_of_mem_drop->AX,mem_of_mem_take->CF,mem_or_eq_of_mem_set->BO,replicate->AH,replicate_succ->FJ,sum_cons->EL,take_append->C4,take_append_drop->B6,take_append_of_le_length->BM,take_of_length_le->AD
open Nat renaming add_assoc->C7,add_mul->B7,add_sub_cancel_left->C9,beq->AW,blt->F3,blt_eq->G9,eq_of_beq_eq_true->AQ,le_of_eq->FM,le_refl->BF,le_trans->AZ,lt_of_lt_of_le->DV,lt_succ_self->CI,min_eq_left->EJ,mul_comm->CP,mul_le_mul_right->BQ,pow_le_pow_right->C3,succ_mul->DA,zero_add->BD,zero_le->AT,zero_mul->EF
open Option renaming map_some->BT
namespace Go.SW
theorem rl_set1{α:Type}{enc:α->List PV}{k:Nat}{H:Hp}{p:PV}{v:Value}{o:Nat}{y:α}(ho:o<k)(hp:Sim H p v)(h1:v.oneCell'=true):∀ {xs:List α} {cs:List Value} {m:Nat},Rl (RowE enc k) H xs cs->m<xs.length->(∀ a,xs[m]? = some a->enc y=(enc a).set o p)->Rl (RowE enc k) H (xs.set m y) (cs.set (m*k+o) v)
 |[],_,_,_,hm,_=>by cases hm
 |x::xs,_,0,⟨c1,c2,e,r1,r2⟩,_,he=>by
   have ex:=he x Z
   have⟨q1,q2,q3⟩:=r1
   have hl:c1.length=k:=by rw[q2.1,q1]
   refine⟨c1.set o v,c2,?_,⟨by rw[ex,List.length_set,q1],?_,?_⟩,r2⟩
   . rw[e,EF,BD,List.set_append_left _ _ qD]
   . rw[ex]
     refine⟨by simp[q2.1],λi q w hq hw=>?_⟩
     rw[CS] at hq hw
     by_cases z:o=i
     . subst z
       rw[if_pos rfl,if_pos qD] at hq
       rw[if_pos rfl,if_pos qD] at hw
       cases hq;cases hw;exact hp
     . rw[if_neg z] at hq hw
       exact q2.2 i q w hq hw
   . intro w hw
     rcases BO hw with z|z
     . exact q3 w z
     . rw[z];exact h1
 |x::xs,_,m+1,⟨c1,c2,e,r1,r2⟩,hm,he=>by
   have hl:c1.length=k:=by rw[r1.2.1.1,r1.1]
   refine⟨c1,c2.set (m*k+o) v,?_,r1,rl_set1 ho hp h1 r2 (by simpa using hm) (λa ha=>he a (by simpa using ha))⟩
   rw[e,List.set_append_right _ _ oP,hl,show (m+1)*k+o-k=m*k+o by rw[B7];omega]
theorem rl_setA{α:Type}{enc:α->List PV}{k:Nat}{H:Hp}{ps:List PV}{vs:List Value}{o:Nat}{y:α}(ho:o+ps.length<=k)(hp:Sims H ps vs)(h1:∀ v∈vs,v.oneCell'=true):∀ {xs:List α} {cs:List Value} {m:Nat},Rl (RowE enc k) H xs cs->m<xs.length->(∀ a,xs[m]? = some a->enc y=(enc a).take o++(ps++(enc a).drop (o+ps.length)))->Rl (RowE enc k) H (xs.set m y) (cs.take (m*k+o)++(vs++cs.drop (m*k+o+ps.length)))
 |[],_,_,_,hm,_=>by cases hm
 |x::xs,_,0,⟨c1,c2,e,r1,r2⟩,_,he=>by
   have ex:=he x Z
   have⟨q1,q2,q3⟩:=r1
   have hl:c1.length=k:=by rw[q2.1,q1]
   have hv:=hp.1
   refine⟨c1.take o++(vs++c1.drop (o+ps.length)),c2,?_,⟨by rw[ex];simp;omega,?_,?_⟩,r2⟩
   . rw[e,EF,BD,BM qD,E0 qD]
     simp
   . rw[ex]
     exact Sims.append (Sims.take q2 o) (Sims.append hp (Sims.drop q2 (o+ps.length)))
   . intro w hw
     simp only[List.mem_append] at hw
     rcases hw with z|z|z
     . exact q3 w (CF z)
     . exact h1 w z
     . exact q3 w (AX z)
 |x::xs,_,m+1,⟨c1,c2,e,r1,r2⟩,hm,he=>by
   have hl:c1.length=k:=by rw[r1.2.1.1,r1.1]
   refine⟨c1,c2.take (m*k+o)++(vs++c2.drop (m*k+o+ps.length)),?_,r1,rl_setA ho hp h1 r2 (by simpa using hm) (λa ha=>he a (by simpa using ha))⟩
   rw[e,show (m+1)*k+o=c1.length+(m*k+o) by rw[hl,B7];omega,C4,AD qD,show c1.length+(m*k+o)-c1.length=m*k+o by omega,C7,C5,A9 qD,show c1.length+(m*k+o+ps.length)-c1.length=m*k+o+ps.length by omega]
   simp
theorem Abs.turnU{P:Program}{n:Nat}{N:Rest}{H0:Env}{s:St}{F:Fr}{H:Hp}{L:Ls}{α:Type}{u:Value}{k e:Nat}{enc:α->List PV}{xs xs':List α}(ha:Abs H0 s F H L)(i:Nat)(hb:s.L i = .arr u k e enc xs){x:Option (Nat×Obj)}(hx:SimB s.L H (.arr u k e enc xs') x):Abs H0 ⟨s.F,lups s.L i (.arr u k e enc xs')⟩ F H (lupd L i x):=by
 have hshape:∀ {p v},SimT s.L H p v->SimT (lups s.L i (.arr u k e enc xs')) H p v:=λ{p v} h=>by
   cases p with
   |osl j=>
     by_cases e:j=i
     . subst e;simp only[SimT,Dd_,hb] at h ⊢;exact h
     . exact sJ
   |_=>exact h
 refine⟨ha.le,ha.g,λt=>hshape (ha.f t),λj=>?_⟩;by_cases e:j=i;exact sV
 . simp only[Gg_ e,Ci_ e]
   have h1:=ha.l j
   generalize s.L j=C at *
   cases C with
   |box b T cs=>have⟨vs,h2,h3,h4⟩:=h1;exact⟨vs,h2,h3,λa p v hp hv=>hshape (h4 a p v hp hv)⟩
   |no=>trivial
   |arr u k e enc xs=>exact h1
   |itr b s p=>exact h1
   |ob b o=>exact h1
end Go.SW
namespace Go.SW.V
open Go.SW
variable{P:Program}{n:Nat}{N:Rest}{H0:Env}{all rest:List Oper}{Q:Qs}{ks:List Kt}{fF:Nat->PV}{fL:Nat->Blk}{T ty d:Nat}{pos:String}{af:Array Edge}{x y z:Operand}{K:St->Prop}
theorem lo_sidx{F:Fr}{H:Hp}{L:Ls}{kk:IntKind}{k m b o len cap:Nat}{i:Int}{e:TypeId}(hx:ev F x = .slice (some ⟨b,o,none⟩) len cap)(hy:ev F y = .int kk i)(hT:P.underlying T=some (.slice e))(hk:Sz P e k)(hi:i=m)(hm:m<len):SW.Lo P N (.indexAddr T x y) ty F H L (.pointer (some ⟨b,o+m*k,none⟩)):=λd pos af g w _=>by
 subst hi
 simp[execOp,hx,hy,Instr.indexAt,asIntOf,run_underlying hT,hk w,hm,Gv_]
theorem Ze_{α:Type}{s:St}{F:Fr}{H:Hp}{L:Ls}{i k e:Nat}{u:Value}{enc:α->List PV}{xs:List α}(ha:Abs H0 s F H L)(hb:s.L i = .arr u k e enc xs)(h0:0<xs.length) :
   ∃ b cap c f,u = .slice (some ⟨b,f.length,none⟩) xs.length cap/\L i=some (b,bx e (f++c))/\cap*k<=c.length/\xs.length<=cap/\Rl (RowE enc k) H xs (c.take (xs.length*k))/\xs.length<=140737488355328/\(k=1->f=[]):=by
 have h3:=ha.l i;rw[hb] at h3;obtain⟨cs,⟨hl,⟨_,h0',_⟩|⟨b,cap,c,f,rfl,hL,hcl,hle,htk,hff⟩⟩,hr,hm⟩:=h3;omega;grind
theorem eidx{α:Type}{tb:Tb}{ti te:TI}{kk:IntKind}{i e k:Nat}{z:Int}{u:Value}{enc:α->List PV}{xs:List α}(m:Nat)(ht:tbB P tb=true)(hx:evP fF x = .osl i)(hb:fL i = .arr u k e enc xs)(hy:evP fF y = .int kk z)(hti:lkT tb T=some ti)(htk:ti.k = .slc e)(hte:lkT tb e=some te)(hk:te.size=k)(hi:z=(m:Int))(hm:m<xs.length) :
   Qy P N H0 ⟨fF,fL⟩ (.indexAddr T x y) ty (.val (.pointer (some ⟨sBlk u,sOff u+m*k,none⟩))):=λF H L ha=>by
 have h1:=Cm_ ha.f x
 unfold Ok1 at h1
 simp only at h1
 rw[hx] at h1
 simp only[SimT,hb] at h1
 have h2:=(Cm_ ha.f y).sim
 simp only at h2
 rw[hy] at h2
 obtain⟨b,cap,c,f,rfl,hL,_⟩:=Ze_ ha (i:=i) hb qD
 have hsz:=(Ef_ ht hte).sz
 rw[hk] at hsz
 exact⟨_,Sim.val,λ_ _ _=>lo_sidx h1 h2.inv_int.1 ((Ef_ ht hti).slc htk) hsz hi hm⟩
theorem efld{b off f o:Nat}(hx:evP fF x = .val (.pointer (some ⟨b,off,none⟩)))(hf:Fld P T f o):Qy P N H0 ⟨fF,fL⟩ (.fieldAddr T x f) ty (.val (.pointer (some ⟨b,off+o,none⟩))):=λF H L ha=>by
 have h1:=(Cm_ ha.f x).sim
 simp only at h1
 rw[hx] at h1
 exact⟨_,Sim.val,λ_ _ _=>E3_ h1.inv_val hf⟩
theorem row_at{α:Type}{H:Hp}{enc:α->List PV}{k m:Nat}{xs:List α}{a:α}{c:List Value}(hr:Rl (RowE enc k) H xs (c.take (xs.length*k)))(ha:xs[m]? = some a):∃ ds,RowE enc k H a ds/\∀ j,j<k->c[m*k+j]? = ds[j]? :=by
 obtain⟨hm,rfl⟩:=List.getElem?_eq_some_iff.1 ha;have⟨ds,p,q⟩:=rl_at L1_ hr m hm;refine⟨ds,p,λj hj=>?_⟩;exact yH
theorem elod1{α:Type}{tb:Tb}{ti:TI}{i e k off:Nat}{u:Value}{enc:α->List PV}{xs:List α}{a:α}(p:PV)(m o:Nat)(ht:tbB P tb=true)(hx:evP fF x = .val (.pointer (some ⟨sBlk u,off,none⟩)))(hb:fL i = .arr u k e enc xs)(hti:lkT tb T=some ti)(hag:ti.k.isAgg=false)(ha':xs[m]? = some a)(hoff:off=sOff u+m*k+o)(hp:(enc a)[o]? = some p)(hn:p.noOsl=true)(hd:Nat.blt d n=true)(kk:p.wf->K ⟨updp fF d p,fL⟩):E1 P n N H0 all ⟨some d, .load T x,ty,pos,af,none⟩ none ⟨fF,fL⟩ K:=by
 intro F H L ha;have h1:=(Cm_ ha.f x).sim;simp only at h1;rw[hx] at h1;have hm:m<xs.length:=(List.getElem?_eq_some_iff.1 ha').1;obtain⟨b,cap,c,f,rfl,hL,hcl,hle,hr,hbb,hff⟩:=Ze_ ha (i:=i) hb qD;have⟨ds,⟨q1,q2,q3⟩,q4⟩:=row_at hr ha';have ho:o<k:=by rw[<- q1];exact (List.getElem?_eq_some_iff.1 hp).1
 obtain⟨v,hv⟩:∃ v,ds[o]? = some v:=⟨_,AA (by rw[q2.1,q1];exact ho)⟩;have hs:=q2.2 o p v hp hv;have hg:=(Ef_ ht hti).ag;rw[hag] at hg;exact Iv_ hd (Kv_ h1.inv_val hg hL (by rw[hoff];show (f++c)[f.length+m*k+o]? = _;rw[C7,List.getElem?_append_right qD,C9,q4 o ho];exact hv)) ⟨.refl H,λ_ _=>rfl,_,ha.put d (hs.simT hn),kk hs.wf⟩
theorem est1{α:Type}{tb:Tb}{ti:TI}{i e k off:Nat}{u:Value}{enc:α->List PV}{xs:List α}{p:PV}(m o:Nat)(a':α)(ht:tbB P tb=true)(hx:evP fF x = .val (.pointer (some ⟨sBlk u,off,none⟩)))(hb:fL i = .arr u k e enc xs)(hti:lkT tb T=some ti)(hsz:ti.size=1)(hy:evS (evP fF y)=some p)(ho:p.one=true)(hm:m<xs.length)(hoff:off=sOff u+m*k+o)(hok:o<k)(he:∀ a,xs[m]? = some a->enc a'=(enc a).set o p)
   (kk:K ⟨fF,lups fL i (.arr u k e enc (xs.set m a'))⟩):E1 P n N H0 all ⟨none, .store T x y,ty,pos,af,none⟩ (some i) ⟨fF,fL⟩ K:=by
 intro F H L ha;have hy:=evS_eq hy;have h1:=(Cm_ ha.f x).sim;simp only at h1;rw[hx] at h1;have h2:=(Cm_ ha.f y).sim;simp only at h2;rw[hy] at h2;obtain⟨b,cap,c,f,rfl,hL,hcl,hle,hr,hbb,hff⟩:=Ze_ ha (i:=i) hb qD;have hsz':=(Ef_ ht hti).sz;rw[hsz] at hsz';have hlt:m*k+o<xs.length*k:=by
   have :(m+1)*k<=xs.length*k:=BQ k qD
   rw[B7] at this;omega
 have hlc:xs.length*k<=c.length:=AZ (BQ k hle) hcl;subst hoff;have hset:(f++c).set (sOff (.slice (some ⟨b,f.length,none⟩) xs.length cap)+m*k+o) (ev F y)=f++c.set (m*k+o) (ev F y):=by
   show (f++c).set (f.length+m*k+o) (ev F y)=_
   grind
 refine Km_ h1.inv_val Z (h2.one ho) hsz' hL (by simp[G9,sOff];omega) ?_;rw[hset];refine⟨.refl H,only,_,ha.turnU (n:=n) (N:=N) (P:=P) i hb ⟨(c.set (m*k+o) (ev F y)).take (xs.length*k),⟨by simp;omega, .inr ⟨b,cap,c.set (m*k+o) (ev F y),f,by simp,rfl,by simpa using hcl,by simpa using hle,by simp,hff⟩⟩,?_,by simpa using hbb⟩,kk⟩;rw[List.take_set];exact rl_set1 hok h2 (h2.one ho) hr hm he
theorem elodA{α:Type}{tb:Tb}{ti:TI}{i e k off sz:Nat}{u:Value}{enc:α->List PV}{xs:List α}{a:α}(ps:List PV)(m o:Nat)(ht:tbB P tb=true)(hx:evP fF x = .val (.pointer (some ⟨sBlk u,off,none⟩)))(hb:fL i = .arr u k e enc xs)(hti:lkT tb T=some ti)(hag:ti.k.isAgg=true)(hsz:ti.size=sz)(ha':xs[m]? = some a)(hoff:off=sOff u+m*k+o)(hp:((enc a).drop o).take sz=ps)(hos:o+sz<=k)(hd:Nat.blt d n=true)(kk:PV.wfs ps->K ⟨updp fF d (.agg ps),fL⟩):E1 P n N H0 all ⟨some d, .load T x,ty,pos,af,none⟩ none ⟨fF,fL⟩ K:=by
 intro F H L ha;have h1:=(Cm_ ha.f x).sim;simp only at h1;rw[hx] at h1;have hm:m<xs.length:=(List.getElem?_eq_some_iff.1 ha').1;obtain⟨b,cap,c,f,rfl,hL,hcl,hle,hr,hbb,hff⟩:=Ze_ ha (i:=i) hb qD;have⟨ds,⟨q1,q2,q3⟩,q4⟩:=row_at hr ha';have hdl:ds.length=k:=by rw[q2.1,q1]
 have hsub:sub (f++c) off sz=(ds.drop o).take sz:=by
   apply List.ext_getElem?
   intro j
   simp only[sub,BA,CO]
   by_cases z:j<sz
   . rw[if_pos z,if_pos z,hoff]
     show (f++c)[f.length+m*k+o+j]? = _
     grind
   . rw[if_neg z,if_neg z]
 have hsv:Sims H ps ((ds.drop o).take sz):=by rw[<- hp];exact Sims.take (Sims.drop q2 o) sz
 have hg:=(Ef_ ht hti).ag;rw[hag] at hg;have hk:=(Ef_ ht hti).sz;rw[hsz] at hk;exact Iv_ hd (V3_ (vs:=(ds.drop o).take sz) h1.inv_val hg hk hL hsub qQ) ⟨.refl H,λ_ _=>rfl,_,ha.put (p:= .agg ps) d (Sim.toAgg hsv),kk hsv.wf⟩
theorem estA{α:Type}{tb:Tb}{ti:TI}{i e k off:Nat}{u:Value}{enc:α->List PV}{xs:List α}{ps:List PV}(m o:Nat)(a':α)(ht:tbB P tb=true)(hx:evP fF x = .val (.pointer (some ⟨sBlk u,off,none⟩)))(hb:fL i = .arr u k e enc xs)(hti:lkT tb T=some ti)(hy:evP fF y = .agg ps)(ho:all1 ps=true)(hsz:ps.length=ti.size)(hm:m<xs.length)(hoff:off=sOff u+m*k+o)(hok:o+ps.length<=k)(he:∀ a,xs[m]? = some a->enc a'=(enc a).take o++(ps++(enc a).drop (o+ps.length)))
   (kk:K ⟨fF,lups fL i (.arr u k e enc (xs.set m a'))⟩):E1 P n N H0 all ⟨none, .store T x y,ty,pos,af,none⟩ (some i) ⟨fF,fL⟩ K:=by
 intro F H L ha;have h1:=(Cm_ ha.f x).sim;simp only at h1;rw[hx] at h1;have h2:=(Cm_ ha.f y).sim;simp only at h2;rw[hy] at h2;have⟨vs,hv,hvs⟩:=h2.inv_agg;obtain⟨b,cap,c,f,rfl,hL,hcl,hle,hr,hbb,hff⟩:=Ze_ ha (i:=i) hb qD;have hsz':=(Ef_ ht hti).sz;rw[<- hsz] at hsz';have hlt:m*k+o+ps.length<=xs.length*k:=by
   exact yH
 have hlc:xs.length*k<=c.length:=AZ (BQ k hle) hcl;have hvl:vs.length=ps.length:=hvs.1;have ha1:=Ua_ hvs ho;subst hoff;refine X8_ (f++(c.take (m*k+o)++(vs++c.drop (m*k+o+ps.length)))) h1.inv_val hv ha1 hsz' hvl hL (by simp[Nat.ble_eq,sOff];omega) ?_ ?_;show (f++c).take (f.length+m*k+o)++(vs++(f++c).drop (f.length+m*k+o+ps.length))=_;rw[C7 f.length,C7 f.length,C4,C5,AD qD,A9 qD,C9,C9];simp;refine⟨.refl H,only,_,ha.turnU (n:=n) (N:=N) (P:=P) i hb ⟨(c.take (m*k+o)++(vs++c.drop (m*k+o+ps.length))).take (xs.length*k),⟨by simp;omega, .inr ⟨b,cap,_,f,by simp,rfl,by simp;omega,by simpa using hle,by simp,hff⟩⟩,?_,by simpa using hbb⟩,kk⟩;have e:(c.take (m*k+o)++(vs++c.drop (m*k+o+ps.length))).take (xs.length*k)=(c.take (xs.length*k)).take (m*k+o)++(vs++(c.take (xs.length*k)).drop (m*k+o+ps.length)):=by
   obtain⟨A,B,hA,hc,hAl⟩:∃ A B,c.take (xs.length*k)=A/\c=A++B/\A.length=xs.length*k:=⟨_,_,rfl,(B6 _ _).symm,by simp;omega⟩
   rw[hA,hc,BM (show m*k+o<=A.length by omega),E0 (show m*k+o+ps.length<=A.length by omega),<- A7 vs,<- A7]
   exact List.take_left' qQ
 rw[e];exact rl_setA hok hvs (by simpa [CY] using ha1) hr hm he
theorem ecut1{α:Type}{tb:Tb}{ti te:TI}{kk:IntKind}{i e k:Nat}{z:Int}{u:Value}{enc:α->List PV}{xs:List α}(ht:tbB P tb=true)(hx:evP fF x = .osl i)(hb:fL i = .arr u k e enc xs)(hy:evP fF y = .int kk z)(hti:lkT tb T=some ti)(htk:ti.k = .slc e)(hte:lkT tb e=some te)(hk:te.size=k)(h1:Nat.blt 1 k=true)(hi:z=1)(hm:0<xs.length)(hd:Nat.blt d n=true)
   (kk:∀ u',K ⟨updp (Lz_ i fF) d (.osl i),lups (H6_ i fL) i (.arr u' k e enc (xs.drop 1))⟩):E1 P n N H0 all ⟨some d, .slice T x (some y) none none,ty,pos,af,none⟩ (some i) ⟨fF,fL⟩ K:=by
 intro F H L ha;have h1':=Cm_ ha.f x;unfold Ok1 at h1';simp only at h1';rw[hx] at h1';simp only[SimT,hb] at h1';have h2:=(Cm_ ha.f y).sim;simp only at h2;rw[hy] at h2;have hb':fL i = .arr u k e enc xs:=hb;obtain⟨b,cap,c,f,rfl,hL,hcl,hle,hr,hbb,hff⟩:=Ze_ (s:=⟨fF,fL⟩) ha (i:=i) hb' hm;have hsz:=(Ef_ ht hte).sz;rw[hk] at hsz;have hk1:1<k:=by simpa [G9] using h1
 refine Iv_ hd (M1_ 1 h1' h2.inv_int.1 ((Ef_ ht hti).slc htk) hsz qD qD) ?_;have hLL:lupd L i (L i)=L:=by funext j;by_cases e:j=i;(subst e;exact Co_ _ _ _);exact Ci_ e
 obtain⟨x0,xr,rfl⟩:∃ a r,xs=a::r:=by cases xs with|nil=>cases hm|cons a r=>exact⟨a,r,rfl⟩
 have hrl:=rl_len L1_ hr;have :=ha.turn i (B:= .arr (.slice (slA (some ⟨b,f.length,none⟩) cap 1 k) ((x0::xr).length-1) (cap-1)) k e enc ((x0::xr).drop 1)) (x:=L i) ?_;rw[hLL] at this;exact zY;have⟨c1,c2,e1,r1,r2⟩:=hr;have hc1:c1.length=k:=by rw[r1.2.1.1,r1.1]
 have hck:cap*k=(cap-1)*k+k:=by rw[<- DA];congr 1;simp only[A3] at hle;omega
 have hkc:k<=c.length:=by omega
 have hc2:c2=(c.drop k).take (xr.length*k):=by
   have :(c.take ((x0::xr).length*k)).drop k=c2:=by rw[e1,<- hc1,List.drop_left]
   rw[<- this,A3,DG,DA,Nat.add_sub_cancel]
 refine⟨c2,⟨?_,?_⟩,by simpa using r2,by simp at hbb ⊢;omega⟩;rw[rl_len L1_ r2];simp;by_cases hc:cap=1;subst hc;have :xr=[]:=List.length_eq_zero_iff.1 (by simp only[A3] at hle;omega);subst this;refine .inr ⟨b,0,c,f,by simp[slA],hL,by simp,by simp,by simpa using hc2.symm,hff⟩;refine .inr ⟨b,cap-1,c.drop k,f++c.take k,?_,by rw[hL];simp,?_,by simp only[List.drop_one,List.tail_cons,A3] at hle ⊢;omega,?_,λq=>by omega⟩;have :c.length>=k:=by omega
 simp[slA,Gv_,EJ this,show ¬cap<=1 by simp only[A3] at hle;omega];intro q;simp only[A3] at hle;omega;rw[AM];omega;rw[hc2];simp
end Go.SW.V
namespace Go.SW
variable{P:Program}{n:Nat}{N:Rest}{H0:Env}{Q:Qs}{ks:List Kt}{s:St}
theorem Pf_{α:Type}{i o b T0 k e:Nat}{cs:List PV}{c:Code}(j:Nat)(enc:α->List PV)(hb:H6_ j s.L i = .box b T0 cs)(hne:i≠j)(ho:cs[o]? = some (.val (.slice none 0 0)))(hno:s.L j = .no)
   (kk:Hd P n N H0 Q (.code c) ks ⟨Lz_ j s.F,lups (lups (H6_ j s.L) j (.arr (.slice none 0 0) k e enc [])) i (.box b T0 (cs.set o (.osl j)))⟩):Hd P n N H0 Q (.code c) ks s:=λF H L ha=>by
 have hL0:Abs H0 s F H (lupd L j none):=⟨ha.le,ha.g,ha.f,λq=>by
   by_cases e:q=j
   . subst e;rw[hno];trivial
   . rw[Ci_ e];exact ha.l q⟩
 have h2:=hL0.turn j (B:= .arr (.slice none 0 0) k e enc []) (x:=none) ⟨[],O6_,Z9_,by simp⟩
 have e2:lupd (lupd L j none) j none=lupd L j none:=by funext q;simp only[lupd];cases AW q j<;>rfl
 rw[e2] at h2
 have h3:=h2.l i
 simp only[Gg_ hne,hb] at h3
 have⟨vs,hL,hs1,hs2⟩:=h3
 have h4:=h2.turnB i (B:= .box b T0 (cs.set o (.osl j))) U (x:=lupd L j none i) ⟨vs,hL,by simpa using hs1,λa p v hp hv=>by
   rw[CS] at hp
   by_cases z:o=a
   . subst z
     rw[if_pos rfl] at hp
     split at hp
     . cases hp
       have h5:=(hs2 o _ v ho hv).sim.inv_val
       simp only[SimT,Gg_ hne.symm,Dd_]
       exact h5
     . cases hp
   . rw[if_neg z] at hp
     have h5:=hs2 a p v hp hv
     exact Pc_ (b:=b) (T:=T0) (cs:=cs) (by simp only[Gg_ hne,hb]) h5⟩
 have e3:lupd (lupd L j none) i (lupd L j none i)=lupd L j none:=by funext q;by_cases e:q=i;(subst e;exact Co_ _ _ _);exact Ci_ e
 rw[e3] at h4
 exact cw_weaken (λw hm=>hm.clear j) (kk F H _ h4)
theorem bld_str{all:List Oper}{ty d T1 T3 e i:Nat}{pos:String}{af:Array Edge}{x y:Operand}{K:St->Prop}{u:Value}{enc:UInt8->List PV}{xs:Bs}(hx:evP s.F x = .val (usd u))(hy:evP s.F y = .int .i64 xs.length)(hT:P.underlying T1=some (.pointer e))(hc:P.cellsOf e=1)(hb:s.L i = .arr u 1 e enc xs)(henc:enc=u8c)(h0:xs.length=0->u = .slice none 0 0)(hd:Nat.blt d n=true)
   (kk:K ⟨updp (Lz_ i s.F) d (.str xs),lups (H6_ i s.L) i .no⟩):E1 P n N H0 all ⟨some d, .call ⟨.builtin .unsafeString,#[x,y],#[T1,T3]⟩,ty,pos,af,none⟩ (some i) s K:=by
 intro F H L ha;subst henc;have h1:=(Cm_ ha.f x).sim;rw[hx] at h1;have h2:=(Cm_ ha.f y).sim;rw[hy] at h2;have h3:=ha.l i;rw[hb] at h3;have⟨cs,ho,hr,hm⟩:=h3;have e:=Op_ hr;subst e;refine op1_ustr i h1.inv_val h2.inv_int.1 hT hc ho h0 qD hd ⟨.refl H,only,_,(ha.turn i (B:= .no) (x:=none) U).put (p:= .str xs) d (show Sim H (.str xs) (str xs) from Sim.str qD),kk⟩
theorem qusd{α:Type}{ty i k e:Nat}{x:Operand}{ats:Array TypeId}{u:Value}{enc:α->List PV}{xs:List α}(hx:evP s.F x = .osl i)(hb:s.L i = .arr u k e enc xs)(h0:xs.length=0->u = .slice none 0 0):Qy P N H0 s (.call ⟨.builtin .unsafeSliceData,#[x],ats⟩) ty (.val (usd u)):=λF H L ha=>by
 have h1:=Cm_ ha.f x
 unfold Ok1 at h1
 rw[hx] at h1
 simp only[SimT,hb] at h1
 have h3:=ha.l i
 rw[hb] at h3
 have⟨cs,ho,hr,hm⟩:=h3
 exact⟨_,Sim.val,λ_ _ _=>lo_usd h1 ho h0⟩
theorem I0_{α:Type}{all:List Oper}{T ty i j b b' off T0 k e:Nat}{pos:String}{af:Array Edge}{x y:Operand}{K:St->Prop}{tb:Tb}{ti:TI}{cs cs':List PV}{u:Value}{enc:α->List PV}{xs:List α}(ht:tbB P tb=true)(hx:evP s.F x = .own i b off)(hb:s.L i = .box b' T0 cs)(hti:lkT tb T=some ti)(hsz:ti.size=1)(hy:evP s.F y = .osl j)(hj:s.L j = .arr u k e enc xs)(hbb:b'=b)(hc:cs.set off (.osl j)=cs')
   (kk:K ⟨s.F,lups s.L i (.box b T0 cs')⟩)(hl:Nat.blt off cs.length=true:=by exact Z):E1 P n N H0 all ⟨none, .store T x y,ty,pos,af,none⟩ (some i) s K:=by
 intro F H L ha;subst hbb hc;have h1:=(Cm_ ha.f x).sim;rw[hx] at h1;have h2:=Cm_ ha.f y;unfold Ok1 at h2;rw[hy] at h2;have h2':=h2;simp only[SimT,hj] at h2';have h3:=ha.l i;rw[hb] at h3;have⟨vs,hL,hs⟩:=h3;have h5:=ha.l j;rw[hj] at h5;have⟨cs0,ho,_,_⟩:=h5;have hone:(ev F y).oneCell'=true:=by
   rw[h2']
   obtain⟨_,⟨rfl,_,_⟩|⟨_,_,_,_,rfl,_⟩⟩:=ho<;>rfl
 have hsz':=(Ef_ ht hti).sz;rw[hsz] at hsz';refine Km_ h1.inv_own Z hone hsz' hL (by rw[hs.1];exact hl)<|⟨.refl H,only,_,ha.turnB (B:= .box _ T0 (cs.set off (.osl j))) i U ⟨_,rfl,?_⟩,kk⟩;have h4:=hs.set off h2;exact⟨h4.1,λq p v hq hv=>Pc_ hb (h4.2 q p v hq hv)⟩
structure Z_ where
 Ah_:Mail
 Zv_:Bool
 again:Bool
deriving DecidableEq,Inhabited
abbrev bC:Z_:=⟨aJ,false,false⟩
def Z_.pc(x:Z_):List PV:=[aB x.Ah_.id, .str x.Ah_.Bm_, .str x.Ah_.key, .sl Pair.pc x.Ah_.head, .str x.Ah_.body,aB x.Ah_.due, .int .u8 x.Ah_.hops, .bool x.Zv_, .bool x.again]
abbrev Z_.ag(x:Z_):PV:=.agg x.pc
structure Aq_ where
 item:Z_
 count:Int
 lost:Int
deriving DecidableEq,Inhabited
abbrev aT:Aq_:=⟨bC,0,0⟩
def Aq_.pc(x:Aq_):List PV:=[aB x.item.Ah_.id, .str x.item.Ah_.Bm_, .str x.item.Ah_.key, .sl Pair.pc x.item.Ah_.head, .str x.item.Ah_.body,aB x.item.Ah_.due, .int .u8 x.item.Ah_.hops, .bool x.item.Zv_, .bool x.item.again,aA x.count,aA x.lost]
structure Dc_ where
 level:Int
 set_:Int
deriving DecidableEq,Inhabited
abbrev bL:Dc_:=⟨0,0⟩
def Dc_.pc(x:Dc_):List PV:=[.int .u8 x.level, .int .u32 x.set_]
abbrev Dc_.ag(x:Dc_):PV:=.agg x.pc
structure A8_ where
 name:Bs
 label:Dc_
 bytes:Int
 base:Int
deriving DecidableEq,Inhabited
abbrev bM:A8_:=⟨[108,111,119],bL,500,1⟩
def A8_.pc(x:A8_):List PV:=[.str x.name, .int .u8 x.label.level, .int .u32 x.label.set_,aA x.bytes,aB x.base]
abbrev A8_.ag(x:A8_):PV:=.agg x.pc
structure B9_ where
 frm:Int
 to':Int
 budget:Int
deriving DecidableEq,Inhabited
def B9_.pc(x:B9_):List PV:=[aA x.frm,aA x.to',aA x.budget]
abbrev B9_.ag(x:B9_):PV:=.agg x.pc
structure F_ where
 work:Int
 give:Int
 places:List A8_
 slots:List Int
 grants:List B9_
deriving DecidableEq,Inhabited
abbrev aW:F_:=⟨4,1,[bM],[0],[]⟩
abbrev aS:F_:=⟨0,0,[],[],[]⟩
def F_.pc(x:F_):List PV:=[aA x.work,aA x.give, .sl A8_.pc x.places, .sl i64c x.slots, .sl B9_.pc x.grants]
abbrev F_.ag(x:F_):PV:=.agg x.pc
structure Eb_ where
 tick:Int
 kind:Int
 text:Bs
deriving DecidableEq,Inhabited
def Eb_.pc(x:Eb_):List PV:=[aB x.tick, .int .u8 x.kind, .str x.text]
structure B8_ where
 total:Int
 kept:List Eb_
deriving DecidableEq,Inhabited
abbrev bD:B8_:=⟨0,[]⟩
def B8_.pc(x:B8_):List PV:=[aB x.total, .sl Eb_.pc x.kept]
abbrev B8_.ag(x:B8_):PV:=.agg x.pc
structure Ax_ where
 items:List Z_
deriving DecidableEq,Inhabited
abbrev bE:Ax_:=⟨[]⟩
def Ax_.pc(x:Ax_):List PV:=[.sl Z_.pc x.items]
abbrev Ax_.ag(x:Ax_):PV:=.agg x.pc
structure Go_ where
 q:M_
 l:Ax_
deriving DecidableEq,Inhabited
def Go_.pc(x:Go_):List PV:=[.str x.q.name,aB x.q.most,aB x.q.life, .str x.q.dead, .sl Z_.pc x.l.items]
structure Al_ where
 total:Int
 kept:List Mail
deriving DecidableEq,Inhabited
abbrev aR:Al_:=⟨0,[]⟩
def Al_.pc(x:Al_):List PV:=[aB x.total, .sl Mail.pc x.kept]
abbrev Al_.ag(x:Al_):PV:=.agg x.pc
abbrev A16_RiseR:=V.A16 Al_
def A16_RiseR.pc(x:A16_RiseR):List PV:=[aB x.e0.total, .sl Mail.pc x.e0.kept,aB x.e1.total, .sl Mail.pc x.e1.kept,aB x.e2.total, .sl Mail.pc x.e2.kept,aB x.e3.total, .sl Mail.pc x.e3.kept,aB x.e4.total, .sl Mail.pc x.e4.kept,aB x.e5.total, .sl Mail.pc x.e5.kept,aB x.e6.total, .sl Mail.pc x.e6.kept,aB x.e7.total, .sl Mail.pc x.e7.kept,aB x.e8.total, .sl Mail.pc x.e8.kept,aB x.e9.total, .sl Mail.pc x.e9.kept,aB x.e10.total, .sl Mail.pc x.e10.kept,aB x.e11.total, .sl Mail.pc x.e11.kept,aB x.e12.total, .sl Mail.pc x.e12.kept,aB x.e13.total, .sl Mail.pc x.e13.kept,aB x.e14.total, .sl Mail.pc x.e14.kept,aB x.e15.total, .sl Mail.pc x.e15.kept]
abbrev A16_u64:=V.A16 Int
def A16_u64.pc(x:A16_u64):List PV:=[aB x.e0,aB x.e1,aB x.e2,aB x.e3,aB x.e4,aB x.e5,aB x.e6,aB x.e7,aB x.e8,aB x.e9,aB x.e10,aB x.e11,aB x.e12,aB x.e13,aB x.e14,aB x.e15]
structure Ai_ where
 round:Int
 count:Int
deriving DecidableEq,Inhabited
abbrev aK:Ai_:=⟨0,0⟩
def Ai_.pc(x:Ai_):List PV:=[aB x.round,aA x.count]
abbrev A8_SpentR:=V.A8 Ai_
def A8_SpentR.pc(x:A8_SpentR):List PV:=[aB x.e0.round,aA x.e0.count,aB x.e1.round,aA x.e1.count,aB x.e2.round,aA x.e2.count,aB x.e3.round,aA x.e3.count,aB x.e4.round,aA x.e4.count,aB x.e5.round,aA x.e5.count,aB x.e6.round,aA x.e6.count,aB x.e7.round,aA x.e7.count]
structure I_ where
 next :Int
 bytes:Int
 rows:List Go_
 rises:A16_RiseR
deriving DecidableEq,Inhabited
abbrev bP:I_:=⟨0,0,[],(⟨aR,aR,aR,aR,aR,aR,aR,aR,aR,aR,aR,aR,aR,aR,aR,aR⟩:A16_RiseR)⟩
def I_.pc(x:I_):List PV:=[aB x.next,aA x.bytes, .sl Go_.pc x.rows,aB x.rises.e0.total, .sl Mail.pc x.rises.e0.kept,aB x.rises.e1.total, .sl Mail.pc x.rises.e1.kept,aB x.rises.e2.total, .sl Mail.pc x.rises.e2.kept,aB x.rises.e3.total, .sl Mail.pc x.rises.e3.kept,aB x.rises.e4.total, .sl Mail.pc x.rises.e4.kept,aB x.rises.e5.total, .sl Mail.pc x.rises.e5.kept,aB x.rises.e6.total, .sl Mail.pc x.rises.e6.kept,aB x.rises.e7.total, .sl Mail.pc x.rises.e7.kept,aB x.rises.e8.total, .sl Mail.pc x.rises.e8.kept,aB x.rises.e9.total, .sl Mail.pc x.rises.e9.kept,aB x.rises.e10.total, .sl Mail.pc x.rises.e10.kept,aB x.rises.e11.total, .sl Mail.pc x.rises.e11.kept,aB x.rises.e12.total, .sl Mail.pc x.rises.e12.kept,aB x.rises.e13.total, .sl Mail.pc x.rises.e13.kept,aB x.rises.e14.total, .sl Mail.pc x.rises.e14.kept,aB x.rises.e15.total, .sl Mail.pc x.rises.e15.kept]
abbrev I_.ag(x:I_):PV:=.agg x.pc
structure Ab_ where
 book:A3_
 E_:I_
 notes:B8_
 seen:A16_u64
 spent:A8_SpentR
deriving DecidableEq,Inhabited
abbrev bI:Ab_:=⟨aV,bP,bD,(⟨0,0,0,0,0,0,0,0,0,0,0,0,0,0,0,0⟩:A16_u64),(⟨aK,aK,aK,aK,aK,aK,aK,aK⟩:A8_SpentR)⟩
def Ab_.pc(x:Ab_):List PV:=[.sl W_.pc x.book.Bs_, .sl Q_.pc x.book.binds,aB x.E_.next,aA x.E_.bytes, .sl Go_.pc x.E_.rows,aB x.E_.rises.e0.total, .sl Mail.pc x.E_.rises.e0.kept,aB x.E_.rises.e1.total, .sl Mail.pc x.E_.rises.e1.kept,aB x.E_.rises.e2.total, .sl Mail.pc x.E_.rises.e2.kept,aB x.E_.rises.e3.total, .sl Mail.pc x.E_.rises.e3.kept,aB x.E_.rises.e4.total, .sl Mail.pc x.E_.rises.e4.kept,aB x.E_.rises.e5.total, .sl Mail.pc x.E_.rises.e5.kept,aB x.E_.rises.e6.total, .sl Mail.pc x.E_.rises.e6.kept,aB x.E_.rises.e7.total, .sl Mail.pc x.E_.rises.e7.kept,aB x.E_.rises.e8.total, .sl Mail.pc x.E_.rises.e8.kept,aB x.E_.rises.e9.total, .sl Mail.pc x.E_.rises.e9.kept,aB x.E_.rises.e10.total, .sl Mail.pc x.E_.rises.e10.kept,aB x.E_.rises.e11.total, .sl Mail.pc x.E_.rises.e11.kept,aB x.E_.rises.e12.total, .sl Mail.pc x.E_.rises.e12.kept,aB x.E_.rises.e13.total, .sl Mail.pc x.E_.rises.e13.kept,aB x.E_.rises.e14.total, .sl Mail.pc x.E_.rises.e14.kept,aB x.E_.rises.e15.total, .sl Mail.pc x.E_.rises.e15.kept,aB x.notes.total, .sl Eb_.pc x.notes.kept,aB x.seen.e0,aB x.seen.e1,aB x.seen.e2,aB x.seen.e3,aB x.seen.e4,aB x.seen.e5,aB x.seen.e6,aB x.seen.e7,aB x.seen.e8,aB x.seen.e9,aB x.seen.e10,aB x.seen.e11,aB x.seen.e12,aB x.seen.e13,aB x.seen.e14,aB x.seen.e15,aB x.spent.e0.round,aA x.spent.e0.count,aB x.spent.e1.round,aA x.spent.e1.count,aB x.spent.e2.round,aA x.spent.e2.count,aB x.spent.e3.round,aA x.spent.e3.count,aB x.spent.e4.round,aA x.spent.e4.count,aB x.spent.e5.round,aA x.spent.e5.count,aB x.spent.e6.round,aA x.spent.e6.count,aB x.spent.e7.round,aA x.spent.e7.count]
abbrev Ab_.ag(x:Ab_):PV:=.agg x.pc
structure D_ where
 x:Ab_
 U_:F_
 place:Int
deriving DecidableEq,Inhabited
def D_.pc(x:D_):List PV:=[.sl W_.pc x.x.book.Bs_, .sl Q_.pc x.x.book.binds,aB x.x.E_.next,aA x.x.E_.bytes, .sl Go_.pc x.x.E_.rows,aB x.x.E_.rises.e0.total, .sl Mail.pc x.x.E_.rises.e0.kept,aB x.x.E_.rises.e1.total, .sl Mail.pc x.x.E_.rises.e1.kept,aB x.x.E_.rises.e2.total, .sl Mail.pc x.x.E_.rises.e2.kept,aB x.x.E_.rises.e3.total, .sl Mail.pc x.x.E_.rises.e3.kept,aB x.x.E_.rises.e4.total, .sl Mail.pc x.x.E_.rises.e4.kept,aB x.x.E_.rises.e5.total, .sl Mail.pc x.x.E_.rises.e5.kept,aB x.x.E_.rises.e6.total, .sl Mail.pc x.x.E_.rises.e6.kept,aB x.x.E_.rises.e7.total, .sl Mail.pc x.x.E_.rises.e7.kept,aB x.x.E_.rises.e8.total, .sl Mail.pc x.x.E_.rises.e8.kept,aB x.x.E_.rises.e9.total, .sl Mail.pc x.x.E_.rises.e9.kept,aB x.x.E_.rises.e10.total, .sl Mail.pc x.x.E_.rises.e10.kept,aB x.x.E_.rises.e11.total, .sl Mail.pc x.x.E_.rises.e11.kept,aB x.x.E_.rises.e12.total, .sl Mail.pc x.x.E_.rises.e12.kept,aB x.x.E_.rises.e13.total, .sl Mail.pc x.x.E_.rises.e13.kept,aB x.x.E_.rises.e14.total, .sl Mail.pc x.x.E_.rises.e14.kept,aB x.x.E_.rises.e15.total, .sl Mail.pc x.x.E_.rises.e15.kept,aB x.x.notes.total, .sl Eb_.pc x.x.notes.kept,aB x.x.seen.e0,aB x.x.seen.e1,aB x.x.seen.e2,aB x.x.seen.e3,aB x.x.seen.e4,aB x.x.seen.e5,aB x.x.seen.e6,aB x.x.seen.e7,aB x.x.seen.e8,aB x.x.seen.e9,aB x.x.seen.e10,aB x.x.seen.e11,aB x.x.seen.e12,aB x.x.seen.e13,aB x.x.seen.e14,aB x.x.seen.e15,aB x.x.spent.e0.round,aA x.x.spent.e0.count,aB x.x.spent.e1.round,aA x.x.spent.e1.count,aB x.x.spent.e2.round,aA x.x.spent.e2.count,aB x.x.spent.e3.round,aA x.x.spent.e3.count,aB x.x.spent.e4.round,aA x.x.spent.e4.count,aB x.x.spent.e5.round,aA x.x.spent.e5.count,aB x.x.spent.e6.round,aA x.x.spent.e6.count,aB x.x.spent.e7.round,aA x.x.spent.e7.count,aA x.U_.work,aA x.U_.give, .sl A8_.pc x.U_.places, .sl i64c x.U_.slots, .sl B9_.pc x.U_.grants,aA x.place]
abbrev D_.ag(x:D_):PV:=.agg x.pc
structure H1_ where
 queue:Bs
 Ah_:Mail
deriving DecidableEq,Inhabited
def H1_.pc(x:H1_):List PV:=[.str x.queue,aB x.Ah_.id, .str x.Ah_.Bm_, .str x.Ah_.key, .sl Pair.pc x.Ah_.head, .str x.Ah_.body,aB x.Ah_.due, .int .u8 x.Ah_.hops]
structure Ht_ where
 at_:Int
 data:Bs
deriving DecidableEq,Inhabited
def Ht_.pc(x:Ht_):List PV:=[aA x.at_, .str x.data]
variable{P:Program}{n:Nat}{N:Rest}{H0:Env}{all:List Oper}{Q:Qs}{ks:List Kt}{s:St}
end Go.SW
namespace Go.SW.V
open Go.SW
variable{P:Program}{n:Nat}{N:Rest}{H0:Env}{all:List Oper}{Q:Qs}{ks:List Kt}{fF:Nat->PV}{fL:Nat->Blk}
end Go.SW.V
namespace Go.SW
variable{P:Program}{n:Nat}{N:Rest}{H0:Env}{all:List Oper}{Q:Qs}{ks:List Kt}{s:St}
theorem vw_l{ops:List Oper}{Lk:Ls}{Q:Qt}{fuel:Nat}{listed:Array Bool}{F:Fr}{H:Hp}{L:Ls}(i0:Nat)(r:List Nat)(hr:Region.ready .any ops.toArray listed=i0::r)
   (h:∀ i∈i0::r,∃ o,ops[i]? = some o/\Op1 P n N ops o (λF' H' L'=>(HLe H H'/\LLe Lk L')/\Vw P n N ops Lk Q fuel (listed.setIfInBounds i true) F' H' L') F H L):Vw P n N ops Lk Q (fuel+1) listed F H L:=by
 refine⟨λq=>oC,λj hj a w ha hm=>?_⟩;rw[hr] at hj;have⟨o,ho,h1⟩:=h j hj;exact wpOp_mono (λa' w' ⟨F',H',L',x,y,z1,z2⟩=>⟨F',H',L',x,y, .inl ⟨z1.1, .inl z1.2⟩,z2⟩) (V5_ ho h1 a w ha hm)
def Ej(P:Program)(n:Nat)(N:Rest)(H0:Env)(all:List Oper)(o:Oper)(xs:List Nat)(s:St)(K:St->Prop):Prop:=∃ j:Option Nat,(match j with|none=>true|some j=>memB xs j)=true/\E1 P n N H0 all o j s K
theorem ej{o:Oper}{xs:List Nat}{K:St->Prop}{j:Option Nat}(hj:(match j with|none=>true|some j=>memB xs j)=true)(h:E1 P n N H0 all o j s K):Ej P n N H0 all o xs s K:=⟨j,hj,h⟩
def AllE(P:Program)(n:Nat)(N:Rest)(H0:Env)(all:List Oper)(Q:Qs)(xs:List Nat)(fuel:Nat)(listed:Array Bool)(ks:List Kt)(s:St):List Nat->Prop
 |[]=>True
 |i::r=>(∃ o,nth all i=some o/\Ej P n N H0 all o xs s (λs'=>Hv P n N H0 Q (some xs) all fuel (listed.setIfInBounds i true) ks s'))/\AllE P n N H0 all Q xs fuel listed ks s r
theorem allE_mem{xs:List Nat}{fuel:Nat}{listed:Array Bool}:∀ {r:List Nat} {i:Nat},AllE P n N H0 all Q xs fuel listed ks s r->i∈r->∃ o,nth all i=some o/\Ej P n N H0 all o xs s (λs'=>Hv P n N H0 Q (some xs) all fuel (listed.setIfInBounds i true) ks s')
 |[],i,_,h=>by cases h
 |a::r,i,h,hm=>by
   rcases List.mem_cons.1 hm with e|q
   . subst e;exact h.1
   . exact allE_mem h.2 q
theorem veL{xs:List Nat}{fuel:Nat}{listed:Array Bool}(i0:Nat)(r:List Nat)(h:AllE P n N H0 all Q xs fuel listed ks s (i0::r))(hr:Region.ready .any all.toArray listed=i0::r:=by exact qE):Hv P n N H0 Q (some xs) all (fuel+1) listed ks s:=by
 intro F H L Lk ha hL;refine vw_l i0 r hr λi hi=>?_;have⟨o,ho,j,hj,he⟩:=allE_mem h hi;rw[Gu_] at ho;have hle:∀ L':Ls,(∀ i,j≠some i->L' i=L i)->LkR (some xs) Lk L':=λL' hL' i=>by
   rw[hL i]
   grind
 have hlle:∀ L':Ls,(∀ i,j≠some i->L' i=L i)->LLe Lk L':=λL' hL' i x hx=>by
   have :=hle L' hL' i
   grind
 exact yB
end Go.SW
namespace Go.SW.V
open Go.SW
variable{P:Program}{n:Nat}{N:Rest}{H0:Env}{all:List Oper}{Q:Qs}{ks:List Kt}{fF:Nat->PV}{fL:Nat->Blk}
theorem roN{α:Type}{tb:Tb}{rs:List ResultVar}{ps:List PV}{res:Value->PV}{k e j:Nat}{enc:α->List PV}{xs xs':List α}{as0 bs:List Nat}{u0:Value}(u:Value)(h:Jv_ tb ⟨fF,fL⟩ rs=some (ps,as0,bs))(he:as0=bs)(hL:fL j = .arr u0 k e enc xs')(hu:u0=u)(hx:xs'=xs)(hp:PLe (tupP ps) (res u)):Hd P n N H0 (foK tb rs res k e enc xs) (.ex .ret) [] ⟨fF,fL⟩:=
 ⟨u,j,⟨.inr Z,_,as0,bs,h,he,hp⟩,by show fL j=_;rw[hL,hx,hu]⟩
variable{T ty:Nat}{x y:Operand}
theorem lo_aidxA{F:Fr}{H:Hp}{L:Ls}{kk:IntKind}{len k m:Nat}{i:Int}{e:TypeId}{cs vs:List Value}(hx:ev F x = .agg cs.toArray)(hy:ev F y = .int kk i)(hT:P.underlying T=some (.array len e))(hg:Ag P e true)(hk:Sz P e k)(hi:i=(m:Int))(hm:m<len)(hv:sub cs (m*k) k=vs):SW.Lo P N (.index T x y) ty F H L (.agg vs.toArray):=λd pos af gg w _=>by
 subst hi
 simp[execOp,hy,hx,GO,asIntOf,run_underlying hT,hk w,hm,part_A hg hk hv]
theorem lo_aidx1{F:Fr}{H:Hp}{L:Ls}{kk:IntKind}{len k m:Nat}{i:Int}{e:TypeId}{cs:List Value}{v:Value}(hx:ev F x = .agg cs.toArray)(hy:ev F y = .int kk i)(hT:P.underlying T=some (.array len e))(hg:Ag P e false)(hk:Sz P e k)(hi:i=(m:Int))(hm:m<len)(hv:cs[m*k]? = some v):SW.Lo P N (.index T x y) ty F H L v:=λd pos af gg w _=>by
 subst hi
 simp[execOp,hy,hx,GO,asIntOf,run_underlying hT,hk w,hm,part_1 hg hv]
theorem qaivA{tb:Tb}{te:TI}{kk:IntKind}{len k:Nat}{e:TypeId}{z:Int}{cs:List PV}(row:Nat->List PV)(m:Nat)(ht:tbB P tb=true)(hx:evP fF x = .agg cs)(hy:evP fF y = .int kk z)(hT:P.underlying T=some (.array len e))(hte:lkT tb e=some te)(hag:te.k.isAgg=true)(hsz:te.size=k)(hi:z=(m:Int))(hm:m<len)(hc:∀ q,q<len->(cs.drop (q*k)).take k=row q):Qy P N H0 ⟨fF,fL⟩ (.index T x y) ty (.agg (row m)):=λF H L ha=>by
 have h1:=(Cm_ ha.f x).sim
 have h2:=(Cm_ ha.f y).sim
 simp only at h1 h2
 rw[hx] at h1
 rw[hy] at h2
 have⟨vs,e1,h3⟩:=h1.inv_agg
 have hg:=(Ef_ ht hte).ag
 rw[hag] at hg
 have hk:=(Ef_ ht hte).sz
 rw[hsz] at hk
 exact⟨_,Sim.toAgg (by rw[<- hc m hm];exact (h3.drop _).take _),λ_ _ _=>lo_aidxA e1 h2.inv_int.1 hT hg hk hi hm Z⟩
theorem qaiv1{tb:Tb}{te:TI}{kk:IntKind}{len k:Nat}{e:TypeId}{z:Int}{cs:List PV}(row:Nat->PV)(m:Nat)(ht:tbB P tb=true)(hx:evP fF x = .agg cs)(hy:evP fF y = .int kk z)(hT:P.underlying T=some (.array len e))(hte:lkT tb e=some te)(hag:te.k.isAgg=false)(hsz:te.size=k)(hi:z=(m:Int))(hm:m<len)(hno:∀ q,(row q).noOsl=true)(hc:∀ q,q<len->cs[q*k]? = some (row q)):Qy P N H0 ⟨fF,fL⟩ (.index T x y) ty (row m):=λF H L ha=>by
 have h1:=(Cm_ ha.f x).sim
 have h2:=(Cm_ ha.f y).sim
 simp only at h1 h2
 rw[hx] at h1
 rw[hy] at h2
 have⟨vs,e1,h3⟩:=h1.inv_agg
 have hg:=(Ef_ ht hte).ag
 rw[hag] at hg
 have hk:=(Ef_ ht hte).sz
 rw[hsz] at hk
 have⟨v,hv,hsv⟩:=h3.get (hc m hm)
 exact⟨v,hsv.simT (hno m),λ_ _ _=>lo_aidx1 e1 h2.inv_int.1 hT hg hk hi hm hv⟩
end Go.SW.V
namespace Go.SW
variable{P:Program}{n:Nat}{N:Rest}{H0:Env}{all rest:List Oper}{Q:Qs}{ks:List Kt}{s:St}{T ty d:Nat}{pos:String}{af:Array Edge}{x y:Operand}{K:St->Prop}{op:Op}{p:PV}
theorem Z6_{α:Type}[Inhabited α](zs:List α):∀ m:Nat,(List.range (m*zs.length)).map (λj=>zs.toArray[j%zs.length]!)=(List.replicate m zs).flatten
 |0=>by simp
 |m+1=>by
   rw[DA,List.range_add,BK,Z6_ zs m,List.replicate_succ',List.flatten_append,EW]
   congr 1
   simp only[AP,AU,AJ]
   apply List.ext_getElem
   . simp
   . intro j h1 h2
     simp[Nat.mod_eq_of_lt h2,h2]
theorem op1_makeZ{F:Fr}{H:Hp}{L:Ls}{k bytes m:Nat}{e:TypeId}{zs:List Value}{k1 k2:IntKind}{len cap:Int}{ops:List Oper}{K:Fr->Hp->Ls->Prop}(i:Nat)(hx:ev F x = .int k1 len)(hy:ev F y = .int k2 cap)(hT:P.underlying T=some (.slice e))(hk:Sz P e k)(hb:By P e bytes)(hz:Zr P e zs)(hzl:zs.length=k)
   (hlen:len=(m:Int)) (hcap:cap=(m:Int)) (hbd:bytes*m<=281474976710656) (hm9:m<=9223372036854775807) (hd:Nat.blt d n=true)
   (kk:∀ b,K (upd F d (.slice (some ⟨b,0,none⟩) m m)) H (lupd L i (some (b,bx e (List.replicate m zs).flatten)))):Op1 P n N ops ⟨some d, .makeSlice T x y,ty,pos,af,none⟩ K F H L:=by
 intro a w ha hm;rw[if_pos qM];unfold BJ;subst hlen;subst hcap;have⟨inf,hinf,hbb⟩:=hb w;have⟨z,hzr,hzc⟩:=hz w;have hw:A0 .i64 (m:Int)=(m:Int):=by
   exact tZ
 suffices hr:(execOp a.eval ⟨some d, .makeSlice T x y,ty,pos,af,none⟩).run P w = .ok (.value (.slice (some ⟨w.heap.size,0,none⟩) m m)) {w with heap:=w.heap.push (bx e (AH m zs).flatten)} by
   rw[hr]
   exact zZ
 have h1:¬((m:Int)<0):=by omega
 have h2:¬(281474976710656<(inf.bytes:Int)*(m:Int)):=by
   grind
 rw[ha.eval];by_cases h0:m*k=0;have e0:(AH m zs).flatten=[]:=by
   rw[<- List.length_eq_zero_iff];simp[hzl,h0]
 rw[e0];simp[execOp,hx,hy,FV,run_underlying hT,T5_,hinf,hw,h1,h2,hk w,h0,newRow,askRoom,bx];grind
 . have hr:=Z6_ zs m
   rw[hzl] at hr
   rw[<- hr]
   simp[execOp,hx,hy,FV,run_underlying hT,T5_,hinf,hw,h1,h2,hk w,h0,hzr,newRow,askRoom,bx]
   congr 1
   simp[Obj.cells.injEq]
   grind
theorem rl_rep{α:Type}{H:Hp}{enc:α->List PV}{k:Nat}{z:α}{zs:List Value}(h:RowE enc k H z zs):∀ m:Nat,Rl (RowE enc k) H (List.replicate m z) (List.replicate m zs).flatten
 |0=>rfl
 |m+1=>by rw[FJ,FJ,AP];exact⟨zs,_,rfl,h,rl_rep h m⟩
theorem mksl{α:Type}{tb:Tb}{e:Nat}{te ti:TI}{k1 k2:IntKind}{len cap:Int}(i m:Nat)(enc:α->List PV)(z:α)(ht:tbB P tb=true)(hx:evP s.F x = .int k1 len)(hy:evP s.F y = .int k2 cap)(hti:lkT tb T=some ti)(htk:ti.k = .slc e)(hte:lkT tb e=some te)(hz:te.zero=enc z)(hzl:te.zero.length=te.size)(hone:all1 te.zero=true)(hlen:len=(m:Int))(hcap:cap=(m:Int))(hbd:m*te.bytes<=140737488355328)(hm:m<=140737488355328)(hd:Nat.blt d n=true)(hno:s.L i = .no)
   (kk:∀ u',K ⟨updp (Lz_ i s.F) d (.osl i),lups (H6_ i s.L) i (.arr u' te.size e enc (List.replicate m z))⟩):E1 P n N H0 all ⟨some d, .makeSlice T x y,ty,pos,af,none⟩ (some i) s K:=by
 intro F H L ha;have h1:=(Cm_ ha.f x).sim;rw[hx] at h1;have h2:=(Cm_ ha.f y).sim;rw[hy] at h2;have⟨zv,hzv,hs⟩:=(Ef_ ht hte).zero;have hok:=Ef_ ht hte;have hall:=Ua_ (hs H) hone;have hl:zv.cells.toList.length=te.size:=by rw[(hs H).1,hzl]
 refine op1_makeZ i h1.inv_int.1 h2.inv_int.1 ((Ef_ ht hti).slc htk) hok.sz hok.by_ (zs:=zv.cells.toList) (λw=>⟨zv,hzv w,by simp⟩) hl hlen hcap (by rw[CP];omega) qD hd λb=>⟨.refl H,only,_,(ha.turn i (B:= .arr (.slice (some ⟨b,0,none⟩) m m) te.size e enc (AH m z)) ⟨(AH m zv.cells.toList).flatten,?_,rl_rep ⟨by rw[<- hz,hzl],by rw[<- hz];exact hs H,λu hu=>List.all_eq_true.1 hall u hu⟩ m,by simpa using hm⟩).put d pN,kk _⟩;simp only[BN];have hfl:(AH m zv.cells.toList).flatten.length=m*te.size:=by simp[hl]
 exact⟨hfl, .inr ⟨b,m,(AH m zv.cells.toList).flatten,[],rfl,rfl,FM hfl.symm,BF _,by rw[AD (FM hfl)],λ_=>rfl⟩⟩
end Go.SW
namespace Go.SW.V
open Go.SW
variable{P:Program}{n:Nat}{N:Rest}{H0:Env}{ks:List Kt}{fF:Nat->PV}{fL:Nat->Blk}{tb:Tb}{rs:List ResultVar}{res p q r t u:PV}{as0 bs:List Nat}
theorem rt4(h:Jv_ tb ⟨fF,fL⟩ rs=some ([p,q,r,t],as0,bs))(he:as0=bs)(hp:PLe (.tup [p,q,r,t]) res):Hd P n N H0 (rtK tb rs res) (.ex .ret) [] ⟨fF,fL⟩:=rt h he hp
end Go.SW.V
namespace Go.SW.V
open Go.SW
variable{P:Program}{n:Nat}{N:Rest}{H0:Env}{all rest:List Oper}{Q:Qs}{ks:List Kt}{fF:Nat->PV}{fL:Nat->Blk}{T ty d:Nat}{pos:String}{af:Array Edge}{x y z:Operand}{K:St->Prop}
structure EfR where
 F:Nat->PV
 L:Nat->Blk
 eq:Option (Nat×Nat)
def mkE(tb:Tb)(n:Nat)(i b:Nat)(F:Nat->PV)(L:Nat->Blk)(o:Oper):Option EfR:=
 match o.guard with
 |some _=>none
 |none=>match o.dst with
   |none=>none
   |some d=>match F3 d n with
     |false=>none
     |true=>match o.op with
       | .alloc T=>match lkT tb T with
         |some ti=>match evL ti.zero with
           |some zs=>match Du_ zs with
             |true=>some ⟨updp F d (.own i b 0),lups L i (.box b T zs),none⟩
             |false=>none
           |none=>none
         |none=>none
       | .box T x=>match evP F x with
         | .agg cs=>match Du_ cs with
           |true=>some ⟨updp F d (.own i b 0),lups L i (.box b T cs),none⟩
           |false=>none
         |v=>match evS v with
           |some p=>match p.one with
             |true=>some ⟨updp F d (.own i b 0),lups L i (.box b T [p]),none⟩
             |false=>none
           |none=>none
       |_=>none
def stE(tb:Tb)(F:Nat->PV)(L:Nat->Blk)(o:Oper):Option EfR:=
 match o.guard with
 |some _=>none
 |none=>match o.dst with
   |some _=>none
   |none=>match o.op with
     | .store T x y=>match evP F x with
       | .own i b off=>match L i with
         | .box b' T0 cs=>match lkT tb T with
           |some ti=>match evP F y with
             | .agg ps=>match Du_ ps with
               |true=>match all1 ps with
                 |true=>match AW ps.length ti.size with
                   |true=>match Nat.ble (off+ti.size) cs.length with
                     |true=>match evL (cs.take off++(ps++cs.drop (off+ti.size))) with
                       |some cs'=>some ⟨F,lups L i (.box b T0 cs'),some (b',b)⟩
                       |none=>none
                     |false=>none
                   |false=>none
                 |false=>none
               |false=>none
             |v=>match AW ti.size 1 with
               |true=>match evS v with
                 |some p=>match p.one with
                   |true=>match F3 off cs.length with
                     |true=>match evL (cs.set off p) with
                       |some cs'=>some ⟨F,lups L i (.box b T0 cs'),some (b',b)⟩
                       |none=>none
                     |false=>none
                   |false=>none
                 |none=>none
               |false=>none
           |none=>none
         |_=>none
       |_=>none
     |_=>none
def kindE(o:Op):Nat:=
 match o with
 | .alloc _=>0
 | .box _ _=>0
 | .store _ _ _=>1
 |_=>2
def runE(tb:Tb)(n:Nat):Nat->List Nat->(Nat->Nat)->Cf->List Kt->(Nat->PV)->(Nat->Blk)->List Prop->List Nat->List Nat->Option RR
 |0,_,_,c,ks,F,L,ps,as0,bs=>frcP ps λps=>frcN as0 λas0=>frcN bs λbs=>some ⟨c,ks,F,L,ps,as0,bs⟩
 |k+1,is,B,c,ks,F,L,ps,as0,bs=>
   match c with
   | .ops all (o::rest)=>match kindE o.op with
     |0=>match is with
       |[]=>none
       |i::is=>match mkE tb n i (B 0) F L o with
         |some ⟨F,L,_⟩=>runE tb n k is (λi=>B (i+1)) (.ops all rest) ks F L ps as0 bs
         |none=>none
     |1=>match stE tb F L o with
       |some ⟨F,L,e⟩=>match e with
         |some (a,b)=>runE tb n k is B (.ops all rest) ks F L ps (a::as0) (b::bs)
         |none=>none
       |none=>none
     |_=>match run tb n 1 (.ops all (o::rest)) ks F L ps as0 bs with
       |some ⟨c,ks,F,L,ps,as0,bs⟩=>runE tb n k is B c ks F L ps as0 bs
       |none=>none
   |c=>match run tb n 1 c ks F L ps as0 bs with
     |some ⟨c,ks,F,L,ps,as0,bs⟩=>runE tb n k is B c ks F L ps as0 bs
     |none=>none
theorem mkE_ok{tb:Tb}(ht:tbB P tb=true){i:Nat}{F:Nat->PV}{L:Nat->Blk}{o:Oper}(h:∀ b,∃ r,mkE tb n i b F L o=some r/\Hd P n N H0 Q (.ops all rest) ks ⟨r.F,r.L⟩):Hd P n N H0 Q (.ops all (o::rest)) ks ⟨F,L⟩:=by
 have⟨dst,op,ty,pos,af,g⟩:=o;have h0:=h 0
 cases g with
 |some q=>have⟨r,h1,_⟩:=h0;simp[mkE] at h1
 |none=>
   cases dst with
   |none=>have⟨r,h1,_⟩:=h0;simp[mkE] at h1
   |some d=>
     cases hd:F3 d n with
     |false=>have⟨r,h1,_⟩:=h0;simp[mkE,hd] at h1
     |true=>
       cases op with
       |alloc T=>
         simp only[mkE,hd] at h
         cases hti:lkT tb T with
         |none=>rw[hti] at h;have⟨r,h1,_⟩:=h 0;simp at h1
         |some ti=>
           rw[hti] at h
           simp only at h
           cases hz:evL ti.zero with
           |none=>rw[hz] at h;have⟨r,h1,_⟩:=h 0;simp at h1
           |some zs=>
             rw[hz] at h
             simp only at h
             cases hn:Du_ zs with
             |false=>rw[hn] at h;have⟨r,h1,_⟩:=h 0;simp at h1
             |true=>
               rw[hn] at h
               refine ef (alloc ht i hti hz hn hd λb=>?_)
               have⟨r,h1,h2⟩:=h b
               grind
       |box T x=>
         simp only[mkE,hd] at h
         split at h
         . rename_i cs hx
           cases hn:Du_ cs with
           |false=>rw[hn] at h;have⟨r,h1,_⟩:=h 0;simp at h1
           |true=>
             rw[hn] at h
             refine ef (boxA i hx hn hd λb=>?_)
             have⟨r,h1,h2⟩:=h b
             grind
         . cases hs:evS (evP F x) with
           |none=>rw[hs] at h;have⟨r,h1,_⟩:=h 0;simp at h1
           |some p=>
             rw[hs] at h
             simp only at h
             cases ho:p.one with
             |false=>rw[ho] at h;have⟨r,h1,_⟩:=h 0;simp at h1
             |true=>
               rw[ho] at h
               refine ef (box1 i hs ho hd λb=>?_)
               have⟨r,h1,h2⟩:=h b
               grind
       |_=>have⟨r,h1,_⟩:=h0;simp[mkE,hd] at h1
theorem stE_ok{tb:Tb}(ht:tbB P tb=true){F:Nat->PV}{L:Nat->Blk}{o:Oper}{r:EfR}(h:stE tb F L o=some r)(he:∀ q,r.eq=some q->q.1=q.2)(k:Hd P n N H0 Q (.ops all rest) ks ⟨r.F,r.L⟩):Hd P n N H0 Q (.ops all (o::rest)) ks ⟨F,L⟩:=by
 have⟨dst,op,ty,pos,af,g⟩:=o
 cases g with
 |some q=>simp[stE] at h
 |none=>
   cases dst with
   |some d=>simp[stE] at h
   |none=>
     cases op with
     |store T x y=>
       simp only[stE] at h
       split at h
       . rename_i i b off hx
         split at h
         . rename_i b' T0 cs hb
           split at h
           . rename_i ti hti
             split at h
             . rename_i ps hy
               split at h
               . rename_i hn
                 split at h
                 . rename_i ho
                   split at h
                   . rename_i hsz
                     split at h
                     . rename_i hl
                       split at h
                       . rename_i cs' hc
                         simp only[Option.some.injEq] at h
                         subst h
                         exact ef (storeA ht hx hb hti hy hn ho (AQ hsz) hl (he _ Z) hc k)
                       . cases h
                     . cases h
                   . cases h
                 . cases h
               . cases h
             . split at h
               . rename_i hsz
                 split at h
                 . rename_i p hs
                   split at h
                   . rename_i ho
                     split at h
                     . rename_i hl
                       split at h
                       . rename_i cs' hc
                         simp only[Option.some.injEq] at h
                         subst h
                         exact ef (store1 ht hx hb hti (AQ hsz) hs ho hl (he _ Z) hc k)
                       . cases h
                     . cases h
                   . cases h
                 . cases h
               . cases h
           . cases h
         . cases h
       . cases h
     |_=>simp[stE] at h
def okR(P:Program)(n:Nat)(N:Rest)(H0:Env)(Q:Qs)(r:RR):Prop:=AllP r.ps/\r.as0=r.bs/\Hd P n N H0 Q r.c r.ks ⟨r.F,r.L⟩
theorem runE_ok{tb:Tb}(ht:tbB P tb=true):∀ (k:Nat) (is:List Nat) (c:Cf) (ks:List Kt) (F:Nat->PV) (L:Nat->Blk) (ps:List Prop) (as0 bs:List Nat),(∀ B:Nat->Nat,∃ r,runE tb n k is B c ks F L ps as0 bs=some r/\okR P n N H0 Q r)->AllP ps/\as0=bs/\Hd P n N H0 Q c ks ⟨F,L⟩:=by
 intro k
 induction k with
 |zero=>
   intro is c ks F L ps as0 bs h
   have⟨r,h1,h2,h3,h4⟩:=h (λ_=>0)
   simp only[runE,Wt_,frcN_eq,Option.some.injEq] at h1
   grind
 |succ k ih=>
   intro is c ks F L ps as0 bs h
   have one:(∀ B:Nat->Nat,∃ r,(match run tb n 1 c ks F L ps as0 bs with
       |some ⟨c,ks,F,L,ps,as0,bs⟩=>runE tb n k is B c ks F L ps as0 bs
       |none=>none)=some r/\okR P n N H0 Q r)->AllP ps/\as0=bs/\Hd P n N H0 Q c ks ⟨F,L⟩:=by
     intro h
     cases hr:run tb n 1 c ks F L ps as0 bs with
     |none=>have⟨r,h1,_⟩:=h (λ_=>0);rw[hr] at h1;cases h1
     |some q=>
       have⟨c',ks',F',L',ps',as',bs'⟩:=q
       have⟨i1,i2,i3⟩:=ih is c' ks' F' L' ps' as' bs' (λB=>by have⟨r,h1,h2⟩:=h B;rw[hr] at h1;exact⟨r,h1,h2⟩)
       have⟨j1,j2,j3⟩:=run_ok ht (Q:=Q) (N:=N) (H0:=H0) 1 c ks F L ps as0 bs _ hr i1 i2
       grind
   cases c with
   |code c=>exact one h
   |ex e=>exact one h
   |ops all l=>
     cases l with
     |nil=>exact one h
     |cons o rest=>
       simp only[runE] at h
       split at h
       . cases is with
         |nil=>have⟨r,h1,_⟩:=h (λ_=>0);cases h1
         |cons i is=>
           have hb:∀ b,∃ r,mkE tb n i b F L o=some r/\AllP ps/\as0=bs/\Hd P n N H0 Q (.ops all rest) ks ⟨r.F,r.L⟩:=by
             intro b
             cases hm:mkE tb n i b F L o with
             |none=>have⟨r,h1,_⟩:=h (λ_=>b);simp only[hm] at h1;cases h1
             |some q=>
               have⟨F',L',e⟩:=q
               refine⟨_,rfl,ih is (.ops all rest) ks F' L' ps as0 bs λB=>?_⟩
               have⟨r,h1,h2⟩:=h (λj=>match j with|0=>b|j+1=>B j)
               grind
           have⟨_,_,q1,q2,_⟩:=hb 0
           exact⟨q1,q2,mkE_ok ht λb=>by have⟨r,h1,_,_,h2⟩:=hb b;exact⟨r,h1,h2⟩⟩
       . cases hs:stE tb F L o with
         |none=>have⟨r,h1,_⟩:=h (λ_=>0);rw[hs] at h1;cases h1
         |some q=>
           have⟨F',L',e⟩:=q
           cases e with
           |none=>have⟨r,h1,_⟩:=h (λ_=>0);rw[hs] at h1;cases h1
           |some ab=>
             have⟨a,b⟩:=ab
             have⟨i1,i2,i3⟩:=ih is (.ops all rest) ks F' L' ps (a::as0) (b::bs) (λB=>by have⟨r,h1,h2⟩:=h B;rw[hs] at h1;exact⟨r,h1,h2⟩)
             simp only[List.cons.injEq] at i2
             exact⟨i1,i2.2,stE_ok ht hs (λq hq=>by cases hq;exact i2.1) i3⟩
       . exact one h
theorem gmp{tb:Tb}(ht:tbB P tb=true)(k:Nat)(is:List Nat){c c':Cf}{ks':List Kt}{F':(Nat->Nat)->Nat->PV}{L':(Nat->Nat)->Nat->Blk}{ps:(Nat->Nat)->List Prop}{as0 bs:(Nat->Nat)->List Nat}(h:∀ B,runE tb n k is B c ks fF fL [] [] []=some ⟨c',ks',F' B,L' B,ps B,as0 B,bs B⟩)(he:∀ B,as0 B=bs B)(hp:∀ B,AllP (ps B))(next :∀ B:Nat->Nat,Hd P n N H0 Q c' ks' ⟨F' B,L' B⟩):Hd P n N H0 Q c ks ⟨fF,fL⟩:=
 (runE_ok ht k is c ks fF fL [] [] [] λB=>⟨_,h B,hp B,he B,next B⟩).2.2
theorem gx{tb:Tb}(ht:tbB P tb=true)(k:Nat){c c':Cf}{ks':List Kt}{F':Nat->PV}{L':Nat->Blk}{as0 bs:List Nat}(next :Hd P n N H0 Q c' ks' ⟨F',L'⟩)(h:run tb n k c ks fF fL [] [] []=some ⟨c',ks',F',L',[],as0,bs⟩:=by exact Z)(he:as0=bs:=by exact Z):Hd P n N H0 Q c ks ⟨fF,fL⟩:=go ht k h he U next
theorem gm{tb:Tb}(ht:tbB P tb=true)(k:Nat)(is:List Nat){c c':Cf}{ks':List Kt}{F':(Nat->Nat)->Nat->PV}{L':(Nat->Nat)->Nat->Blk}{as0 bs:(Nat->Nat)->List Nat}(next :∀ B:Nat->Nat,Hd P n N H0 Q c' ks' ⟨F' B,L' B⟩)(h:∀ B,runE tb n k is B c ks fF fL [] [] []=some ⟨c',ks',F' B,L' B,[],as0 B,bs B⟩:=by exact λ_=>rfl)(he:∀ B,as0 B=bs B:=by exact λ_=>rfl):Hd P n N H0 Q c ks ⟨fF,fL⟩:=gmp ht k is h he (λ_=>trivial) next
abbrev jIn(xs:List Nat)(j:Option Nat):Bool:=match j with|none=>true|some j=>memB xs j
theorem sA{tb:Tb}{ti:TI}{i b b' off T0:Nat}{cs ps cs':List PV}(ht:tbB P tb=true)(k:K ⟨fF,lups fL i (.box b T0 cs')⟩)(hx:evP fF x = .own i b off:=by exact Z)(hb:fL i = .box b' T0 cs:=by exact Z)(hti:lkT tb T=some ti:=by exact Z)(hy:evP fF y = .agg ps:=by exact Z)(hn:Du_ ps=true:=by exact Z)(ho:all1 ps=true:=by exact Z)(hsz:ps.length=ti.size:=by exact Z)(hl:Nat.ble (off+ti.size) cs.length=true:=by exact Z)(hbb:b'=b:=by exact Z)(hc:evL (cs.take off++(ps++cs.drop (off+ti.size)))=some cs':=by exact Z):E1 P n N H0 all ⟨none, .store T x y,ty,pos,af,none⟩ (some i) ⟨fF,fL⟩ K:=storeA ht hx hb hti hy hn ho hsz hl hbb hc k
theorem sO{tb:Tb}{ti:TI}{i b b' off T0:Nat}{cs cs':List PV}{p:PV}(ht:tbB P tb=true)(k:K ⟨fF,lups fL i (.box b T0 cs')⟩)(hx:evP fF x = .own i b off:=by exact Z)(hb:fL i = .box b' T0 cs:=by exact Z)(hti:lkT tb T=some ti:=by exact Z)(hsz:ti.size=1:=by exact Z)(hy:evS (evP fF y)=some p:=by exact Z)(ho:p.one=true:=by exact Z)(hl:Nat.blt off cs.length=true:=by exact Z)(hbb:b'=b:=by exact Z)(hc:evL (cs.set off p)=some cs':=by exact Z):E1 P n N H0 all ⟨none, .store T x y,ty,pos,af,none⟩ (some i) ⟨fF,fL⟩ K:=store1 ht hx hb hti hsz hy ho hl hbb hc k
theorem aL{tb:Tb}{ti:TI}{zs:List PV}(ht:tbB P tb=true)(i:Nat)(k:∀ b,K ⟨updp fF d (.own i b 0),lups fL i (.box b T zs)⟩)(hti:lkT tb T=some ti:=by exact Z)(hz:evL ti.zero=some zs:=by exact Z)(hn:Du_ zs=true:=by exact Z)(hd:Nat.blt d n=true:=by exact Z):E1 P n N H0 all ⟨some d, .alloc T,ty,pos,af,none⟩ (some i) ⟨fF,fL⟩ K:=alloc ht i hti hz hn hd k
theorem eC{f:FuncId}{args:List PV}{res:PV}{as0:Array Operand}{ats:Array TypeId}(h:Fn P H0.g f args res)(ha:argsP fF x as0.toList=some (f,args))(k:res.wf->K ⟨updp fF d res,fL⟩)(hd:Nat.blt d n=true:=by exact Z):E1 P n N H0 all ⟨some d, .call ⟨.value x,as0,ats⟩,ty,pos,af,none⟩ none ⟨fF,fL⟩ K:=ecall h ha hd k
theorem vE{xs:List Nat}{fuel:Nat}{listed:Array Bool}{o:Oper}{j:Option Nat}(i:Nat)(hi:nth all i=some o)(h:E1 P n N H0 all o j ⟨fF,fL⟩ (λs'=>Hv P n N H0 Q (some xs) all fuel (listed.setIfInBounds i true) ks s'))(hr:Region.ready .any all.toArray listed=[i]:=by kernel_rfl)(hj:jIn xs j=true:=by exact Z):Hv P n N H0 Q (some xs) all (fuel+1) listed ks ⟨fF,fL⟩:=ve i hi hr hj h
theorem vT{xs:Option (List Nat)}{fuel:Nat}{listed:Array Bool}{o:Oper}{j:Option Nat}(i:Nat)(hi:nth all i=some o)(h:E1 P n N H0 all o j ⟨fF,fL⟩ (λs'=>Hv P n N H0 Q none all fuel (listed.setIfInBounds i true) ks s'))(hr:Region.ready .any all.toArray listed=[i]:=by kernel_rfl)(ht:tailB all listed i=true:=by kernel_rfl):Hv P n N H0 Q xs all (fuel+1) listed ks ⟨fF,fL⟩:=vt i hi hr ht h
theorem vD{xs:Option (List Nat)}{fuel:Nat}{listed:Array Bool}(k:Hd P n N H0 Q (.ex .normal) ks ⟨fF,fL⟩)(h:Region.ready .any all.toArray listed=[]:=by kernel_rfl):Hv P n N H0 Q xs all fuel listed ks ⟨fF,fL⟩:=vdone h k
theorem aN(xs:List Nat)(m:Nat){id:Nat}{ops:Array Oper}(hmx:P.follows .mixedOrders=true)(h:Hv P n N H0 Q (some xs) ops.toList m (Array.replicate m false) ks ⟨fF,fL⟩)(hm:ops.toList.length=m:=by exact Z):Hd P n N H0 Q (.code (.region id ops true)) ks ⟨fF,fL⟩:=any xs m hmx hm h
theorem gX{tb:Tb}(ht:tbB P tb=true)(order:List Nat)(f:Nat){xs:Option (List Nat)}{fuel:Nat}{listed:Array Bool}{F':Nat->PV}{L':Nat->Blk}{as0 bs:List Nat}(next :Hv P n N H0 Q xs all f (lst listed order) ks ⟨F',L'⟩)(hf:fuel=f+order.length:=by exact Z)(hc:chkV n all order listed=true:=by kernel_rfl)(h:runV tb xs all order fF fL [] [] []=some ⟨F',L',[],as0,bs⟩:=by exact Z)(he:as0=bs:=by exact Z):Hv P n N H0 Q xs all fuel listed ks ⟨fF,fL⟩:=gov ht order f hf hc h he U next
theorem vC{xs:Option (List Nat)}{fuel:Nat}{listed:Array Bool}{f:FuncId}{args:List PV}{res:PV}{as0:Array Operand}{ats:Array TypeId}(i:Nat)(hi:nth all i=some ⟨some d, .call ⟨.value x,as0,ats⟩,ty,pos,af,none⟩)(h:Fn P H0.g f args res)(ha:argsP fF x as0.toList=some (f,args))(k:res.wf->Hv P n N H0 Q xs all fuel (listed.setIfInBounds i true) ks ⟨updp fF d res,fL⟩)(hck:(rdB all listed i&&apB n all listed i ⟨some d, .call ⟨.value x,as0,ats⟩,ty,pos,af,none⟩&&Nat.blt d n&&nosB (.call ⟨.value x,as0,ats⟩))=true:=by kernel_rfl)(hf:res.flat=true:=by exact Z):Hv P n N H0 Q xs all (fuel+1) listed ks ⟨fF,fL⟩:=vcall i hi hck h hf ha k
theorem nX{ι:Type _}{keep kL:List Nat}{G:Nat->PV}{GL:Nat->Blk}{lv:ι->List (Nat×PV)}{lL:ι->List (Nat×Blk)}{Φ:ι->Prop}{μ:ι->Nat}{m:Nat}{ks:List Kt}{Q:Qs}(x':ι)(hΦ:Φ x')(h3:AllF fF (lv x'))(h4:AllL fL (lL x'))(h1:keep.map fF=keep.map G:=by exact Z)(h2:kL.map fL=kL.map GL:=by exact Z)(hm:μ x'<m:=by decide):Hd P n N H0 Q (.ex .normal) (.lp (LJ (λx=>⟨mkF (lv x) keep G,mkL (lL x) kL GL⟩) Φ μ m)::ks) ⟨fF,fL⟩:=next x' h1 h2 h3 h4 hm hΦ
theorem cE{α:Type}{v a b:α}{c:Operand}{p q:Code}{t:Bool}(e:v = bif t then a else b)(ht:t=true->v=a->Hd P n N H0 Q (.code p) ks ⟨fF,fL⟩)(hf:t=false->v=b->Hd P n N H0 Q (.code q) ks ⟨fF,fL⟩)(hc:evP fF c = .bool t:=by exact Z):Hd P n N H0 Q (.code (.cond c p q)) ks ⟨fF,fL⟩:=cnd hc (λh=>ht h (e.trans (by rw[h];rfl))) (λh=>hf h (e.trans (by rw[h];rfl)))
theorem cD{α:Type}{v a b:α}{c:Operand}{p q:Code}{t:Prop}[Decidable t](e:v = bif decide t then a else b)(ht:t->v=a->Hd P n N H0 Q (.code p) ks ⟨fF,fL⟩)(hf:¬t->v=b->Hd P n N H0 Q (.code q) ks ⟨fF,fL⟩)(hc:evP fF c = .bool (decide t):=by exact Z):Hd P n N H0 Q (.code (.cond c p q)) ks ⟨fF,fL⟩:=cE e (λh=>ht (of_decide_eq_true h)) (λh=>hf (of_decide_eq_false h)) hc
theorem cN{α:Type}{v a b:α}{c:Operand}{p q:Code}{t:Prop}[Decidable t](e:v = bif !decide t then a else b)(ht:¬t->v=a->Hd P n N H0 Q (.code p) ks ⟨fF,fL⟩)(hf:t->v=b->Hd P n N H0 Q (.code q) ks ⟨fF,fL⟩)(hc:evP fF c = .bool (!decide t):=by exact Z):Hd P n N H0 Q (.code (.cond c p q)) ks ⟨fF,fL⟩:=cE e (λh=>ht pD) (λh=>hf pD) hc
theorem fC{tb:Tb}{G:Gb}{m:Nat}{f:FuncId}{fn:Func}{c:Code}{args:List PV}{res:PV}(hf:P.funcs[f]? = some fn)(ht:tbB P tb=true)(hn:fn.ntmps=m)(h:PV.wfs args->∀ N H,G.p H->Hd P m N ⟨H,G⟩ (rtK tb fn.results.toList res) (.code c) [] ⟨O4_ args,λ_=> .no⟩)(hb:fn.body=some c:=by exact Z)(hs:Nat.ble args.length m=true:=by exact Z)(h1:(fn.name == "runtime.NumGoroutine")=false:=by kernel_rfl)(h2:fn.body.isNone=false:=by kernel_rfl)(hno:res.noOsl=true:=by exact Z)(hna:Du_ args=true:=by exact Z):Fn P G f args res:=fn_cw ht hf hb hn hs (P_ hf (hn:=h1) (hb:=h2)) hno hna h
variable{tb:Tb}{rs:List ResultVar}{as0 bs:List Nat}{res q0 q1 q2 q3:PV}
theorem qr1(h:Jv_ tb ⟨fF,fL⟩ rs=some ([q0],as0,bs):=by exact Z)(he:as0=bs:=by exact Z)(hp:PLe q0 res:=by exact ple Z):Hd P n N H0 (rtK tb rs res) (.ex .ret) [] ⟨fF,fL⟩:=rt1 h he hp
theorem qr2(h:Jv_ tb ⟨fF,fL⟩ rs=some ([q0,q1],as0,bs):=by exact Z)(he:as0=bs:=by exact Z)(hp:PLe (.tup [q0,q1]) res:=by exact ple Z):Hd P n N H0 (rtK tb rs res) (.ex .ret) [] ⟨fF,fL⟩:=rt2 h he hp
theorem qr3(h:Jv_ tb ⟨fF,fL⟩ rs=some ([q0,q1,q2],as0,bs):=by exact Z)(he:as0=bs:=by exact Z)(hp:PLe (.tup [q0,q1,q2]) res:=by exact ple Z):Hd P n N H0 (rtK tb rs res) (.ex .ret) [] ⟨fF,fL⟩:=rt3 h he hp
theorem qr4(h:Jv_ tb ⟨fF,fL⟩ rs=some ([q0,q1,q2,q3],as0,bs):=by exact Z)(he:as0=bs:=by exact Z)(hp:PLe (.tup [q0,q1,q2,q3]) res:=by exact ple Z):Hd P n N H0 (rtK tb rs res) (.ex .ret) [] ⟨fF,fL⟩:=rt4 h he hp
theorem cV{α β:Type}{v:β}{g:α}{kf:α->β}{f:FuncId}{args:List PV}{xs:Array Operand}{ats:Array TypeId}(e:v=lt g kf)(enc:α->PV)(h:Fn P H0.g f args (enc g))(ha:argsP fF x xs.toList=some (f,args))(k:∀ r,r=g->v=kf r->(enc r).wf->Hd P n N H0 Q (.ops all rest) ks ⟨updp fF d (enc r),fL⟩)(hd:Nat.blt d n=true:=by exact Z):Hd P n N H0 Q (.ops all (⟨some d, .call ⟨.value x,xs,ats⟩,ty,pos,af,none⟩::rest)) ks ⟨fF,fL⟩:=
 callv g enc h ha hd λr hr w=>k r hr (e.trans (Dp_ hr)) w
theorem gy{tb:Tb}(ht:tbB P tb=true)(k:Nat){c c':Cf}{ks':List Kt}{F':Nat->PV}{L':Nat->Blk}{ps:List Prop}{as0 bs:List Nat}(next :Hd P n N H0 Q c' ks' ⟨F',L'⟩)(h:run tb n k c ks fF fL [] [] []=some ⟨c',ks',F',L',ps,as0,bs⟩:=by exact Z)(he:as0=bs:=by exact Z)(hp:AllP ps:=by repeat' (first|exact U|refine And.intro ?_ ?_|exact λhc=>hc|exact Z|exact λhc=>rfl|omega|(intro hc;omega)|(intro hc;rw[hc];rfl))):Hd P n N H0 Q c ks ⟨fF,fL⟩:=go ht k h he hp next
theorem gmy{tb:Tb}(ht:tbB P tb=true)(k:Nat)(is:List Nat){c c':Cf}{ks':List Kt}{F':(Nat->Nat)->Nat->PV}{L':(Nat->Nat)->Nat->Blk}{ps:(Nat->Nat)->List Prop}{as0 bs:(Nat->Nat)->List Nat}(next :∀ B:Nat->Nat,Hd P n N H0 Q c' ks' ⟨F' B,L' B⟩)(h:∀ B,runE tb n k is B c ks fF fL [] [] []=some ⟨c',ks',F' B,L' B,ps B,as0 B,bs B⟩:=by exact λ_=>rfl)(he:∀ B,as0 B=bs B:=by exact λ_=>rfl)(hp:∀ B,AllP (ps B):=by intro B;repeat' (first|exact U|refine And.intro ?_ ?_|exact λhc=>hc|exact Z|exact λhc=>rfl|omega|(intro hc;omega)|(intro hc;rw[hc];rfl))):Hd P n N H0 Q c ks ⟨fF,fL⟩:=gmp ht k is h he hp next
theorem gXy{tb:Tb}(ht:tbB P tb=true)(order:List Nat)(f:Nat){xs:Option (List Nat)}{fuel:Nat}{listed:Array Bool}{F':Nat->PV}{L':Nat->Blk}{ps:List Prop}{as0 bs:List Nat}(next :Hv P n N H0 Q xs all f (lst listed order) ks ⟨F',L'⟩)(hf:fuel=f+order.length:=by exact Z)(hc:chkV n all order listed=true:=by kernel_rfl)(h:runV tb xs all order fF fL [] [] []=some ⟨F',L',ps,as0,bs⟩:=by exact Z)(he:as0=bs:=by exact Z)(hp:AllP ps:=by repeat' (first|exact U|refine And.intro ?_ ?_|exact λhc=>hc|exact Z|exact λhc=>rfl|omega|(intro hc;omega)|(intro hc;rw[hc];rfl))):Hv P n N H0 Q xs all fuel listed ks ⟨fF,fL⟩:=gov ht order f hf hc h he hp next
end Go.SW.V
namespace Go.SW
variable{P:Program}{n:Nat}{N:Rest}{H0:Env}{all rest:List Oper}{Q:Qs}{ks:List Kt}{T ty d:Nat}{pos:String}{af:Array Edge}{x:Operand}{K:St->Prop}
def E2(P:Program)(n:Nat)(N:Rest)(H0:Env)(all:List Oper)(o:Oper)(js:List Nat)(s:St)(K:St->Prop):Prop:=
 ∀ F H L,Abs H0 s F H L->Op1 P n N all o (λF' H' L'=>HLe H H'/\(∀ q,memB js q=false->L' q=L q)/\∃ s',Abs H0 s' F' H' L'/\K s') F H L
theorem ef2{o:Oper}{js:List Nat}{s:St}(h:E2 P n N H0 all o js s (λs'=>Hd P n N H0 Q (.ops all rest) ks s')):Hd P n N H0 Q (.ops all (o::rest)) ks s:=λF H L ha=>
 ow1 ((h F H L ha).imp λF' H' L' ⟨_,_,s',h1,h2⟩=>h2 F' H' L' h1)
theorem ve2s{xs:List Nat}{fuel:Nat}{listed:Array Bool}{o:Oper}{js:List Nat}{s:St}(i:Nat)(hi:nth all i=some o)(h:E2 P n N H0 all o js s (λs'=>Hv P n N H0 Q (some xs) all fuel (listed.setIfInBounds i true) ks s'))(hr:Region.ready .any all.toArray listed=[i]:=by exact qE)(hj:js.all (memB xs)=true:=by exact Z):Hv P n N H0 Q (some xs) all (fuel+1) listed ks s:=by
 intro F H L Lk ha hL;rw[Gu_] at hi;have hle:∀ L':Ls,(∀ q,memB js q=false->L' q=L q)->LkR (some xs) Lk L':=λL' hL' q=>by
   rw[hL q]
   cases e:memB xs q with
   |true=>rfl
   |false=>
     refine (hL' q ?_).symm
     cases e2:memB js q with
     |false=>rfl
     |true=>have :=List.all_eq_true.1 hj q (M3_ e2);rw[e] at this;cases this
 refine vw_e i hi hr ((h F H L ha).imp λF' H' L' ⟨h1,h2,s',h3,h4⟩=>⟨⟨h1,λq x hx=>?_⟩,h4 F' H' L' Lk h3 (hle L' h2)⟩);have :=hle L' h2 q;grind
end Go.SW
namespace Go.SW
def posL:List Nat->Nat->Option Nat
 |[],_=>none
 |j::r,q=>bif AW q j then some 0 else (posL r q).map (· + 1)
theorem Tv_:∀ {js:List Nat} {q a:Nat},posL js q=some a->js[a]? = some q
 |[],q,a,h=>by cases h
 |j::r,q,a,h=>by
   simp only[posL] at h
   cases e:AW q j with
   |true=>rw[e] at h;simp only[cond_true,Option.some.injEq] at h;subst h;simp[AQ e]
   |false=>
     rw[e] at h;simp only[cond_false] at h
     cases e2:posL r q with
     |none=>rw[e2] at h;cases h
     |some b=>rw[e2] at h;simp only[BT,Option.some.injEq] at h;subst h;simpa using Tv_ e2
theorem Yf_:∀ {js:List Nat} {q:Nat},posL js q=none->q∉js
 |[],q,_=>by simp
 |j::r,q,h=>by
   simp only[posL] at h
   cases e:AW q j with
   |true=>rw[e] at h;cases h
   |false=>
     rw[e] at h;simp only[cond_false] at h
     have h2:posL r q=none:=by
       simp_all
     have :=Yf_ h2
     intro hm
     simp_all
theorem Uy_:∀ {js:List Nat} (hn:js.Nodup) {a q:Nat} (h:js[a]? = some q),posL js q=some a
 |[],_,_,_,h=>by simp at h
 |j::r,hn,0,q,h=>by simp at h;subst h;simp[posL]
 |j::r,hn,a+1,q,h=>by
   have h':r[a]? = some q:=by simpa using h
   have hne:q≠j:=λe=>(List.nodup_cons.1 hn).1 nL
   have e:AW q j=false:=Z0_ hne
   simp only[posL,e,cond_false,Uy_ (List.nodup_cons.1 hn).2 h',BT]
theorem Tp_:∀ {js:List Nat} {q:Nat},memB js q=false->posL js q=none
 |[],_,_=>rfl
 |j::r,q,h=>by
   simp only[memB] at h
   cases e:AW q j with
   |true=>rw[e] at h;cases h
   |false=>rw[e] at h;simp only[posL,e,cond_false,Tp_ (js:=r) h];rfl
def selL(L:Ls)(js:List Nat)(M:Ls):Ls:=λq=>match posL js q with
 |some a=>M a
 |none=>L q
def offL(L:Ls)(js:List Nat):Ls:=λq=>match posL js q with
 |some _=>none
 |none=>L q
def Mn_(L:Ls)(js:List Nat):Ls:=λa=>match js[a]? with
 |some i=>L i
 |none=>none
theorem Ky_{L:Ls}{js:List Nat}{q:Nat}{x:Nat×Obj}(h:offL L js q=some x):posL js q=none/\L q=some x:=by
 unfold offL at h;grind
theorem Li_{L:Ls}{js:List Nat}{a:Nat}{x:Nat×Obj}(h:Mn_ L js a=some x):∃ i,js[a]? = some i/\L i=some x:=by
 unfold Mn_ at h;grind
theorem mem_pick{N:Rest}{H:Hp}{L:Ls}{w:World}{js:List Nat}(h:Mem N H L w)(hn:js.Nodup):Mem (N.plus (offL L js)) H (Mn_ L js) w:=by
 refine h.frame _ _ (λa x hx=>?_) (λq x hx=>⟨q,(Ky_ hx).2⟩) (λa b x y hx hy e=>?_) (λp q x y hx hy e=>h.inj p q x y (Ky_ hx).2 (Ky_ hy).2 e) (λa q x y hx hy e=>?_);have⟨i,_,h2⟩:=Li_ hx;exact⟨i,h2⟩;have⟨i,h1,h2⟩:=Li_ hx;have⟨j,h3,h4⟩:=Li_ hy;have :i=j:=h.inj i j x y h2 h4 e;subst this;have :=(Uy_ hn h1).symm.trans (Uy_ hn h3);grind
 . have⟨i,h1,h2⟩:=Li_ hx
   have⟨h3,h4⟩:=Ky_ hy
   have :i=q:=h.inj i q x y h2 h4 e
   subst this
   rw[Uy_ hn h1] at h3;cases h3
theorem mem_sel{N:Rest}{H H':Hp}{L M:Ls}{w w':World}{js:List Nat}(h:Mem N H L w)(hn:js.Nodup)(k:Mem (N.plus (offL L js)) H' M w'):Mem N H' (selL L js M) w':=by
 have hinj:∀ (p q:Nat) (x y:Nat×Obj),offL L js p=some x->offL L js q=some y->x.1=y.1->p=q:=λp q x y hp hq e=>h.inj p q x y (Ky_ hp).2 (Ky_ hq).2 e;have hnb:∀ b o,N.heap b=some o->∀ (q:Nat) (x:Nat×Obj),offL L js q=some x->x.1≠b:=λb o hb q x hq=>h.nBoth b o hb q x (Ky_ hq).2;have hsub:Mem N H (offL L js) w:=h.sub (λq x hq=>⟨q,(Ky_ hq).2⟩) hinj;have hdis:∀ {a:Nat} {x:Nat×Obj} {q:Nat} {y:Nat×Obj},M a=some x->offL L js q=some y->x.1≠y.1:=λ{a x q y} ha hq e=>by
   have⟨xb,xo⟩:=x
   have⟨yb,yo⟩:=y
   have e':xb=yb:=e
   have h1:=(k.nl a xb xo ha).1
   have :(N.plus (offL L js)).heap yb=some yo:=Rest.plus_of hsub (i:=q) hq
   grind
 have hoff:∀ {q:Nat},posL js q=none->offL L js q=L q:=λ{q} e=>by unfold offL;rw[e]
 refine h.unframe (Lr:=offL L js) (λq x hq=>⟨q,(Ky_ hq).2⟩) hinj k (λq x hq=>?_) (λp q x y hp hq e=>?_) hnb;unfold selL at hq;grind
 . unfold selL at hp hq
   cases e1:posL js p with
   |some a=>
     rw[e1] at hp
     cases e2:posL js q with
     |some b=>
       rw[e2] at hq
       have :a=b:=k.inj a b x y hp hq e
       subst this
       have h1:=Tv_ e1
       have h2:=Tv_ e2
       grind
     |none=>rw[e2] at hq;exact (hdis hp ((hoff e2).trans hq) e).elim
   |none=>
     grind
def lofB(Bs:List Blk):Nat->Blk:=λq=>match nth Bs q with
 |some B=>B
 |none=> .no
def renP(js:List Nat):PV->PV
 | .osl l=>match nth js l with
   |some j=> .osl j
   |none=> .junk
 | .own l b o=>match nth js l with
   |some j=> .own j b o
   |none=> .junk
 |p=>p
def renB(js:List Nat):Blk->Blk
 | .box b T cs=> .box b T (cs.map (renP js))
 |B=>B
def renR(js:List Nat):PV->PV
 | .tup vs=> .tup (vs.map (renP js))
 |p=>renP js p
theorem ren_sim{js:List Nat}{H:Hp}{p:PV}{v:Value}(h:Sim H p v):Sim H (renP js p) v:=by
 cases p with
 |osl l=>simp only[renP];cases nth js l<;>first|exact .osl|exact .junk
 |own l b o=>
   have :=h.inv_own
   subst this
   simp only[renP];cases nth js l<;>first|exact .own|exact .junk
 |_=>exact h
theorem Tz_{js:List Nat}{H:Hp}{p:PV}{v:Value}(hl:∀ l b o,p = .own l b o->nth js l≠none)(h:Sim H (renP js p) v):Sim H p v:=by
 cases p with
 |osl l=>exact .osl
 |own l b o=>
   simp only[renP] at h
   cases e:nth js l with
   |none=>exact (hl l b o Z e).elim
   |some j=>
     rw[e] at h
     have :=h.inv_own
     subst this
     exact .own
 |_=>exact h
theorem renR_sim{js:List Nat}{H:Hp}{p:PV}{v:Value}(h:Sim H p v):Sim H (renR js p) v:=by
 cases p with
 |tup vs=>
   cases h with
   |tup hl hh=>
     refine .tup qW λi q u hq hu=>?_
     rw[B8] at hq
     cases e:vs[i]? with
     |none=>rw[e] at hq;cases hq
     |some z=>rw[e] at hq;cases hq;exact ren_sim (hh i z u e hu)
 |_=>exact ren_sim (js:=js) h
theorem ren_simT{js:List Nat}{Bs:List Blk}{L:Nat->Blk}{H:Hp}(hL:∀ l j,nth js l=some j->L j=renB js (lofB Bs l)){p:PV}{v:Value}(h:SimT (lofB Bs) H p v):SimT L H (renP js p) v:=by
 cases p with
 |osl l=>
   simp only[renP]
   cases e:nth js l with
   |none=>exact Sim.junk
   |some j=>
     simp only[SimT,hL l j e] at h ⊢
     generalize lofB Bs l=B at *
     cases B<;>exact h
 |own l b o=>
   have :=Sim.inv_own (show Sim H (.own l b o) v from h)
   subst this
   simp only[renP];cases nth js l<;>first|exact Sim.own|exact Sim.junk
 |_=>exact h
theorem ren_simT_back{js:List Nat}{Bs:List Blk}{L:Nat->Blk}{H:Hp}(hL:∀ l j,nth js l=some j->lofB Bs l = .no\/L j=renB js (lofB Bs l)){p:PV}{v:Value}(hl:∀ l,(∃ b o,p = .own l b o)\/p = .osl l->nth js l≠none)(h:SimT L H (renP js p) v):SimT (lofB Bs) H p v:=by
 cases p with
 |osl l=>
   simp only[renP] at h
   cases e:nth js l with
   |none=>exact (hl l (.inr Z) e).elim
   |some j=>
     rw[e] at h
     rcases hL l j e with h1|h1
     . simp only[SimT,h1]
     . simp only[SimT,h1] at h ⊢
       generalize lofB Bs l=B at *
       cases B<;>exact h
 |own l b o=>
   simp only[renP] at h
   cases e:nth js l with
   |none=>exact (hl l (.inl ⟨b,o,rfl⟩) e).elim
   |some j=>
     rw[e] at h
     have :=Sim.inv_own (show Sim H (.own j b o) v from h)
     subst this
     exact Sim.own
 |_=>exact h
theorem renB_simB{js:List Nat}{Bs:List Blk}{L:Nat->Blk}{H:Hp}(hL:∀ l j,nth js l=some j->L j=renB js (lofB Bs l)){B:Blk}{x:Option (Nat×Obj)}(h:SimB (lofB Bs) H B x):SimB L H (renB js B) x:=by
 cases B with
 |box b T cs=>
   have⟨vs,h1,h2,h3⟩:=h
   refine⟨vs,h1,by simpa using h2,λi p v hp hv=>?_⟩
   rw[B8] at hp
   cases e:cs[i]? with
   |none=>rw[e] at hp;cases hp
   |some z=>rw[e] at hp;cases hp;exact ren_simT hL (h3 i z v e hv)
 |_=>exact h
def BLe:List Blk->List Blk->Prop
 |[],[]=>True
 |B::r,C::q=>(C = .no\/B=C)/\BLe r q
 |_,_=>False
theorem BLe.get:∀ {Bs Cs:List Blk} {a:Nat} {B C:Blk},BLe Bs Cs->Bs[a]? = some B->Cs[a]? = some C->C = .no\/B=C
 |[],_,_,_,_,_,hB,_=>by simp at hB
 |_::_,[],_,_,_,_,_,hC=>by simp at hC
 |B::r,C::q,a,D,E,h,hB,hC=>by
   cases a with
   |zero=>simp at hB hC;subst hB;subst hC;exact h.1
   |succ a=>exact BLe.get h.2 (by simpa using hB) (by simpa using hC)
theorem BLe.len:∀ {Bs Cs:List Blk},BLe Bs Cs->Bs.length=Cs.length
 |[],[],_=>rfl
 |_::_,[],h=>h.elim
 |[],_::_,h=>h.elim
 |_::r,_::q,h=>by simp only[A3];rw[BLe.len h.2]
theorem renB_no{js:List Nat}{B:Blk}(h:renB js B = .no):B = .no:=by cases B<;>first|rfl|(simp[renB] at h)
theorem ble_at{js:List Nat}{L:Nat->Blk}{Bs:List Blk}(h:BLe (js.map L) (Bs.map (renB js))):∀ l j,nth js l=some j->lofB Bs l = .no\/L j=renB js (lofB Bs l):=λl j hlj=>by
 rw[Gu_] at hlj
 have e1:(js.map L)[l]? = some (L j):=by rw[B8,hlj];rfl
 unfold lofB
 rw[Gu_]
 cases e:Bs[l]? with
 |none=>exact .inl Z
 |some B=>
   have e2:(Bs.map (renB js))[l]? = some (renB js B):=by rw[B8,e];rfl
   rcases h.get e1 e2 with q|q
   . exact .inl (renB_no q)
   . exact .inr q
def inP(m:Nat):PV->Bool
 | .osl l=>F3 l m
 | .own l _ _=>F3 l m
 |_=>true
def inPs(m:Nat):List PV->Bool
 |[]=>true
 |p::r=>bif inP m p then inPs m r else false
def inB(m:Nat):Blk->Bool
 | .box _ _ cs=>inPs m cs
 |_=>true
def inBs(m:Nat):List Blk->Bool
 |[]=>true
 |B::r=>bif inB m B then inBs m r else false
theorem Qu_{m:Nat}:∀ {ps:List PV} {i:Nat} {p:PV},inPs m ps=true->ps[i]? = some p->inP m p=true
 |[],_,_,_,h=>by simp at h
 |q::r,i,p,h,hp=>by
   simp only[inPs] at h
   cases e:inP m q with
   |false=>rw[e] at h;cases h
   |true=>
     rw[e] at h
     cases i with
     |zero=>simp at hp;subst hp;exact e
     |succ i=>exact Qu_ h (by simpa using hp)
theorem S7_{m:Nat}:∀ {Bs:List Blk} {i:Nat} {B:Blk},inBs m Bs=true->Bs[i]? = some B->inB m B=true
 |[],_,_,_,h=>by simp at h
 |q::r,i,p,h,hp=>by
   simp only[inBs] at h
   cases e:inB m q with
   |false=>rw[e] at h;cases h
   |true=>
     rw[e] at h
     cases i with
     |zero=>simp at hp;subst hp;exact e
     |succ i=>exact S7_ h (by simpa using hp)
theorem Um_{js:List Nat}{p:PV}(h:inP js.length p=true):∀ l,(∃ b o,p = .own l b o)\/p = .osl l->nth js l≠none:=by
 intro l hl e;rw[Gu_,List.getElem?_eq_none_iff] at e;have :l<js.length:=by
   rcases hl with ⟨b,o,rfl⟩|rfl
   . simpa [inP] using h
   . simpa [inP] using h
 omega
theorem Ty_{js:List Nat}{Bs:List Blk}{L:Nat->Blk}{H:Hp}(hL:∀ l j,nth js l=some j->lofB Bs l = .no\/L j=renB js (lofB Bs l)){B:Blk}(hb:inB js.length B=true){x:Option (Nat×Obj)}(h:SimB L H (renB js B) x):SimB (lofB Bs) H B x:=by
 cases B with
 |box b T cs=>
   have⟨vs,h1,h2,h3⟩:=h
   refine⟨vs,h1,by simpa using h2,λi p v hp hv=>?_⟩
   exact ren_simT_back hL (Um_ (Qu_ hb hp)) (h3 i (renP js p) v pV hv)
 |_=>exact h
def purgeJ(js:List Nat):PV->PV
 | .osl i=>bif memB js i then .junk else .osl i
 |p=>p
def purgeJB(js:List Nat):Blk->Blk
 | .box b T cs=> .box b T (cs.map (purgeJ js))
 |B=>B
def Ry_(js:List Nat)(F:Nat->PV):Nat->PV:=λt=>purgeJ js (F t)
def putL:List Nat->List Blk->(Nat->Blk)->Nat->Blk
 |j::js,B::Bs,L=>lups (putL js Bs L) j B
 |_,_,L=>L
def newL(js:List Nat)(Bs:List Blk)(L:Nat->Blk):Nat->Blk:=putL js (Bs.map (renB js)) (λt=>purgeJB js (L t))
theorem putL_at:∀ {js:List Nat} {Bs:List Blk} {L:Nat->Blk} {a j:Nat},js.Nodup->js.length=Bs.length->js[a]? = some j->∃ B,Bs[a]? = some B/\putL js Bs L j=B
 |[],_,_,_,_,_,_,h=>by simp at h
 |_::_,[],_,_,_,_,h,_=>by simp at h
 |i::js,B::Bs,L,a,j,hn,hl,h=>by
   cases a with
   |zero=>simp at h;subst h;exact⟨B,rfl,by simp only[putL,Dd_]⟩
   |succ a=>
     have h':js[a]? = some j:=by simpa using h
     obtain⟨C,h1,h2⟩:=putL_at (L:=L) (List.nodup_cons.1 hn).2 qW h'
     have :j≠i:=λe=>(List.nodup_cons.1 hn).1 nL
     exact⟨C,by simpa using h1,by simp only[putL,Gg_ this];exact h2⟩
theorem putL_off:∀ {js:List Nat} {Bs:List Blk} {L:Nat->Blk} {q:Nat},q∉js->putL js Bs L q=L q
 |[],_,_,_,_=>by simp only[putL]
 |_::_,[],_,_,_=>by simp only[putL]
 |i::js,B::Bs,L,q,h=>by
   have h1:q≠i:=λe=>h (by rw[e];exact AG)
   simp only[putL,Gg_ h1]
   exact putL_off λe=>h (AB _ e)
variable{P:Program}{n:Nat}{N:Rest}{H0:Env}{all rest:List Oper}{Q:Qs}{ks:List Kt}{T ty d:Nat}{pos:String}{af:Array Edge}{x:Operand}{K:St->Prop}
theorem newL_at{js:List Nat}{Bs:List Blk}{L:Nat->Blk}(hn:js.Nodup)(hl:js.length=Bs.length){l j:Nat}(h:nth js l=some j):newL js Bs L j=renB js (lofB Bs l):=by
 rw[Gu_] at h;have⟨B,h1,h2⟩:=putL_at (L:=λt=>purgeJB js (L t)) hn (show js.length=(Bs.map (renB js)).length by simpa using hl) h;rw[B8] at h1
 cases e:Bs[l]? with
 |none=>rw[e] at h1;cases h1
 |some C=>
   rw[e] at h1;cases h1
   unfold newL lofB
   rw[h2,Gu_,e]
theorem purgeJ_ok{js:List Nat}{Bs:List Blk}{L:Nat->Blk}{H:Hp}{p:PV}{v:Value}(h:SimT L H p v):SimT (newL js Bs L) H (purgeJ js p) v:=by
 cases p with
 |osl i=>
   simp only[purgeJ]
   cases e:memB js i with
   |true=>exact Sim.junk
   |false=>
     have :i∉js:=Yf_ (Tp_ e)
     simp only[SimT,cond_false,newL,putL_off this] at h ⊢
     generalize L i=C at *
     cases C<;>exact h
 |_=>exact h
theorem Abs.turnJ{s:St}{F:Fr}{H:Hp}{L M:Ls}{js:List Nat}{Bs:List Blk}(ha:Abs H0 s F H L)(hn:js.Nodup)(hl:js.length=Bs.length)(hM:∀ (a:Nat) B,Bs[a]? = some B->SimB (lofB Bs) H B (M a)):Abs H0 ⟨Ry_ js s.F,newL js Bs s.L⟩ F H (selL L js M):=by
 refine⟨ha.le,ha.g,λt=>purgeJ_ok (ha.f t),λq=>?_⟩;show SimB (newL js Bs s.L) H (newL js Bs s.L q) (selL L js M q);unfold selL
 cases e:posL js q with
 |some a=>
   have h1:=Tv_ e
   have h2:nth js a=some q:=by rw[Gu_];exact h1
   rw[newL_at hn hl h2]
   have h3:a<Bs.length:=by rw[<- hl];exact (List.getElem?_eq_some_iff.1 h1).1
   have h4:lofB Bs a=Bs[a]:=by unfold lofB;rw[Gu_,AA h3]
   rw[h4]
   exact renB_simB (λl j h=>newL_at hn hl h) (hM a _ (AA h3))
 |none=>
   have h1:=Yf_ e
   have h2:=ha.l q
   simp only[]
   rw[show newL js Bs s.L q=purgeJB js (s.L q) from putL_off h1]
   generalize s.L q=C at *
   cases C with
   |box b T cs=>
     have⟨vs,g1,g2,g3⟩:=h2
     refine⟨vs,g1,by simpa using g2,λi p v hp hv=>?_⟩
     rw[B8] at hp
     cases e3:cs[i]? with
     |none=>rw[e3] at hp;cases hp
     |some z=>rw[e3] at hp;cases hp;exact purgeJ_ok (g3 i z v e3 hv)
   |no=>trivial
   |arr u k e enc xs=>exact h2
   |itr b s p=>exact h2
   |ob b o=>exact h2
def M6_:List Nat->Bool
 |[]=>true
 |j::r=>bif memB r j then false else M6_ r
theorem memB_of{t:Nat}:∀ {ts:List Nat},t∈ts->memB ts t=true
 |s::r,h=>by
   simp only[memB]
   cases e:AW t s with
   |true=>rfl
   |false=>
     rcases List.mem_cons.1 h with q|q
     . subst q;simp at e
     . exact memB_of q
theorem P9_:∀ {js:List Nat},M6_ js=true->js.Nodup
 |[],_=>List.nodup_nil
 |j::r,h=>by
   simp only[M6_] at h
   cases e:memB r j with
   |true=>rw[e] at h;cases h
   |false=>rw[e] at h;exact List.nodup_cons.2 ⟨λq=>(by rw[memB_of q] at e;cases e),P9_ h⟩
structure Fg{ι:Type}(P:Program)(G:Gb)(f:FuncId)(args:List PV)(pre:List Blk)(Φ:ι->Prop)(res:ι->PV)(post:ι->List Blk):Prop where
 cb:Aa_ P f
 run:∀ (N:Rest) (H:Hp) (L:Ls) (w:World) (js:List Nat) (vs:List Value),G.p H->Sims H args vs->js.Nodup->js.length=pre.length->(∀ (a:Nat) B,pre[a]? = some B->SimB (lofB pre) H B (Mn_ L js a))->Mem N H L w ->
   Calls P f vs.toArray w λen w'=>∃ g H' M v,en = .returned v/\Φ g/\Sim H' (res g) v/\(∀ (a:Nat) B,(post g)[a]? = some B->SimB (lofB (post g)) H' B (M a))/\HLe H H'/\Mem N H' (selL L js M) w'
theorem PV.wf_rows{α:Type}{enc:α->List PV}{k:Nat}{H:Hp}:∀ {xs:List α} {cs:List Value},Rl (RowE enc k) H xs cs->∀ x∈xs,PV.wfs (enc x)
 |[],_,_,x,hx=>by cases hx
 |y::xs,cs,h,x,hx=>by
   have⟨c1,c2,_,h1,h2⟩:=h
   rcases List.mem_cons.1 hx with e|e
   . subst e;exact h1.2.1.wf
   . exact PV.wf_rows h2 x e
theorem PV.wf_row{α:Type}{enc:α->List PV}{k:Nat}{H:Hp}{xs:List α}{cs:List Value}(h:Rl (RowE enc k) H xs cs)(hl:xs.length<=140737488355328):PV.wf (.sl enc xs):=by
 simp only[PV.wf];exact⟨hl,PV.wf_rows h⟩
def Blk.wf:Blk->Prop
 | .box _ _ cs=>PV.wfs cs
 | .arr _ _ _ enc xs=>PV.wf (.sl enc xs)
 |_=>True
def Blk.wfs:List Blk->Prop
 |[]=>True
 |B::r=>B.wf/\Blk.wfs r
theorem Blk.wf_of{L:Nat->Blk}{H:Hp}{B:Blk}{x:Option (Nat×Obj)}(h:SimB L H B x):B.wf:=by
 cases B with
 |box b T cs=>have⟨vs,_,h2⟩:=h;exact h2.sims.wf
 |arr u k e enc xs=>have⟨cs,_,h2,h3⟩:=h;exact PV.wf_row h2 h3
 |_=>trivial
theorem Blk.wfs_of:∀ {Bs:List Blk},(∀ (a:Nat) B,Bs[a]? = some B->B.wf)->Blk.wfs Bs
 |[],_=>trivial
 |B::r,h=>⟨h 0 B Z,Blk.wfs_of λa C hC=>h (a+1) C (by simpa using hC)⟩
def inR(m:Nat):PV->Bool
 | .tup vs=>inPs m vs
 |p=>inP m p
theorem renR_back{js:List Nat}{H:Hp}{p:PV}{v:Value}(hi:inR js.length p=true)(h:Sim H (renR js p) v):Sim H p v:=by
 cases p with
 |tup vs=>
   cases h with
   |tup hl hh=>
     refine .tup qW λi q u hq hu=>?_
     exact Tz_ (λl b o e=>Um_ (Qu_ hi hq) l (.inl ⟨b,o,e⟩)) (hh i (renP js q) u (by rw[B8,hq];rfl) hu)
 |own l b o=>exact Tz_ (js:=js) (λl' b' o' e=>Um_ (p:= .own l b o) hi l' (.inl ⟨b',o',e⟩)) h
 |osl l=>exact .osl
 |_=>exact h
def fgK{ι:Type}(tb:Tb)(rs:List ResultVar)(m:Nat)(Φ:ι->Prop)(res:ι->PV)(post:ι->List Blk):Qs:=λen s=>∃ g σ,Φ g/\M6_ σ=true/\σ.length=m/\rtK tb rs (renR σ (res g)) en s/\BLe (σ.map s.L) ((post g).map (renB σ))/\inBs m (post g)=true/\inR m (res g)=true
theorem Kn_{ι:Type}{tb:Tb}{G:Gb}{m:Nat}{f:FuncId}{fn:Func}{c:Code}{args:List PV}{pre:List Blk}{Φ:ι->Prop}{res:ι->PV}{post:ι->List Blk}(ht:tbB P tb=true)(hf:P.funcs[f]? = some fn)(hb:fn.body=some c)(hn:fn.ntmps=m)(hs:Nat.ble args.length m=true)(hcb:Aa_ P f)(hna:Du_ args=true)
   (h:PV.wfs args->Blk.wfs pre->∀ N H,G.p H->Hd P m N ⟨H,G⟩ (fgK tb fn.results.toList pre.length Φ res post) (.code c) [] ⟨O4_ args,lofB pre⟩):Fg P G f args pre Φ res post:=by
 refine⟨hcb,λN H L w js vs hg hsim hnd hlen hpre hm=>?_⟩;subst hn
 have h1:=h hsim.wf (Blk.wfs_of λa B hB=>Blk.wf_of (hpre a B hB)) (N.plus (offL L js)) H hg (Lc_ vs.toArray) H (Mn_ L js) ⟨.refl H,hg,λt=>Ml_ hsim hna t,λq=>by
   show SimB (lofB pre) H (lofB pre q) _
   cases e:pre[q]? with
   |none=>unfold lofB;rw[Gu_,e];trivial
   |some B=>
     have h2:=hpre q B e
     have h3:lofB pre q=B:=by unfold lofB;rw[Gu_,e]
     rw[h3];exact h2⟩
 refine Ih_ (R:=λv H' L'=>∃ g σ,List.Nodup σ/\Φ g/\Sim H' (res g) v/\∀ (a:Nat) B,(post g)[a]? = some B->SimB (lofB (post g)) H' B (Mn_ L' σ a)) (H0:=H) hf hb pQ (Kq_ (λen F' H' L' hq=>?_) h1) (mem_pick hm hnd) ?_
 . have⟨s',ha',g,σ,hg1,hnd',hlen',hq',hp,hin,hir⟩:=hq
   have⟨he,v,hr,hv⟩:=Pb_ (N:=N.plus (offL L js)) ht ha' hq'
   have hnn:=P9_ hnd'
   have hpl:(post g).length=pre.length:=by have :=hp.len;simpa [hlen'] using this.symm
   have hR:∀ (a:Nat) B,(post g)[a]? = some B->SimB (lofB (post g)) H' B (Mn_ L' σ a):=λa B hB=>by
     have ha:a<σ.length:=by rw[hlen',<- hpl];exact (List.getElem?_eq_some_iff.1 hB).1
     have e1:σ[a]? = some σ[a]:=AA ha
     have e2:lofB (post g) a=B:=by unfold lofB;rw[Gu_,hB]
     have e3:Mn_ L' σ a=L' σ[a]:=by unfold Mn_;rw[e1]
     rcases ble_at hp a σ[a] pW with q|q
     . rw[e2] at q;subst q;trivial
     . rw[e2] at q
       have h4:=ha'.l σ[a]
       rw[q] at h4
       rw[e3]
       exact Ty_ (ble_at hp) (S7_ (by rw[hlen'];exact hin) hB) h4
   have hvv:Sim H' (res g) v:=renR_back (by rw[hlen'];exact hir) hv
   rcases he with rfl|rfl
   exact⟨v,hr,ha'.le,g,σ,hnn,hg1,hvv,hR⟩
   exact⟨v,hr,ha'.le,g,σ,hnn,hg1,hvv,hR⟩
 intro v H' L' w' ⟨g,σ,hnn,h2,h3,h4⟩ hl hm';refine⟨g,H',Mn_ L' σ,v,rfl,h2,h3,h4,hl,mem_sel hm hnd (hm'.sub (λa x hx=>?_) (λa b x y hx hy e=>?_))⟩;have⟨i,_,h5⟩:=Li_ hx;exact⟨i,h5⟩;have⟨i,g1,g2⟩:=Li_ hx;have⟨k,g3,g4⟩:=Li_ hy;have :i=k:=hm'.inj i k x y g2 g4 e;subst this;exact Option.some.inj ((Uy_ hnn g1).symm.trans (Uy_ hnn g3))
end Go.SW
namespace Go.SW.V
open Go.SW
variable{P:Program}{n:Nat}{N:Rest}{H0:Env}{all rest:List Oper}{Q:Qs}{ks:List Kt}{fF:Nat->PV}{fL:Nat->Blk}{T ty d:Nat}{pos:String}{af:Array Edge}{x:Operand}{K:St->Prop}
theorem Ji_{ι:Type}{f:FuncId}{args args':List PV}{as0:Array Operand}{ats:Array TypeId}{pre:List Blk}{Φ:ι->Prop}{res:ι->PV}{post:ι->List Blk}(js:List Nat)(h:Fg P H0.g f args pre Φ res post)(ha:argsP fF x as0.toList=some (f,args'))(he:args'=args.map (renP js))(hj:M6_ js=true)(hl:js.length=pre.length)(hL:BLe (js.map fL) (pre.map (renB js)))(hi:inBs js.length pre=true)(hia:inPs js.length args=true)(hd:Nat.blt d n=true)
   (hpl:∀ g,(post g).length=js.length) (hno:∀ g,(renR js (res g)).noOsl=true) (kk:∀ g,Φ g->K ⟨updp (Ry_ js fF) d (renR js (res g)),newL js (post g) fL⟩):E2 P n N H0 all ⟨some d, .call ⟨.value x,as0,ats⟩,ty,pos,af,none⟩ js ⟨fF,fL⟩ K:=by
 intro F H L hab;have hn:=P9_ hj;have⟨us,h1,h2⟩:=If_ (ats:=ats) hab.f ha h.cb;subst he;have h3:Sims H args us:=⟨by simpa using h1.1,λi p v hp hv=>Tz_ (λl b o q=>Um_ (Qu_ hia hp) l (.inl ⟨b,o,q⟩)) (h1.2 i (renP js p) v pV hv)⟩;have hs:=ble_at hL;have hpre:∀ (a:Nat) B,pre[a]? = some B->SimB (lofB pre) H B (Mn_ L js a):=λa B hB=>by
   have ha':a<js.length:=by rw[hl];exact (List.getElem?_eq_some_iff.1 hB).1
   have e1:js[a]? = some js[a]:=AA ha'
   have e2:lofB pre a=B:=by unfold lofB;rw[Gu_,hB]
   have h5:=hab.l js[a]
   have h6:=hs a js[a] pW
   rw[e2] at h6
   have h7:Mn_ L js a=L js[a]:=by unfold Mn_;rw[e1]
   rw[h7]
   rcases h6 with h6|h6
   . subst h6;trivial
   . exact xK
 intro a w hA hm;rw[if_pos qM];unfold BJ;rw[hA.eval,h2];refine (h.run N H L w js us hab.g h3 hn hl hpre hm).mono λe' w' ⟨g,H',M,v,he',hg,hv,hM,hl',hm'⟩=>?_;subst he';have g1:=(hab.mono hl').turnJ (M:=M) hn (hpl g).symm hM;refine⟨_,H',_,hA.put qO v,hm',hl',λq hq=>?_,_,Abs.put (p:=renR js (res g)) g1 d ((renR_sim hv).simT (hno g)),kk g hg⟩;exact tR
theorem rgr{ι:Type}{tb:Tb}{rs:List ResultVar}{m:Nat}{Φ:ι->Prop}{res:ι->PV}{post:ι->List Blk}{ps:List PV}{as0 bs:List Nat}(g:ι)(σ:List Nat)(hg:Φ g)(hn:M6_ σ=true)(hl:σ.length=m)(h:Jv_ tb ⟨fF,fL⟩ rs=some (ps,as0,bs))(he:as0=bs)(hp:PLe (tupP ps) (renR σ (res g)))(hL:BLe (σ.map fL) ((post g).map (renB σ)))(hi:inBs m (post g)=true)(hir:inR m (res g)=true):Hd P n N H0 (fgK tb rs m Φ res post) (.ex .ret) [] ⟨fF,fL⟩:=⟨g,σ,hg,hn,hl,⟨.inr Z,ps,as0,bs,h,he,hp⟩,hL,hi,hir⟩
theorem rgn{ι:Type}{tb:Tb}{rs:List ResultVar}{m:Nat}{Φ:ι->Prop}{res:ι->PV}{post:ι->List Blk}{ps:List PV}{as0 bs:List Nat}(g:ι)(σ:List Nat)(hg:Φ g)(hn:M6_ σ=true)(hl:σ.length=m)(h:Jv_ tb ⟨fF,fL⟩ rs=some (ps,as0,bs))(he:as0=bs)(hp:PLe (tupP ps) (renR σ (res g)))(hL:BLe (σ.map fL) ((post g).map (renB σ)))(hi:inBs m (post g)=true)(hir:inR m (res g)=true):Hd P n N H0 (fgK tb rs m Φ res post) (.ex .normal) [] ⟨fF,fL⟩:=⟨g,σ,hg,hn,hl,⟨.inl Z,ps,as0,bs,h,he,hp⟩,hL,hi,hir⟩
end Go.SW.V
namespace Go.SW
variable{P:Program}{n:Nat}{N:Rest}{H0:Env}{all rest:List Oper}{Q:Qs}{ks:List Kt}{s:St}{T T2 ty d:Nat}{pos:String}{af:Array Edge}{x y z:Operand}{K:St->Prop}{F:Fr}{H:Hp}{L:Ls}
def cutS:Value->Nat->Value
 | .slice a l c,lo=> .slice (slA a c lo 1) (l-lo) (c-lo)
 |v,_=>v
def aSl(b m:Nat):Value:= .slice (some ⟨b,0,none⟩) m m
def cpB(xs:Bs)(lo:Nat)(ys:Bs):Bs:=xs.take lo++(ys.take (xs.length-lo)++xs.drop (lo+ys.length))
theorem Mv_{xs:Bs}{lo:Nat}{ys:Bs}(h:lo<=xs.length):(cpB xs lo ys).length=xs.length:=by
 simp only[cpB,A1,B5,AM];omega
def Sr8(P:Program)(N:Rest)(H:Hp)(L:Ls)(sv:Value)(ys:Bs):Prop:=∀ w,Mem N H L w->(BS sv).run P w = .ok ys.length w/\∀ l,l<=ys.length->(AK 1 l sv).run P w = .ok ((ys.take l).map u8v).toArray w
theorem sr8_str{ys:Bs}:Sr8 P N H L (str ys) ys:=λw _=>⟨by simp [BS,str,Ko_],λl hl=>by
 simp only[AK,str]
 rw[N6_];simp;rfl⟩
theorem cut_form{e lo len:Nat}{u:Value}{en:Option (Nat×Obj)}{cs:List Value}(h:OwnV 1 e u en len cs)(hlo:lo<=len):(∃ a c,cutS u lo = .slice a (len-lo) c)/\(lo<len->∃ b cap c,u = .slice (some ⟨b,0,none⟩) len cap/\cutS u lo = .slice (some ⟨b,lo,none⟩) (len-lo) (cap-lo)/\en=some (b,bx e c)/\cap<=c.length/\len<=cap/\c.take len=cs):=by
 have⟨hl,h⟩:=h
 rcases h with ⟨rfl,h0,_⟩|⟨b,cap,c,f,rfl,hL,hc,hle,ht,hf⟩
 subst h0;exact⟨⟨_,_,rfl⟩,λq=>by omega⟩;have :=hf Z;subst this;refine⟨⟨_,_,rfl⟩,λq=>⟨b,cap,c,rfl,?_,by simpa using hL,by simpa using hc,hle,by simpa using ht⟩⟩;simp only[cutS,slA,A6];rw[if_neg qD];simp[Gv_]
theorem sr8_cut{e lo i:Nat}{u:Value}{xs:Bs}(h:OwnV 1 e u (L i) xs.length (xs.map u8v))(hlo:lo<=xs.length):Sr8 P N H L (cutS u lo) (xs.drop lo):=λw hm=>by
 have⟨⟨a,c,h1⟩,h2⟩:=cut_form h hlo
 refine⟨by rw[h1];simp[BS],λl hl=>?_⟩
 by_cases q:lo<xs.length
 . have⟨b,cap,c,hu,hcu,hL,hc,hle,ht⟩:=h2 q
   rw[hcu]
   simp only[AM] at hl
   have :=run_loadCells_list (P:=P) w ⟨b,lo,none⟩ (((xs.drop lo).take l).map u8v) (λj v hj=>by
     rw[Gv_]
     refine hm.cellL hL ?_
     have hj':j<l:=by
       grind
     rw[B8,BA,if_pos hj',CO] at hj
     have e1:(c.take xs.length)[lo+j]? = c[lo+j]? :=by rw[BA,if_pos qD]
     rw[<- e1,ht,B8];exact hj)
   have hlen:(((xs.drop lo).take l).map u8v).length=l:=by simp;omega
   rw[hlen] at this
   exact sT
 . have hl0:l=0:=by simp only[AM] at hl;omega
   subst hl0
   rw[h1]
   cases a with
   |none=>simp[AK]
   |some a=>
     have :=run_loadCells_list (P:=P) w a [] (λj v hj=>by simp at hj)
     simpa [AK] using this
theorem run_cp{base:Option Addr}{len cap m lb l:Nat}{e:TypeId}{ats:TypeId}{sv:Value}{us:List Value}{w w':World}(hT:P.underlying T=some (.slice e))(hk:Sz P e m)(hlb:(Builtin.lenOf sv).run P w = .ok lb w)(hl:Nat.min lb len=l)(hf:(Builtin.firstCells m l sv).run P w = .ok us.toArray w)(hs:(match base with|some a=>storeCells a us|none=>pure ():Sem Unit).run P w = .ok () w'):(Builtin.copy_ #[T,T2] ats #[.slice base len cap,sv]).run P w = .ok (goInt l) w':=by
 cases base with
 |none=>simp at hs;subst hs;simp[DB,run_underlying hT,hlb,hk w,hl,hf]
 |some a=>simp only at hs;simp[DB,run_underlying hT,hlb,hk w,hl,hf,hs]
theorem exec_cp{v sv r:Value}{w w':World}{d:Option Tmp}{g:Option (Nat×Bool)}(hx:ev F x=v)(hy:ev F y=sv)(h:∀ ats,(Builtin.copy_ #[T,T2] ats #[v,sv]).run P w = .ok r w'):(execOp (ev F) ⟨d, .call ⟨.builtin .copy,#[x,y],#[T,T2]⟩,ty,pos,af,g⟩).run P w = .ok (.value r) w':=
 Gd_ (args:=#[v,sv]) pM λcs=>by simp[builtin,h]
theorem op1_cp{ops:List Oper}{i lo e e':Nat}{u:Value}{xs ys:Bs}{K:Fr->Hp->Ls->Prop}(hx:ev F x=cutS u lo)(ho:OwnV 1 e u (L i) xs.length (xs.map u8v))(hlo:lo<=xs.length)(hs:Sr8 P N H L (ev F y) ys)(hT:P.underlying T=some (.slice e'))(hk:Sz P e' 1)(hd:Nat.blt d n=true)
   (kk:∀ en',OwnV 1 e u en' xs.length ((cpB xs lo ys).map u8v)->K (upd F d (.int .i64 (min ys.length (xs.length-lo):Nat))) H (lupd L i en')):Op1 P n N ops ⟨some d, .call ⟨.builtin .copy,#[x,y],#[T,T2]⟩,ty,pos,af,none⟩ K F H L:=by
 intro ac w ha hm;rw[if_pos qM];unfold BJ;have⟨hl1,hf1⟩:=hs w hm;have⟨⟨a,c,h1⟩,h2⟩:=cut_form ho hlo;have hmin:Nat.min ys.length (xs.length-lo)=min ys.length (xs.length-lo):=rfl;by_cases q:lo<xs.length
 . have⟨b,cap,c,hu,hcu,hL,hc,hle,ht⟩:=h2 q
   have hlt:((ys.take (min ys.length (xs.length-lo))).map u8v).length=min ys.length (xs.length-lo):=by simp only[C8,B5];omega
   have⟨w',L',s1,s2,s3,s4⟩:=Mem.storeA (P:=P) b i lo ((ys.take (min ys.length (xs.length-lo))).map u8v) c 0 L w hm hL (by rw[hlt];omega) (λv hv=>by obtain⟨z,_,rfl⟩:=List.mem_map.1 hv;rfl)
   have hLL:L'=lupd L i (some (b,bx e (Oq_ c lo ((ys.take (min ys.length (xs.length-lo))).map u8v)))):=funext λj=>by
     by_cases e':j=i
     . subst e';rw[Co_,s4];rfl
     . rw[Ci_ e',s3 j e']
   subst hLL
   have r1:∀ ats,(DB #[T,T2] ats #[.slice (some ⟨b,lo,none⟩) (xs.length-lo) (cap-lo),ev F y]).run P w = .ok (goInt ((min ys.length (xs.length-lo):Nat):Int)) w':=λats=>
     run_cp (P:=P) (base:=some ⟨b,lo,none⟩) (ats:=ats) hT hk hl1 hmin (hf1 _ qD) s1
   rw[ha.eval,exec_cp (hx.trans hcu) rfl r1]
   refine⟨_,H,_,ha.put qO _,s2,kk _ ⟨by simp[Mv_ hlo], .inr ⟨b,cap,Oq_ c lo ((ys.take (min ys.length (xs.length-lo))).map u8v),[],hu,rfl,by simpa [Vg_] using hc,hle,?_,λ_=>rfl⟩⟩⟩
   rw[Nat.mul_one,setAt_eq _ _ _ (by rw[hlt];omega),hlt]
   have e1:c.take lo=(xs.take lo).map u8v:=by
     have :(c.take xs.length).take lo=c.take lo:=by rw[List.take_take];congr 1;omega
     rw[<- this,ht,List.map_take]
   have e2:(c.drop (lo+min ys.length (xs.length-lo))).take (xs.length-(lo+min ys.length (xs.length-lo)))=(xs.drop (lo+min ys.length (xs.length-lo))).map u8v:=by
     rw[<- DG,ht,List.map_drop]
   have e3:xs.drop (lo+ys.length)=xs.drop (lo+min ys.length (xs.length-lo)):=by
     by_cases g:ys.length<=xs.length-lo
     . rw[EJ g]
     . rw[D4 qD,D4 qD]
   have e4:ys.take (xs.length-lo)=ys.take (min ys.length (xs.length-lo)):=by
     grind
   have hl0:(c.take lo).length=lo:=by rw[B5];omega
   rw[C4,C4,hl0,hlt]
   simp only[cpB,BK]
   rw[e3,e4,<- e1,<- e2]
   congr 1
   rw[AD (by rw[hl0];omega)]
   . congr 1
     rw[AD (by rw[hlt];omega)]
     exact zD
 have hz:xs.length-lo=0:=by omega
 have hm0:min ys.length (xs.length-lo)=0:=by omega
 rw[hz] at h1;have hcpB:cpB xs lo ys=xs:=by
   simp only[cpB,hz,List.take_zero,List.nil_append]
   rw[AD qD,D4 qD,AJ]
 have r1:∀ ats,(DB #[T,T2] ats #[.slice a 0 c,ev F y]).run P w = .ok (goInt 0) w:=λats=>
   run_cp (P:=P) (ats:=ats) (us:=[]) hT hk hl1 qI (by simpa using hf1 0 (AT _)) (by cases a<;>simp[storeCells])
 rw[ha.eval,exec_cp (hx.trans h1) rfl r1];have hself:lupd L i (L i)=L:=funext λj=>by
   by_cases e':j=i
   . subst e';rw[Co_]
   . rw[Ci_ e']
 have h3:=kk (L i) (by rw[hcpB];exact ho);rw[hself,hm0] at h3;exact⟨_,H,_,ha.put qO _,hm,h3⟩
def SrP(P:Program)(N:Rest)(H0:Env)(s:St)(y:Operand)(ys:Bs):Prop:=∀ F H L,Abs H0 s F H L->Sr8 P N H L (ev F y) ys
theorem sims_u8{H:Hp}:∀ {l:Bs} {vs:List Value},Sims H (l.flatMap u8c) vs->vs=l.map u8v
 |[],vs,h=>by simpa using h.inv_nil
 |c::l,vs,h=>by
   have h':Sims H (.int .u8 c.toNat::l.flatMap u8c) vs:=by simpa [u8c] using h
   obtain⟨v,vs',rfl,h1,h2⟩:=h'.inv_cons
   rw[sims_u8 h2,h1.inv_int.1];rfl
end Go.SW
namespace Go.SW.V
open Go.SW
variable{P:Program}{n:Nat}{N:Rest}{H0:Env}{all rest:List Oper}{Q:Qs}{ks:List Kt}{fF:Nat->PV}{fL:Nat->Blk}{T T2 ty d:Nat}{pos:String}{af:Array Edge}{x y:Operand}{K:St->Prop}
theorem srp_str{ys:Bs}(hy:evP fF y = .str ys):SrP P N H0 ⟨fF,fL⟩ y ys:=λF H L ha=>by
 have h1:=(Cm_ ha.f y).sim
 rw[hy] at h1
 rw[h1.inv_str.1];exact sr8_str
theorem srp_cut{ys xs:Bs}{lo i e:Nat}{u:Value}(hy:evP fF y = .val (cutS u lo))(hb:fL i = .arr u 1 e u8c xs)(hlo:lo<=xs.length)(he:ys=xs.drop lo):SrP P N H0 ⟨fF,fL⟩ y ys:=λF H L ha=>by
 have h1:=(Cm_ ha.f y).sim
 rw[hy] at h1
 have h2:=ha.l i
 dsimp only at h2
 rw[hb] at h2
 have⟨cs,ho,hr,hm⟩:=h2
 rw[Op_ hr] at ho
 rw[h1.inv_val,he];exact sr8_cut ho hlo
theorem ecopy{tb:Tb}{ti te:TI}{i lo e e':Nat}{u:Value}{xs ys:Bs}(ht:tbB P tb=true)(hx:evP fF x = .val (cutS u lo))(hb:fL i = .arr u 1 e u8c xs)(hlo:lo<=xs.length)(hs:SrP P N H0 ⟨fF,fL⟩ y ys)(hti:lkT tb T=some ti)(htk:ti.k = .slc e')(hte:lkT tb e'=some te)(hes:te.size=1)(hd:Nat.blt d n=true)
   (kk:K ⟨updp fF d (.int .i64 (min ys.length (xs.length-lo):Nat)),lups fL i (.arr u 1 e u8c (cpB xs lo ys))⟩):E1 P n N H0 all ⟨some d, .call ⟨.builtin .copy,#[x,y],#[T,T2]⟩,ty,pos,af,none⟩ (some i) ⟨fF,fL⟩ K:=by
 intro F H L ha;have h1:=(Cm_ ha.f x).sim;rw[hx] at h1;have h2:=ha.l i;dsimp only at h2;rw[hb] at h2;have⟨cs,ho,hr,hm⟩:=h2;rw[Op_ hr] at ho;have hk:=(Ef_ ht hte).sz;rw[hes] at hk;refine op1_cp (i:=i) h1.inv_val ho hlo (hs F H L ha) ((Ef_ ht hti).slc htk) hk hd λen' ho'=>⟨.refl H,only,_,(ha.turnU (n:=n) (N:=N) (P:=P) i hb ⟨(cpB xs lo ys).map u8v,by rw[Mv_ hlo];exact ho',rl_u8 _,by rw[Mv_ hlo];exact hm⟩).put (p:= .int .i64 (min ys.length (xs.length-lo):Nat)) d (Sim.int oX oW),kk⟩
theorem ecopy0{tb:Tb}{ti te:TI}{i e e':Nat}{u:Value}{xs ys:Bs}(ht:tbB P tb=true)(hx:evP fF x = .osl i)(hb:fL i = .arr u 1 e u8c xs)(hs:SrP P N H0 ⟨fF,fL⟩ y ys)(hti:lkT tb T=some ti)(htk:ti.k = .slc e')(hte:lkT tb e'=some te)(hes:te.size=1)(hd:Nat.blt d n=true)
   (kk:K ⟨updp fF d (.int .i64 (min ys.length xs.length:Nat)),lups fL i (.arr u 1 e u8c (cpB xs 0 ys))⟩):E1 P n N H0 all ⟨some d, .call ⟨.builtin .copy,#[x,y],#[T,T2]⟩,ty,pos,af,none⟩ (some i) ⟨fF,fL⟩ K:=by
 intro F H L ha;have h1:=Cm_ ha.f x;unfold Ok1 at h1;rw[hx] at h1;simp only[SimT,hb] at h1;have h2:=ha.l i;dsimp only at h2;rw[hb] at h2;have⟨cs,ho,hr,hm⟩:=h2;rw[Op_ hr] at ho;have hk:=(Ef_ ht hte).sz;rw[hes] at hk;have hu:cutS u 0=u:=by
   have⟨_,ho⟩:=ho
   rcases ho with ⟨rfl,_⟩|⟨b,cap,c,f,rfl,_⟩
   . simp[cutS,slA_0]
   . simp only[cutS,slA_0,Nat.sub_zero]
 refine op1_cp (i:=i) (lo:=0) (h1.trans hu.symm) ho (AT _) (hs F H L ha) ((Ef_ ht hti).slc htk) hk hd λen' ho'=>⟨.refl H,only,_,(ha.turnU (n:=n) (N:=N) (P:=P) i hb ⟨(cpB xs 0 ys).map u8v,by rw[Mv_ (AT _)];exact ho',rl_u8 _,by rw[Mv_ (AT _)];exact hm⟩).put (p:= .int .i64 (min ys.length xs.length:Nat)) d (Sim.int oX oW),kk⟩
theorem qcutv{tb:Tb}{ti te:TI}{i e e':Nat}{k:IntKind}{z:Int}{u:Value}{xs:Bs}(ht:tbB P tb=true)(m:Nat)(hx:evP fF x = .osl i)(hb:fL i = .arr u 1 e u8c xs)(hy:evP fF y = .int k z)(hti:lkT tb T=some ti)(htk:ti.k = .slc e')(hte:lkT tb e'=some te)(hes:te.size=1)(hz:z=m)(hm:m<=xs.length):Qy P N H0 ⟨fF,fL⟩ (.slice T x (some y) none none) ty (.val (cutS u m)):=by
 intro F H L ha;have h1:=Cm_ ha.f x;unfold Ok1 at h1;rw[hx] at h1;simp only[SimT,hb] at h1;have h3:=(Cm_ ha.f y).sim;rw[hy] at h3;have h2:=ha.l i;dsimp only at h2;rw[hb] at h2;have⟨cs,⟨_,ho⟩,hr,hbd⟩:=h2;have hk:=(Ef_ ht hte).sz;rw[hes] at hk;obtain⟨a,c,hu⟩:∃ a c,u = .slice a xs.length c:=by
   grind
 subst hu;exact⟨_,Sim.val,λH' L' _=>M1_ m h1 h3.inv_int.1 ((Ef_ ht hti).slc htk) hk hz hm⟩
theorem qasl{m e e' b i:Nat}{xs:Bs}(hx:evP fF x = .own i b 0)(hb:fL i = .arr (aSl b m) 1 e u8c xs)(hT:P.underlying T=some (.array m e'))(hk:Sz P e' 1):Qy P N H0 ⟨fF,fL⟩ (.slice T x none none none) ty (.osl i):=by
 intro F H L ha;have h1:=(Cm_ ha.f x).sim;rw[hx] at h1;refine⟨aSl b m,by simp only[SimT,hb],λH' L' _=>?_⟩;intro d pos af g w _;have hal:P.arrayLen T=some m:=by simp[Program.arrayLen,hT]
 simp[execOp,Instr.sliceAt,Instr.slice,Instr.sliceBounds,Instr.sliceBound,h1.inv_own,hal,aSl,run_underlying hT,hk w,Instr.sureAddr,Addr.add]
theorem alloca{tb:Tb}{ti:TI}(m i:Nat)(ht:tbB P tb=true)(hti:lkT tb T=some ti)(hz:ti.zero=(List.replicate m (0:UInt8)).flatMap u8c)(hm:m<=100000)(hd:Nat.blt d n=true)(kk:∀ b,K ⟨updp (Lz_ i fF) d (.own i b 0),lups (H6_ i fL) i (.arr (aSl b m) 1 T u8c (List.replicate m 0))⟩):E1 P n N H0 all ⟨some d, .alloc T,ty,pos,af,none⟩ (some i) ⟨fF,fL⟩ K:=by
 intro F H L ha;have⟨zv,hzv,hs⟩:=(Ef_ ht hti).zero;have h0:=hs H;rw[hz] at h0;have hcs:zv.cells.toList=(AH m (0:UInt8)).map u8v:=sims_u8 h0;refine Ts_ i hd (cs:=zv.cells.toList) (λw=>⟨zv,hzv w,by simp⟩) λb=>⟨.refl H,only,_,(ha.turn i (B:= .arr (aSl b m) 1 T u8c (AH m 0)) ⟨zv.cells.toList,?_,by rw[hcs];exact rl_u8 _,by simp;omega⟩).put (p:= .own i b 0) d Sim.own,kk b⟩;have hl:zv.cells.toList.length=m:=by rw[hcs];simp
 rw[BN];exact⟨by omega, .inr ⟨b,m,zv.cells.toList,[],rfl,rfl,by omega,BF _,by rw[AD qD],λ_=>rfl⟩⟩
end Go.SW.V
namespace Go.SW
variable{P:Program}{n:Nat}{N:Rest}{H0:Env}{all rest:List Oper}{Q:Qs}{ks:List Kt}{T ty d:Nat}{pos:String}{af:Array Edge}{x y:Operand}{K:St->Prop}
theorem Op1.impL{o:Oper}{K K':Fr->Hp->Ls->Prop}{F:Fr}{H:Hp}{L:Ls}(h:Op1 P n N all o K F H L)(hk:∀ F' H' L',K F' H' L'->∃ L2,(∀ w,Mem N H' L' w->Mem N H' L2 w)/\K' F' H' L2):Op1 P n N all o K' F H L:=λa w ha hm=>by
 have :=h a w ha hm
 split
 . rename_i hw
   rw[if_pos hw] at this
   exact Q8_ (λa' w' ⟨F',H',L',x,y,z⟩=>by have⟨L2,g1,g2⟩:=hk _ _ _ z;exact⟨F',H',L2,x,g1 _ y,g2⟩) (λ_ _ _ x=>x) this
 . rename_i hw
   rw[if_neg hw] at this
   have⟨F',H',L',x,y,z⟩:=this
   have⟨L2,g1,g2⟩:=hk _ _ _ z
   exact⟨F',H',L2,x,g1 _ y,g2⟩
theorem estonil{α:Type}{tb:Tb}{ti:TI}{i b b' off T0 k e:Nat}{fF:Nat->PV}{fL:Nat->Blk}{cs cs':List PV}(j:Nat)(enc:α->List PV)(ht:tbB P tb=true)(hx:evP fF x = .own i b off)(hb:fL i = .box b' T0 cs)(hti:lkT tb T=some ti)(hsz:ti.size=1)(hy:evS (evP fF y)=some (.val (.slice none 0 0)))(hl:Nat.blt off cs.length=true)(hbb:b'=b)(hne:Nat.beq i j=false)(hc:((cs.set off (.val (.slice none 0 0))).map (Yg_ j)).set off (.osl j)=cs')
   (kk:K ⟨Lz_ j fF,lups (lups (H6_ j fL) j (.arr (.slice none 0 0) k e enc [])) i (.box b T0 cs')⟩):E2 P n N H0 all ⟨none, .store T x y,ty,pos,af,none⟩ [i,j] ⟨fF,fL⟩ K:=by
 intro F H L ha;subst hbb;subst hc;have hij:i≠j:=λe=>by subst e;simp at hne
 have h0:E1 P n N H0 all ⟨none, .store T x y,ty,pos,af,none⟩ (some i) ⟨fF,fL⟩ (λs'=>s'=⟨fF,lups fL i (.box b' T0 (cs.set off (.val (.slice none 0 0))))⟩):=store1 (s:=⟨fF,fL⟩) ht hx hb hti hsz hy Z hl Z (by simp only[evL,Rs_]) rfl;refine (h0 F H L ha).impL λF' H' L' ⟨h1,h2,s',h3,h4⟩=>?_;subst h4;refine⟨lupd L' j none,λw hm=>hm.clear j,h1,λq hq=>?_,⟨_,_⟩,?_,kk⟩;simp only[memB] at hq;have q1:q≠i:=λe=>by subst e;simp at hq
 have q2:q≠j:=λe=>by subst e;simp at hq
 rw[Ci_ q2];grind;have g2:=h3.turn j (B:= .arr (.slice none 0 0) k e enc []) (x:=none) ⟨[],O6_,Z9_,by simp⟩;have g3:=g2.l i;simp only[] at g2 g3;have hcell:lups (H6_ j (lups fL i (.box b' T0 (cs.set off (.val (.slice none 0 0)))))) j (.arr (.slice none 0 0) k e enc []) i = .box b' T0 ((cs.set off (.val (.slice none 0 0))).map (Yg_ j)):=by
   rw[Gg_ hij,H6_,Dd_];rfl
 rw[hcell] at g3;have⟨vs,hL,hs1,hs2⟩:=g3;have hol:off<cs.length:=by simpa using hl
 have g4:=g2.turnB i (B:= .box b' T0 (((cs.set off (.val (.slice none 0 0))).map (Yg_ j)).set off (.osl j))) U (x:=lupd L' j none i) ⟨vs,hL,by simpa using hs1,λa p v hp hv=>by
   rw[CS] at hp
   by_cases z:off=a
   . subst z
     rw[if_pos rfl] at hp
     split at hp
     . cases hp
       have h5:=(hs2 off (.val (.slice none 0 0)) v (by rw[B8,List.getElem?_set_self hol];rfl) hv).sim.inv_val
       simp only[SimT,Gg_ hij.symm,Dd_]
       exact h5
     . cases hp
   . rw[if_neg z] at hp
     have h5:=hs2 a p v hp hv
     exact Pc_ (b:=b') (T:=T0) (cs:=(cs.set off (.val (.slice none 0 0))).map (Yg_ j)) hcell h5⟩
 have hself:lupd (lupd L' j none) i (lupd L' j none i)=lupd L' j none:=funext λq=>by
   by_cases e:q=i
   . subst e;rw[Co_]
   . rw[Ci_ e]
 rw[hself] at g4;have hLL:lups (lups (H6_ j (lups fL i (.box b' T0 (cs.set off (.val (.slice none 0 0)))))) j (.arr (.slice none 0 0) k e enc [])) i (.box b' T0 (((cs.set off (.val (.slice none 0 0))).map (Yg_ j)).set off (.osl j)))=lups (lups (H6_ j fL) j (.arr (.slice none 0 0) k e enc [])) i (.box b' T0 (((cs.set off (.val (.slice none 0 0))).map (Yg_ j)).set off (.osl j))):=funext λq=>by
   by_cases e:q=i
   . subst e;simp only[Dd_]
   . simp only[Gg_ e]
     by_cases e2:q=j
     . subst e2;simp only[Dd_]
     . simp only[Gg_ e2,H6_,Gg_ e]
 grind
end Go.SW
namespace Go.SW.V
open Go.SW
end Go.SW.V
namespace Go.SW
structure Bi_ where
 lasts:List UInt8
 waits:List Ht_
 on:Bool
 armed:Bool
 D8_:Int
 cut:Int
deriving Inhabited
structure C5_ where
 d:Bi_
 A4_:Int
 gen:Int
 ready:Bool
 broken:Bool
 done:Bs
 waits:Bs
deriving Inhabited
end Go.SW
namespace Go.SW.V
open Go.SW
def Bk_(d:Bi_):Int:=
 ((d.lasts.length:Int)/64)
def Hf_(d:Bi_):Bool:=
 d.on
theorem dblk_f(d:Bi_):0<=Bk_ d/\64*Bk_ d<=(d.lasts.length:Int)/\(d.lasts.length:Int)<64*Bk_ d+64:=by
 unfold Bk_;omega
def Eh_(d:Bi_)(at_:Int):Int:=
 (bif !d.on then
 16
 else (bif decide (at_<0) then
 7
 else lt (Bk_ d) λr=>
 (bif decide (r<=at_) then
 7
 else 0)))
end Go.SW.V
namespace Go.SW
end Go.SW
namespace Go.SW.V
open Go.SW
theorem dcheck_f(d:Bi_)(at_:Int):Eh_ d at_≠0\/(0<=at_/\64*at_+64<=(d.lasts.length:Int)):=by
 unfold Eh_ Bk_
 cases d.on with
 |false=>left;simp
 |true=>
   simp only[A2,cond_false]
   by_cases h:at_<0
   . left;simp[h]
   . by_cases h2:(d.lasts.length:Int)/64<=at_
     . left;simp[h,lt,h2]
     . right;omega
def Ap_(d:Bi_)(at_:Int)(data:Bs):Int×Bi_:=
 lt (Eh_ d at_) λr=>
 (bif !decide (r=0) then
 (r,d)
 else (bif decide (64<(data.length:Int)) then
 (5,d)
 else (0,(⟨d.lasts,(d.waits++[(⟨at_,data⟩:Ht_)]),d.on,d.armed,d.D8_,d.cut⟩:Bi_))))
end Go.SW.V
namespace Go.SW
def DwOk(d:Bi_):Prop:=∀ y∈d.waits,y.data.length<=64/\0<=y.at_/\64*y.at_+64<=d.lasts.length
end Go.SW
namespace Go.SW.V
open Go.SW
theorem dwrite_f(d:Bi_)(at_:Int)(data:Bs):(Ap_ d at_ data).2.lasts=d.lasts/\(Ap_ d at_ data).2.lasts.length=d.lasts.length/\(Ap_ d at_ data).2.D8_=d.D8_/\(Ap_ d at_ data).2.waits.length<=d.waits.length+1:=by
 unfold Ap_ lt;by_cases h:Eh_ d at_=0;by_cases h2:(64:Int)<data.length;simp[h,h2];simp[h,h2];simp[h]
theorem Sy_{d:Bi_}(h:DwOk d)(at_:Int)(data:Bs):DwOk (Ap_ d at_ data).2:=by
 unfold Ap_ lt;by_cases hc:Eh_ d at_=0;by_cases h2:(64:Int)<data.length;simpa [hc,h2] using h
 . have hf:=dcheck_f d at_
   simp only[hc,decide_true,A2,cond_false,h2,decide_false]
   intro y hy
   rcases List.mem_append.1 hy with q|q
   exact h y q
   . rw[List.mem_singleton.1 q]
     rcases hf with e|e
     exact (e hc).elim
     exact⟨by simp only[];omega,e.1,e.2⟩
 simpa [hc] using h
theorem rep_len(s:Bs)(n:Nat):(Go.Lib.repeatL s n).length=s.length*n:=by rw[Go.Lib.repeatL_length,CP]
theorem rep0_len(n:Nat):(Go.Lib.repeatL [0] n).length=n:=by rw[rep_len];simp
theorem area_f(a p:Int)(h0:0<=a)(h1:a<=1)(hp:0<=p):0<=a*p/\a*p<=p:=by
 rcases (by omega :a=0\/a=1) with rfl|rfl<;>simp<;>omega
def Fo_:List Ht_->Int->Int
 |[],n=>n
 |x::t,n=>Fo_ t (n+((x.data).length:Int))
def Hm_(d:Bi_):Int:=
 Fo_ d.waits 0
def Dy_(d:Bi_):List Ht_->Int->List UInt8->Bi_
 |[],cut1,lasts=>(⟨lasts,[],d.on,d.armed,d.D8_,d.cut⟩:Bi_)
 |x::t,cut1,lasts=>Dy_ d t (cut1-(max 0 (min cut1 ((x.data).length:Int)))) (cpB lasts ((((x.at_)*64)).toNat) ((x.data).take ((max 0 (min cut1 ((x.data).length:Int)))).toNat))
def Fy_(d:Bi_)(cut:Int):Bi_:=
 Dy_ d d.waits cut d.lasts
def En_(at_:Int):List Ht_->List UInt8->Bs×Int
 |[],b_=>(b_,0)
 | x::t,b_=>(bif decide ((x.at_)=at_) then
 En_ at_ t (cpB b_ 0 (x.data))
 else En_ at_ t b_)
def Bn_(d:Bi_)(at_:Int):Bs×Int:=
 lt (Eh_ d at_) λr=>
 (bif !decide (r=0) then
 ([],r)
 else En_ at_ d.waits (cpB (AH 64 0) 0 (d.lasts.drop (((at_*64)).toNat))))
def Cq_(d:Bi_)(cut:Int):Bi_:=
 (bif d.on then
 lt (Fy_ d cut) λr=>
 (⟨r.lasts,r.waits,false,r.armed,r.D8_,r.cut⟩:Bi_)
 else d)
def C1_(d:Bi_):Int×Bi_:=
 (bif !d.on then
 (16,d)
 else (bif (d.armed&&(decide (d.D8_=0))) then
 lt (Cq_ d d.cut) λr=>
 (16,r)
 else lt (Hm_ (⟨d.lasts,d.waits,d.on,d.armed,(max 0 (d.D8_-1)),d.cut⟩:Bi_)) λr1=>
 lt (Fy_ (⟨d.lasts,d.waits,d.on,d.armed,(max 0 (d.D8_-1)),d.cut⟩:Bi_) r1) λr2=>
 (0,r2)))
def G0_(d:Bi_):Bi_:=
 (bif !d.on then
 (⟨d.lasts,d.waits,true,false,0,0⟩:Bi_)
 else d)
def Mw_(d:Bi_):Bs:=
 d.lasts
def Em_(blocks:Int):Bi_:=
 (⟨(AH (((64*(max 0 (min blocks 4096)))).toNat) 0),[],true,false,0,0⟩:Bi_)
def Iz_(record:Bs):Bs:=
 ((C_ (C_ (Af_ (C_ aE (record.length:Int) 4) record) (Im_ [(Af_ (C_ aE (record.length:Int) 4) record).s]) 4) 165 1).s)
theorem Uz_(r:Bs):(Iz_ r).length=r.length+9:=by
 simp only[Iz_,C_,Af_,A1,A6,Ad_,show numK 4=4 from by decide,show numK 1=1 from by decide];omega
def Ge_:List Bs->Bs->Bs×Int
 |[],x=>(x,0)
 | x1::t,x=>(bif decide (x1=[]) then
 ([],15)
 else (bif decide (131072<(x1.length:Int)) then
 ([],5)
 else lt (Iz_ x1) λr=>
 Ge_ t (x++r)))
def B3_(records:List Bs):Bs×Int:=
 Ge_ records []
def C3_(gen:Int):Bs:=
 ((C_ (C_ (C_ (Af_ aE [83,84,82,87]) gen 8) (Im_ [(C_ (Af_ aE [83,84,82,87]) gen 8).s]) 4) 165 1).s)
def T_(l:C5_):Int:=
 lt (Bk_ l.d) λr=>
 (r/2)
def Ie_(l:C5_)(e:Int):Int×C5_:=
 (e,(⟨l.d,l.A4_,l.gen,false,true,l.done,l.waits⟩:C5_))
def F9_(l:C5_):Int:=
 (bif l.broken then
 21
 else (bif !l.ready then
 13
 else 0))
def He_(l:C5_):Bool:=
 l.ready
def Sm_(l:C5_):Int:=
 l.gen
theorem Zu_(l:C5_):0<=T_ l/\2*T_ l<=Bk_ l.d/\Bk_ l.d<=2*T_ l+1/\128*T_ l<=(l.d.lasts.length:Int)/\(l.d.lasts.length:Int)<128*T_ l+128:=by
 have :=dblk_f l.d;simp only[T_,lt];omega
def Ga_(l:C5_):Int:=
 lt (T_ l) λr=>
 (64*(r-1))
theorem lrow_f(l:C5_):Ga_ l=64*(T_ l-1) /\ -64<=Ga_ l/\2*Ga_ l+128<=(l.d.lasts.length:Int):=by
 have :=Zu_ l;have e:Ga_ l=64*(T_ l-1):=rfl;rw[e];refine⟨rfl,?_,?_⟩<;>omega
end Go.SW.V
namespace Go.SW
variable{P:Program}{n:Nat}{N:Rest}{H0:Env}{all:List Oper}{Q:Qs}{ks:List Kt}{s:St}
def Em(P:Program)(n:Nat)(N:Rest)(H0:Env)(all:List Oper)(o:Oper)(xs:List Nat)(s:St)(K:St->Prop):Prop:=∃ js:List Nat,js.all (memB xs)=true/\E2 P n N H0 all o js s K
theorem em2{o:Oper}{xs:List Nat}{K:St->Prop}{js:List Nat}(h:E2 P n N H0 all o js s K)(hj:js.all (memB xs)=true:=by exact Z):Em P n N H0 all o xs s K:=⟨js,hj,h⟩
theorem em1{o:Oper}{xs:List Nat}{K:St->Prop}{j:Option Nat}(h:E1 P n N H0 all o j s K)(hj:(match j with | none=>true | some j=>memB xs j)=true:=by exact Z):Em P n N H0 all o xs s K:=⟨j.toList,by cases j with
 |none=>rfl
 |some j=>simpa using hj,λF H L ha=>(h F H L ha).imp λF' H' L' ⟨h1,h2,h3⟩=>⟨h1,λq hq=>h2 q (λe=>by subst e;simp[memB] at hq),h3⟩⟩
def AllM(P:Program)(n:Nat)(N:Rest)(H0:Env)(all:List Oper)(Q:Qs)(xs:List Nat)(fuel:Nat)(listed:Array Bool)(ks:List Kt)(s:St):List Nat->Prop
 |[]=>True
 |i::r=>(∃ o,nth all i=some o/\Em P n N H0 all o xs s (λs'=>Hv P n N H0 Q (some xs) all fuel (listed.setIfInBounds i true) ks s'))/\AllM P n N H0 all Q xs fuel listed ks s r
theorem allM_mem{xs:List Nat}{fuel:Nat}{listed:Array Bool}:∀ {r:List Nat} {i:Nat},AllM P n N H0 all Q xs fuel listed ks s r->i∈r->∃ o,nth all i=some o/\Em P n N H0 all o xs s (λs'=>Hv P n N H0 Q (some xs) all fuel (listed.setIfInBounds i true) ks s')
 |[],i,_,h=>by cases h
 |a::r,i,h,hm=>by
   rcases List.mem_cons.1 hm with e|q
   . subst e;exact h.1
   . exact allM_mem h.2 q
theorem veM{xs:List Nat}{fuel:Nat}{listed:Array Bool}(i0:Nat)(r:List Nat)(h:AllM P n N H0 all Q xs fuel listed ks s (i0::r))(hr:Region.ready .any all.toArray listed=i0::r:=by exact qE):Hv P n N H0 Q (some xs) all (fuel+1) listed ks s:=by
 intro F H L Lk ha hL;refine vw_l i0 r hr λi hi=>?_;have⟨o,ho,js,hj,he⟩:=allM_mem h hi;rw[Gu_] at ho;have hle:∀ L':Ls,(∀ q,memB js q=false->L' q=L q)->LkR (some xs) Lk L':=λL' hL' q=>by
   rw[hL q]
   cases e:memB xs q with
   |true=>rfl
   |false=>
     refine (hL' q ?_).symm
     cases e2:memB js q with
     |false=>rfl
     |true=>have :=List.all_eq_true.1 hj q (M3_ e2);rw[e] at this;cases this
 have hlle:∀ L':Ls,(∀ q,memB js q=false->L' q=L q)->LLe Lk L':=λL' hL' q x hx=>by
   have :=hle L' hL' q
   grind
 exact yB
end Go.SW
namespace Go.SW.V
open Go.SW
def Hz_(l:C5_):Int:=
 lt (He_ l) λr=>
 (bif !r then
 0
 else (((Ga_ l)-(l.done.length:Int))-(l.waits.length:Int)))
def F5_(l:C5_)(A4_:Int)(block:Int)(least:Int)(s:Bs):Nat->Nat->Bi_->Int×C5_
 |0,_,_=>default
 | f2+1,v,dk=>(bif decide ((v:Int)<(max least ((((s.length:Int)+64)-1)/64))) then
 lt (Ap_ dk (((A4_*(T_ (⟨dk,l.A4_,l.gen,l.ready,l.broken,l.done,l.waits⟩:C5_)))+block)+(v:Int)) (((s++(AY [0] ((((max least ((((s.length:Int)+64)-1)/64))*64)-(s.length:Int))).toNat)).drop (v*64)).take (((v+1)*64)-(v*64)))) λr=>
 (bif !decide (r.1=0) then
 lt (Ie_ (⟨r.2,l.A4_,l.gen,l.ready,l.broken,l.done,l.waits⟩:C5_) r.1) λr1=>
 (r1.1,r1.2)
 else F5_ l A4_ block least s f2 (v+1) r.2)
 else lt (C1_ dk) λr2=>
 (bif !decide (r2.1=0) then
 lt (Ie_ (⟨r2.2,l.A4_,l.gen,l.ready,l.broken,l.done,l.waits⟩:C5_) r2.1) λr3=>
 (r3.1,r3.2)
 else (0,(⟨r2.2,l.A4_,l.gen,l.ready,l.broken,l.done,l.waits⟩:C5_))))
def A2_(l:C5_)(A4_:Int)(block:Int)(least:Int)(s:Bs):Int×C5_:=
 F5_ l A4_ block least s (((max least ((((s.length:Int)+64)-1)/64))-(0:Int)).toNat+1) 0 l.d
theorem ddo_l0(d:Bi_):∀ (ws:List Ht_) (c:Int) (ls:List UInt8),(∀ y∈ws,0<=y.at_/\64*y.at_+64<=(ls.length:Int))->(Dy_ d ws c ls).lasts.length=ls.length/\(Dy_ d ws c ls).waits=[]/\(Dy_ d ws c ls).on=d.on/\(Dy_ d ws c ls).armed=d.armed/\(Dy_ d ws c ls).D8_=d.D8_/\(Dy_ d ws c ls).cut=d.cut
 |[],_,_,_=>⟨rfl,rfl,rfl,rfl,rfl,rfl⟩
 |x::t,c,ls,h=>by
   have hx:=h x (AG ..)
   have hl:(cpB ls (((x.at_)*64)).toNat ((x.data).take ((max 0 (min c ((x.data).length:Int)))).toNat)).length=ls.length:=Mv_ qD
   have :=ddo_l0 d t (c-(max 0 (min c ((x.data).length:Int)))) (cpB ls (((x.at_)*64)).toNat ((x.data).take ((max 0 (min c ((x.data).length:Int)))).toNat)) (λy hy=>by rw[hl];exact h y (AB _ hy))
   rw[hl] at this
   exact this
theorem ddo_f{d:Bi_}(h:DwOk d)(c:Int):(Fy_ d c).lasts.length=d.lasts.length/\(Fy_ d c).waits=[]/\(Fy_ d c).on=d.on/\(Fy_ d c).armed=d.armed/\(Fy_ d c).D8_=d.D8_/\(Fy_ d c).cut=d.cut:=
 ddo_l0 d d.waits c d.lasts λy hy=>(h y hy).2
theorem ddown_f{d:Bi_}(h:DwOk d)(c:Int):(Cq_ d c).lasts.length=d.lasts.length/\DwOk (Cq_ d c)/\(Cq_ d c).waits.length<=d.waits.length/\(Cq_ d c).D8_=d.D8_/\(Cq_ d c).cut=d.cut:=by
 unfold Cq_ lt;have :=ddo_f h c
 cases d.on with
 |false=>exact⟨rfl,h,BF _,rfl,rfl⟩
 |true=>exact⟨this.1,λy hy=>(by simp only[cond_true,this.2.1] at hy;cases hy),(by simp only[cond_true,this.2.1];exact AT _),this.2.2.2.2.1,this.2.2.2.2.2⟩
theorem dsync_f{d:Bi_}(h:DwOk d)(hs:0<=d.D8_):(C1_ d).2.lasts.length=d.lasts.length/\DwOk (C1_ d).2/\(C1_ d).2.waits.length<=d.waits.length/\0<=(C1_ d).2.D8_/\(C1_ d).2.D8_<=d.D8_/\(C1_ d).2.cut=d.cut:=by
 unfold C1_ lt
 cases ho:d.on with
 |false=>exact⟨rfl,h,BF _,hs,BX _,rfl⟩
 |true=>
   simp only[A2,cond_false]
   cases (d.armed && decide (d.D8_=0)) with
   |true=>
     have :=ddown_f h d.cut
     exact⟨this.1,this.2.1,this.2.2.1,by simp only[cond_true];omega,by simp only[cond_true];omega,this.2.2.2.2⟩
   |false=>
     have h':DwOk (⟨d.lasts,d.waits,true,d.armed,(max 0 (d.D8_-1)),d.cut⟩:Bi_):=h
     have :=ddo_f h' (Hm_ (⟨d.lasts,d.waits,true,d.armed,(max 0 (d.D8_-1)),d.cut⟩:Bi_))
     simp only[cond_false]
     exact⟨this.1,λy hy=>(by rw[this.2.1] at hy;cases hy),(by rw[this.2.1];exact AT _),by rw[this.2.2.2.2.1];simp only[];omega,by rw[this.2.2.2.2.1];simp only[];omega,this.2.2.2.2.2⟩
def PutF(l:C5_)(m:Int)(r:Int×C5_):Prop:=r.2.d.lasts.length=l.d.lasts.length/\DwOk r.2.d/\(r.2.d.waits.length:Int)<=l.d.waits.length+m/\0<=r.2.d.D8_/\r.2.d.D8_<=l.d.D8_/\r.2.d.cut=l.d.cut/\r.2.A4_=l.A4_/\r.2.gen=l.gen/\r.2.done=l.done/\r.2.waits=l.waits/\(r.1=0->r.2.ready=l.ready/\r.2.broken=l.broken)/\(r.1≠0->r.2.broken=true/\r.2.ready=false)
theorem put_l0(l:C5_)(A4_ block least:Int)(s:Bs):∀ (f v:Nat) (dk:Bi_),((max least ((((s.length:Int)+64)-1)/64))-(v:Int)).toNat<f->DwOk dk->0<=dk.D8_->PutF (⟨dk,l.A4_,l.gen,l.ready,l.broken,l.done,l.waits⟩:C5_) ((max 0 ((max least ((((s.length:Int)+64)-1)/64))-(v:Int)))) (F5_ l A4_ block least s f v dk)
 |0,_,_,h,_,_=>by omega
 |f+1,v,dk,h,hw,hs=>by
   rw[F5_.eq_2]
   unfold lt
   by_cases hc:(v:Int)<(max least ((((s.length:Int)+64)-1)/64))
   . simp only[hc,decide_true,cond_true]
     generalize hX:(((A4_*(T_ (⟨dk,l.A4_,l.gen,l.ready,l.broken,l.done,l.waits⟩:C5_)))+block)+(v:Int))=X
     generalize hY:((s++(AY [0] ((((max least ((((s.length:Int)+64)-1)/64))*64)-(s.length:Int))).toNat)).drop (v*64)).take (((v+1)*64)-(v*64))=Y
     have hf:=dwrite_f dk X Y
     have ho:=Sy_ hw X Y
     have hcut:(Ap_ dk X Y).2.cut=dk.cut:=by
       unfold Ap_ lt
       by_cases q:Eh_ dk X=0<;>by_cases q2:(64:Int)<Y.length<;>simp[q,q2]
     by_cases hr:(Ap_ dk X Y).1=0
     . simp only[hr,decide_true,A2,cond_false]
       have ih:=put_l0 l A4_ block least s f (v+1) (Ap_ dk X Y).2 qD ho qD
       have⟨i1,i2,i3,i4,i5,i6,i7⟩:=ih
       simp only[] at i1 i3 i5 i6
       refine⟨by simp only[];omega,i2,by simp only[];omega,i4,by simp only[];omega,by rw[i6];exact hcut,i7⟩
     . simp only[hr,decide_false,AE,cond_true]
       refine⟨hf.2.1,ho,?_,?_,?_,hcut,rfl,rfl,rfl,rfl,λe=>(hr e).elim,λ_=>⟨rfl,rfl⟩⟩
       . have :=hf.2.2.2;simp only[Ie_];omega
       . simp only[Ie_];omega
       . simp only[Ie_];omega
   . simp only[hc,decide_false,cond_false]
     have hf:=dsync_f hw hs
     by_cases hr:(C1_ dk).1=0
     . simp only[hr,decide_true,A2,cond_false]
       exact⟨hf.1,hf.2.1,by simp only[];omega,hf.2.2.2.1,hf.2.2.2.2.1,hf.2.2.2.2.2,rfl,rfl,rfl,rfl,λ_=>⟨rfl,rfl⟩,λe=>(e Z).elim⟩
     . simp only[hr,decide_false,AE,cond_true]
       exact⟨hf.1,hf.2.1,by simp only[Ie_];omega,hf.2.2.2.1,hf.2.2.2.2.1,hf.2.2.2.2.2,rfl,rfl,rfl,rfl,λe=>(hr e).elim,λ_=>⟨rfl,rfl⟩⟩
theorem put_f{l:C5_}(A4_ block least:Int)(s:Bs)(h:DwOk l.d)(hs:0<=l.d.D8_):PutF l (max 0 (max least ((((s.length:Int)+64)-1)/64))) (A2_ l A4_ block least s):=by
 have :=put_l0 l A4_ block least s (((max least ((((s.length:Int)+64)-1)/64))-(0:Int)).toNat+1) 0 l.d qI h hs;rw[show ((max least ((((s.length:Int)+64)-1)/64))-((0:Nat):Int))=(max least ((((s.length:Int)+64)-1)/64)) from by simp] at this;exact this
theorem Mj_(gen:Int):(C3_ gen).length=17:=by
 simp only[C3_,C_,Af_,A1,Ad_,numK,A6,A3]<;>first|omega|(simp;done)|(simp;omega)
theorem room_f(l:C5_):Hz_ l<=max 0 (Ga_ l-(l.done.length:Int)-(l.waits.length:Int))/\(l.ready=true->Hz_ l=Ga_ l-(l.done.length:Int)-(l.waits.length:Int))/\(l.ready=false->Hz_ l=0):=by
 unfold Hz_ lt He_
 cases l.ready with
 |false=>exact⟨by simp only[AE,cond_true];omega,λh=>qS,λ_=>rfl⟩
 |true=>exact⟨by simp only[A2,cond_false];omega,λ_=>rfl,λh=>qS⟩
theorem lcheck_f(l:C5_):F9_ l≠0\/(l.ready=true/\l.broken=false):=by
 unfold F9_
 cases l.broken with
 |true=>left;simp
 |false=>cases l.ready with
   |false=>left;simp
   |true=>right;exact⟨rfl,rfl⟩
theorem sbytes_l0:∀ (rs:List Bs) (x:Bs),((Ge_ rs x).1.length:Int)<=x.length+131081*rs.length
 |[],x=>by simp[Ge_]
 |r::t,x=>by
   rw[Ge_.eq_2]
   cases decide (r=[]) with
   |true=>simp only[cond_true,A6,A3];omega
   |false=>
     simp only[cond_false]
     by_cases h:(131072:Int)<r.length
     . simp only[h,decide_true,cond_true,A6,A3];omega
     . simp only[h,decide_false,cond_false,lt]
       have :=sbytes_l0 t (x++Iz_ r)
       have h2:=Uz_ r
       simp only[A1,A3] at *
       omega
theorem sbytes_len(rs:List Bs):((B3_ rs).1.length:Int)<=131081*rs.length:=by
 have :=sbytes_l0 rs [];simpa [B3_] using this
def Ik_(s:Bs):Bs×Int×Int:=
 lt (R_ (⟨s,0⟩) 4) λr=>
 (bif !decide (r.2.err=0) then
 ([],0,r.2.err)
 else (bif decide ((A0 .i64 r.1)=0) then
 ([],0,15)
 else (bif decide (131072<(A0 .i64 r.1)) then
 ([],0,5)
 else (bif decide ((s.length:Int)<((A0 .i64 r.1)+9)) then
 ([],0,3)
 else (bif !decide (((s.getD ((((A0 .i64 r.1)+9)-1)).toNat 0).toNat:Int)=165) then
 ([],0,4)
 else lt (R_ ((Fk_ r.2 (A0 .i64 r.1)).2) 4) λr1=>
 (bif !decide ((Im_ [(s.take (((A0 .i64 r.1)+4)).toNat)])=r1.1) then
 ([],0,14)
 else ((Fk_ r.2 (A0 .i64 r.1)).1,((A0 .i64 r.1)+9),0)))))))
theorem inNum4_r(i:In):IntKind.wrap .i64 (R_ i 4).1=(R_ i 4).1/\0<=IntKind.wrap .i64 (R_ i 4).1/\IntKind.wrap .i64 (R_ i 4).1<=4294967295:=by
 have hl:=Px_ i (min 4 8);have hlt:=beN_lt (Fk_ i (min 4 8)).1;have key:beN (Fk_ i (min 4 8)).1<256 ^ 4:=DV hlt (C3 qD qD);have e:(R_ i 4).1=(beN (Fk_ i (min 4 8)).1:Int):=rfl;rw[e];generalize beN (Fk_ i (min 4 8)).1=n at key;have hw:A0 .i64 (n:Int)=n:=by rw[IntKind.wrap_i64];omega
 rw[hw];omega
theorem snext_f(s:Bs):(Ik_ s).2.2≠0\/(10<=(Ik_ s).2.1/\(Ik_ s).2.1<=s.length/\(Ik_ s).1.length<=131072/\((Ik_ s).1.length:Int)+9<=(Ik_ s).2.1):=by
 have h4:=inNum4_r (⟨s,0⟩:In);unfold Ik_ lt;generalize R_ (⟨s,0⟩:In) 4=r at h4;by_cases h1:r.2.err=0;by_cases h2:A0 .i64 r.1=0;left;simp[h1,h2];by_cases h3:131072<A0 .i64 r.1;left;simp[h1,h2,h3];by_cases h5:(s.length:Int)<A0 .i64 r.1+9;left;simp[h1,h2,h3,h5];by_cases h6:((s.getD ((((A0 .i64 r.1)+9)-1)).toNat 0).toNat:Int)=165;simp only[h1,h2,h3,h5,h6,decide_true,decide_false,A2,cond_false];have hl:=Px_ r.2 (A0 .i64 r.1);by_cases h7:Im_ [(s.take (((A0 .i64 r.1)+4)).toNat)]=(R_ ((Fk_ r.2 (A0 .i64 r.1)).2) 4).1;right;simp only[h7,decide_true,A2,cond_false];refine⟨by omega,by omega,?_,?_⟩<;>omega;left;simp[h7];left;simp only[h1,h2,h3,h5,h6,decide_true,decide_false,A2,AE,cond_false,cond_true];decide;left;simp[h1]
theorem Vv_{d:Bi_}{at_:Int}(ho:d.on=true)(h0:0<=at_)(h1:64*at_+64<=(d.lasts.length:Int)):Eh_ d at_=0:=by
 unfold Eh_ Bk_;have h2:¬at_<0:=by omega
 have h3:¬(d.lasts.length:Int)/64<=at_:=by omega
 simp[ho,h2,h3,lt]
theorem don_f(d:Bi_):Hf_ d=d.on:=rfl
theorem dread_l0(at_:Int):∀ (ws:List Ht_) (b:Bs),(En_ at_ ws b).1.length=b.length/\(En_ at_ ws b).2=0
 |[],_=>⟨rfl,rfl⟩
 |x::t,b=>by
   rw[En_.eq_2]
   by_cases h:x.at_=at_
   . simp only[h,decide_true,cond_true]
     have :=dread_l0 at_ t (cpB b 0 x.data)
     rw[Mv_ (AT _)] at this
     exact this
   . simp only[h,decide_false,cond_false]
     exact dread_l0 at_ t b
theorem dread_f{d:Bi_}{at_:Int}(ho:d.on=true)(h0:0<=at_)(h1:64*at_+64<=(d.lasts.length:Int)):(Bn_ d at_).1.length=64/\(Bn_ d at_).2=0:=by
 unfold Bn_ lt;rw[Vv_ ho h0 h1];simp only[decide_true,A2,cond_false];have :=dread_l0 at_ d.waits (cpB (AH 64 0) 0 (d.lasts.drop (((at_*64)).toNat)));rw[Mv_ (AT _),BN] at this;exact this
def Ke_(s:Bs):Nat->List Bs->Int->(List Bs)×Int
 |0,_,_=>default
 |f2+1,out,used=>lt (Ik_ (s.drop (used).toNat)) λr=>
 (bif !decide (r.2.2=0) then
 (out,used)
 else Ke_ s f2 (out++[r.1]) (used+r.2.1))
def Lp_(s:Bs):(List Bs)×Int:=
 Ke_ s (((s.length:Int)-0).toNat+1) [] 0
def Hr_(l:C5_)(A4_:Int)(r:Int×In)(r2:Int):Nat->Nat->Bs->Int×(List Bs)×Bool
 |0,_,_=>default
 | f2+1,v,x=>(bif decide ((v:Int)<(r2-1)) then
 Hr_ l A4_ r r2 f2 (v+1) (x++(Bn_ l.d (((A4_*(T_ l))+1)+(v:Int))).1)
 else lt (Lp_ x) λr3=>
 (r.1,r3.1,true))
def Hj_(l:C5_)(A4_:Int):Int×(List Bs)×Bool:=
 lt (R_ (⟨(((Bn_ l.d (A4_*(T_ l))).1).drop 4),0⟩) 8) λr=>
 lt (C3_ r.1) λr1=>
 (bif !decide ((((Bn_ l.d (A4_*(T_ l))).1).take r1.length)=r1) then
 (0,[],false)
 else lt (T_ l) λr2=>
 Hr_ l A4_ r r2 (((r2-1)-(0:Int)).toNat+1) 0 [])
def Ew_(d:Bi_):Nat->List Bs->Int->Nat->Int->Int->Bool×Bs×(List Bs)×Int×Bi_×C5_
 |0,_,_,_,_,_=>default
 | f2+1,best,of,v,A4_,gen=>(bif decide ((v:Int)<2) then
 lt (Hj_ (⟨d,A4_,gen,false,false,[],[]⟩:C5_) (v:Int)) λr2=>
 (bif !r2.2.2 then
 Ew_ d f2 best of (v+1) A4_ gen
 else (bif ((decide (0<(r2.2.1.length:Int)))&&((decide (A4_<0))||(decide (of<r2.1)))) then
 Ew_ d f2 r2.2.1 r2.1 (v+1) (v:Int) (max gen r2.1)
 else Ew_ d f2 best of (v+1) A4_ (max gen r2.1)))
 else (bif decide (A4_<0) then
 (true,[],[],0,d,(⟨d,A4_,gen,false,false,[],[]⟩:C5_))
 else (true,(gt best 0),(best.drop 1),0,d,(⟨d,A4_,gen,false,false,[],[]⟩:C5_))))
def H0_(d:Bi_):Bool×Bs×(List Bs)×Int×Bi_×C5_:=
 lt (Hf_ d) λr=>
 (bif !r then
 (false,[],[],16,d,(default:C5_))
 else lt (Bk_ d) λr1=>
 (bif decide (r1<4) then
 (false,[],[],7,d,(default:C5_))
 else Ew_ d (2-0+1) [] 0 0 (-1) 0))
def WoF(d:Bi_)(r:Bool×Bs×(List Bs)×Int×Bi_×C5_):Prop:=(r.1=true->r.2.2.2.1=0/\r.2.2.2.2.2.d=d/\r.2.2.2.2.2.done=[]/\r.2.2.2.2.2.waits=[]/\r.2.2.2.2.2.ready=false/\r.2.2.2.2.2.broken=false /\ -1<=r.2.2.2.2.2.A4_/\r.2.2.2.2.2.A4_<=1)/\(r.1=false->r.2.2.2.1≠0)/\r.2.2.2.2.1=d
theorem V9_(d:Bi_):∀ (f:Nat) (best:List Bs) (of:Int) (v:Nat) (A4_ gen:Int),(2-(v:Int)).toNat<f->v<=2 -> -1<=A4_->A4_<=1->WoF d (Ew_ d f best of v A4_ gen)
 |0,_,_,_,_,_,h,_,_,_=>by omega
 |f+1,best,of,v,A4_,gen,h,hv,h0,h1=>by
   rw[Ew_.eq_2];unfold lt
   by_cases hc:(v:Int)<2
   . simp only[hc,decide_true,cond_true]
     generalize Hj_ (⟨d,A4_,gen,false,false,[],[]⟩:C5_) (v:Int)=r
     cases r.2.2 with
     |false=>simp only[AE,cond_true];exact V9_ d f best of (v+1) A4_ gen qD qD h0 h1
     |true=>
       simp only[A2,cond_false]
       cases (decide (0<(r.2.1.length:Int))&&(decide (A4_<0) || decide (of<r.1))) with
       |true=>simp only[cond_true];exact V9_ d f _ _ (v+1) (v:Int) _ qD qD qD qD
       |false=>simp only[cond_false];exact V9_ d f best of (v+1) A4_ _ qD qD h0 h1
   . simp only[hc,decide_false,cond_false]
     cases decide (A4_<0) with
     |true=>exact⟨λ_=>⟨rfl,rfl,rfl,rfl,rfl,rfl,h0,h1⟩,λe=>(by cases e),rfl⟩
     |false=>exact⟨λ_=>⟨rfl,rfl,rfl,rfl,rfl,rfl,h0,h1⟩,λe=>(by cases e),rfl⟩
theorem wopen_f(d:Bi_):WoF d (H0_ d):=by
 unfold H0_ lt
 cases Hf_ d with
 |false=>exact⟨λe=>(by cases e),λ_=>qI,rfl⟩
 |true=>
   simp only[A2,cond_false]
   by_cases h:Bk_ d<4
   . simp only[h,decide_true,cond_true]
     exact⟨λe=>(by cases e),λ_=>qI,rfl⟩
   . simp only[h,decide_false,cond_false]
     exact V9_ d _ [] 0 0 (-1) 0 qD qD qD qD
theorem cpB_mem{xs ys:Bs}{lo:Nat}{y:UInt8}(h:y∈cpB xs lo ys):y∈xs\/y∈ys:=by
 unfold cpB at h
 rcases List.mem_append.1 h with h|h
 exact .inl (CF h)
 . rcases List.mem_append.1 h with h|h
   exact .inr (CF h)
   exact .inl (AX h)
def Dk0(d:Bi_):Prop:=(∀ y∈d.lasts,y=0)/\d.waits=[]
theorem dknew0(n:Int):Dk0 (Em_ n):=⟨λ_ h=>EK h,rfl⟩
theorem dread_0{d:Bi_}(h:Dk0 d)(at_:Int):∀ y∈(Bn_ d at_).1,y=0:=by
 unfold Bn_ lt;by_cases hc:Eh_ d at_=0
 . simp only[hc,decide_true,A2,cond_false]
   rw[h.2]
   intro y hy
   rcases cpB_mem hy with q|q
   exact EK q
   exact h.1 y (AX q)
 . simp only[hc,decide_false,AE,cond_true]
   intro y hy;cases hy
theorem head_83(gen:Int):∃ t,C3_ gen=83::t:=by
 unfold C3_ C_ Af_;exact⟨_,rfl⟩
theorem wread_0{l:C5_}(h:Dk0 l.d)(A4_:Int):Hj_ l A4_=(0,[],false):=by
 unfold Hj_ lt;generalize R_ (⟨(((Bn_ l.d (A4_*(T_ l))).1).drop 4),0⟩) 8=r;have⟨t,ht⟩:=head_83 r.1;have hn:¬(((Bn_ l.d (A4_*(T_ l))).1).take (C3_ r.1).length=C3_ r.1):=by
   intro e
   have h83:(83:UInt8)∈((Bn_ l.d (A4_*(T_ l))).1).take (C3_ r.1).length:=by rw[e,ht];exact AG ..
   have :=dread_0 h (A4_*(T_ l)) 83 (CF h83)
   exact absurd this qF
 simp only[hn,decide_false,AE,cond_true]
theorem U3_{d:Bi_}(h:Dk0 d):∀ (f v:Nat) (A4_ gen of:Int),(2-(v:Int)).toNat<f->A4_ = -1->Ew_ d f [] of v A4_ gen=(true,[],[],0,d,(⟨d,-1,gen,false,false,[],[]⟩:C5_))
 |0,_,_,_,_,hf,_=>by omega
 |f+1,v,A4_,gen,of,hf,ha=>by
   subst ha
   rw[Ew_.eq_2];unfold lt
   by_cases hc:(v:Int)<2
   . simp only[hc,decide_true,cond_true]
     rw[wread_0 (l:=(⟨d,-1,gen,false,false,[],[]⟩:C5_)) h]
     simp only[AE,cond_true]
     exact U3_ h f (v+1) (-1) gen of qD Z
   . simp only[hc,decide_false,cond_false];rfl
theorem wopen_new(n:Int):(H0_ (Em_ n)).2.1=[]:=by
 have h:=dknew0 n;unfold H0_ lt
 cases Hf_ (Em_ n) with
 |false=>rfl
 |true=>
   simp only[A2,cond_false]
   by_cases q:Bk_ (Em_ n)<4
   . simp only[q,decide_true,cond_true]
   . simp only[q,decide_false,cond_false]
     rw[U3_ h _ 0 (-1) 0 0 qD rfl]
theorem wopen_new'(n:Int)(hn:4<=n)(hm:n<=4096):H0_ (Em_ n)=(true,[],[],0,Em_ n,(⟨Em_ n,-1,0,false,false,[],[]⟩:C5_)):=by
 have h:=dknew0 n;unfold H0_ lt;have e:Hf_ (Em_ n)=true:=rfl;have q:¬Bk_ (Em_ n)<4:=by
   unfold Bk_ Em_
   simp only[BN];omega
 simp only[e,q,decide_false,A2,cond_false];exact U3_ h _ 0 (-1) 0 0 qD Z
def Eg_(l:C5_)(image:Bs):Int×C5_:=
 (bif l.broken then
 (21,l)
 else (bif !decide (((B3_ [image]).2)=0) then
 ((B3_ [image]).2,l)
 else lt (Ga_ l) λr=>
 (bif decide (r<(((B3_ [image]).1).length:Int)) then
 (17,l)
 else (bif decide (l.gen=18446744073709551615) then
 (18,l)
 else (bif decide (l.A4_=0) then
 lt (A2_ l 1 0 1 []) λr1=>
 (bif !decide (r1.1=0) then
 (r1.1,r1.2)
 else lt (T_ r1.2) λr2=>
 lt (A2_ r1.2 1 1 (r2-1) ((B3_ [image]).1)) λr3=>
 (bif !decide (r3.1=0) then
 (r3.1,r3.2)
 else lt (C3_ (A0 .u64 (r3.2.gen+1))) λr4=>
 lt (A2_ r3.2 1 0 1 r4) λr5=>
 (bif !decide (r5.1=0) then
 (r5.1,r5.2)
 else (0,(⟨r5.2.d,1,(A0 .u64 (r5.2.gen+1)),true,r5.2.broken,(B3_ [image]).1,[]⟩:C5_)))))
 else lt (A2_ l 0 0 1 []) λr6=>
 (bif !decide (r6.1=0) then
 (r6.1,r6.2)
 else lt (T_ r6.2) λr7=>
 lt (A2_ r6.2 0 1 (r7-1) ((B3_ [image]).1)) λr8=>
 (bif !decide (r8.1=0) then
 (r8.1,r8.2)
 else lt (C3_ (A0 .u64 (r8.2.gen+1))) λr9=>
 lt (A2_ r8.2 0 0 1 r9) λr10=>
 (bif !decide (r10.1=0) then
 (r10.1,r10.2)
 else (0,(⟨r10.2.d,0,(A0 .u64 (r10.2.gen+1)),true,r10.2.broken,(B3_ [image]).1,[]⟩:C5_))))))))))
end Go.SW.V
namespace Go.SW
open Go.MapKept
variable{P:Program}{n:Nat}{N:Rest}{ops:List Oper}{F:Fr}{H:Hp}{L:Ls}{K:Fr->Hp->Ls->Prop}{T ty d:Nat}{pos:String}{af:Array Edge}{x y z:Operand}{κ ν:Type}
end Go.SW
namespace Go.SW.V
open Go.SW
variable{P:Program}{n:Nat}{N:Rest}{H0:Env}{all rest:List Oper}{Q:Qs}{ks:List Kt}{fF:Nat->PV}{fL:Nat->Blk}{T ty d:Nat}{pos:String}{af:Array Edge}{x y z:Operand}{K:St->Prop}{κ ν:Type}
end Go.SW.V
namespace Go.SW
variable{P:Program}{n:Nat}{N:Rest}{H0:Env}{all rest:List Oper}{Q:Qs}{ks:List Kt}{s:St}{T T' T2 ty d:Nat}{pos:String}{af:Array Edge}{x y z:Operand}{K:St->Prop}{op:Op}{p:PV}
structure Fx{α:Type}(P:Program)(G:Gb)(f:FuncId)(a0:PV)(args:List PV)(res:PV)(k e:Nat)(enc:α->List PV)(xs:List α):Prop where
 cb:Aa_ P f
 no:res.noOsl=true
 run:∀ (N:Rest) (H:Hp) (L:Ls) (w:World) (i:Nat) (v0 u:Value) (vs:List Value),G.p H->SimB (λ_=> .no) H (.arr u k e enc xs) (L i)->Sims H (a0::args) (v0::vs)->Mem N H L w ->
   Calls P f (v0::u::vs).toArray w λe' w'=>∃ v H',e' = .returned v/\Sim H' res v/\HLe H H'/\Mem N H' (lupd L i none) w'
theorem fx_cw{α:Type}{tb:Tb}{G:Gb}{m:Nat}{f:FuncId}{fn:Func}{c:Code}{a0:PV}{args:List PV}{res:PV}{k e:Nat}{enc:α->List PV}{xs:List α}(ht:tbB P tb=true)(hf:P.funcs[f]? = some fn)(hb:fn.body=some c)(hn:fn.ntmps=m)(hs:Nat.ble (args.length+2) m=true)(hcb:Aa_ P f)(hno:res.noOsl=true)(hna:Du_ (a0::args)=true)
   (h:PV.wfs (a0::args)->xs.length<=140737488355328->∀ u N H,G.p H->Hd P m N ⟨H,G⟩ (rtK tb fn.results.toList res) (.code c) [] ⟨O4_ (a0 :: .osl 0::args),lups (λ_=> .no) 0 (.arr u k e enc xs)⟩):Fx P G f a0 args res k e enc xs:=by
 refine⟨hcb,hno,λN H L w i v0 u vs hg hB hsim hm=>?_⟩;subst hn;have key:Pl P f (v0::u::vs).toArray H (L i) (λv H' _=>Sim H' res v):=by
   refine pl_of_cw hf hb (by have :=Nat.le_of_ble_eq_true hs;have :=hsim.1;simp at this ⊢;omega) λN=>?_
   have hlen:xs.length<=140737488355328:=by have⟨_,_,_,q⟩:=hB;exact q
   have h1:=h hsim.wf hlen u N H hg (Lc_ (v0::u::vs).toArray) H (ofE (L i)) ⟨.refl H,hg,λt=>?_,λj=>?_⟩
   . refine Kq_ (λe' F' H' L' hq=>?_) h1
     have⟨s',ha',hq'⟩:=hq
     have⟨he,v,hr,hv⟩:=Pb_ (N:=N) ht ha' hq'
     rcases he with rfl|rfl
     . exact⟨v,hr,ha'.le,0,hv⟩
     . exact⟨v,hr,ha'.le,0,hv⟩
   . have hi:=Ml_ (sL:=lups (λ_=> .no) 0 (.arr u k e enc xs)) hsim hna
     match t with
     |0=>simpa [O4_,nth,Lc_] using hi 0
     |1=>simp[O4_,nth,SimT,Dd_,Lc_]
     |t+2=>simpa [O4_,nth,Lc_] using hi (t+1)
   . by_cases e1:j=0
     . exact sX
     . simp only[Gg_ e1];trivial
 refine (key N L w i Z hm).mono λ_ _ ⟨v,H',en,h1,h5,h3,h4⟩=>⟨v,H',h1,h5,h3,?_⟩;have h6:=h4.clear i;have heq:lupd (lupd L i en) i none=lupd L i none:=funext λj=>by
   by_cases q:j=i
   . subst q;rw[Co_,Co_]
   . rw[Ci_ q,Ci_ q,Ci_ q]
 rwa [heq] at h6
theorem ecallx'{α:Type}{f:FuncId}{a0:PV}{args:List PV}{res:PV}{i k e k2 e2:Nat}{enc:α->List PV}{xs:List α}{u:Value}{as0:Array Operand}{ats:Array TypeId}(h:Fx P H0.g f a0 args res k e enc xs)(hx:evP s.F x = .fn f [] [])(ha:evPs s.F as0.toList=a0 :: .osl i::args)(hna:Du_ (a0::args)=true)(hb:s.L i = .arr u k2 e2 enc xs)(hk:k2=k)(he2:e2=e)(hd:Nat.blt d n=true)
   (kk:res.wf->K ⟨updp (Lz_ i s.F) d res,lups (H6_ i s.L) i .no⟩):E1 P n N H0 all ⟨some d, .call ⟨.value x,as0,ats⟩,ty,pos,af,none⟩ (some i) s K:=by
 intro F H L hab;subst hk;subst he2;have h1:=(Cm_ hab.f x).sim;rw[hx] at h1;have⟨v1,v2,ex,h2,h3⟩:=h1.inv_fn
 cases h2.inv_nil
 cases h3.inv_nil
 have hsT:=Wr_ (Ls:=s.L) (H:=H) (F:=F) (G:=s.F) (xs:=as0.toList) λy _=>Cm_ hab.f y;rw[ha] at hsT;have hB:=hab.l i;rw[hb] at hB
 cases hev:evs F as0.toList with
 |nil=>have :=hsT.1;rw[hev] at this;simp at this
 |cons v0 vs1=>cases vs1 with
   |nil=>have :=hsT.1;rw[hev] at this;simp at this
   |cons v1 vs=>
   rw[hev] at hsT
   have h4:=hsT.2 1 _ _ Z Z
   simp only[SimT,hb] at h4
   subst h4
   have h5:Sims H (a0::args) (v0::vs):=by
     exact xI
   have hen:En P (.call ⟨.value x,as0,ats⟩) F f (v0::v1::vs).toArray:=by
     exact yJ
   intro a w hA hm
   rw[if_pos qM]
   unfold BJ
   rw[hA.eval,hen]
   refine (h.run N H L w i v0 v1 vs hab.g hB h5 hm).mono λe' w' ⟨v,H',he,hv,hl,hm'⟩=>?_
   subst he
   exact⟨_,H',_,hA.put qO v,hm',hl,only,_,Abs.put (p:=res) ((hab.mono hl).turn i (B:= .no) (x:=none) U) d (hv.simT h.no),kk hv.wf⟩
end Go.SW
namespace Go.SW.V
open Go.SW
variable{P:Program}{n:Nat}{N:Rest}{H0:Env}{all rest:List Oper}{Q:Qs}{ks:List Kt}{fF:Nat->PV}{fL:Nat->Blk}{T T' T2 ty d:Nat}{pos:String}{af:Array Edge}{x y z:Operand}{K:St->Prop}{op:Op}{p:PV}
theorem ecallx{α:Type}{f:FuncId}{a0:PV}{args:List PV}{res:PV}{i k e k2 e2:Nat}{enc:α->List PV}{xs:List α}{u:Value}{as0:Array Operand}{ats:Array TypeId}(h:Fx P H0.g f a0 args res k e enc xs)(hx:evP fF x = .fn f [] [])(ha:evPs fF as0.toList=a0 :: .osl i::args)(hna:Du_ (a0::args)=true)(hb:fL i = .arr u k2 e2 enc xs)(hk:k2=k)(he2:e2=e)(hd:Nat.blt d n=true)
   (kk:res.wf->K ⟨updp (Lz_ i fF) d res,lups (H6_ i fL) i .no⟩):E1 P n N H0 all ⟨some d, .call ⟨.value x,as0,ats⟩,ty,pos,af,none⟩ (some i) ⟨fF,fL⟩ K:=by
 intro F H L hab;subst hk;subst he2;have h1:=(Cm_ hab.f x).sim;rw[hx] at h1;have⟨v1,v2,ex,h2,h3⟩:=h1.inv_fn
 cases h2.inv_nil
 cases h3.inv_nil
 have hsT:=Wr_ (Ls:=fL) (H:=H) (F:=F) (G:=fF) (xs:=as0.toList) λy _=>Cm_ hab.f y;rw[ha] at hsT;have hB:=hab.l i;dsimp only at hB;rw[hb] at hB
 cases hev:evs F as0.toList with
 |nil=>have :=hsT.1;rw[hev] at this;simp at this
 |cons v0 vs1=>cases vs1 with
   |nil=>have :=hsT.1;rw[hev] at this;simp at this
   |cons v1 vs=>
   rw[hev] at hsT
   have h4:=hsT.2 1 _ _ Z Z
   simp only[SimT,hb] at h4
   subst h4
   have h5:Sims H (a0::args) (v0::vs):=by
     exact xI
   have hen:En P (.call ⟨.value x,as0,ats⟩) F f (v0::v1::vs).toArray:=by
     exact yJ
   intro a w hA hm
   rw[if_pos qM]
   unfold BJ
   rw[hA.eval,hen]
   refine (h.run N H L w i v0 v1 vs hab.g hB h5 hm).mono λe' w' ⟨v,H',he,hv,hl,hm'⟩=>?_
   subst he
   exact⟨_,H',_,hA.put qO v,hm',hl,only,_,Abs.put (p:=res) ((hab.mono hl).turn i (B:= .no) (x:=none) U) d (hv.simT h.no),kk hv.wf⟩
end Go.SW.V
namespace Go.SW
variable{P:Program}{n:Nat}{N:Rest}{H0:Env}
end Go.SW
namespace Go.SW.V
open Go.SW
variable{P:Program}{n:Nat}{N:Rest}{H0:Env}{fF:Nat->PV}{fL:Nat->Blk}
end Go.SW.V
namespace Go.SW
variable{P:Program}
def EqI(P:Program)(d:Nat)(e:TypeId)(k:Nat)(xs ys:List Value)(is:List Nat)(r:Bool):Prop:=∀ w,(FW d e k xs.toArray ys.toArray is).run P w = .ok r w
theorem eqv_arr{d n k:Nat}{t e:TypeId}{xs ys:List Value}{r:Bool}(is:List Nat)(hu:P.underlying t=some (.array n e)){de:TypeDesc}(he:P.underlying e=some de)(hk:P.cellsOf e=k)(hr:List.range n=is)(h:EqI P d e k xs ys is r):EqV P (d+1) t (.agg xs.toArray) (.agg ys.toArray) r:=λw=>by
 have⟨i,hi⟩:=info_of_underlying he
 rw[run_equalIn_array w d xs.toArray ys.toArray hu hi,hk,hr]
 exact h w
theorem eqi_nil{d k:Nat}{e:TypeId}{xs ys:List Value}:EqI P d e k xs ys [] true:=λw=>by simp[FW]
theorem eqi_step{d k i:Nat}{e:TypeId}{xs ys:List Value}{is:List Nat}{a b:Value}{r r':Bool}(ha:∀ w,(part e xs.toArray (i*k)).run P w = .ok a w)(hb:∀ w,(part e ys.toArray (i*k)).run P w = .ok b w)(h:EqV P d e a b r)(kk:EqI P d e k xs ys is r'):EqI P d e k xs ys (i::is) (r&&r'):=λw=>by
 simp only[FW,Sem.run_bind,ha w,Result.andThen_ok,hb w,h w]
 cases r
 . simp
 . simpa using kk w
theorem Rb_{d k i:Nat}{e:TypeId}{xs ys:List Value}{is:List Nat}{a b:Value}{r r':Bool}(hg:Ag P e false)(hx:xs[i*k]? = some a)(hy:ys[i*k]? = some b)(h:EqV P d e a b r)(kk:EqI P d e k xs ys is r'):EqI P d e k xs ys (i::is) (r&&r'):=eqi_step (part_1 hg hx) (part_1 hg hy) h kk
theorem eqi_A{d k i:Nat}{e:TypeId}{xs ys vs us:List Value}{is:List Nat}{r r':Bool}(hg:Ag P e true)(hk:Sz P e k)(hx:sub xs (i*k) k=vs)(hy:sub ys (i*k) k=us)(h:EqV P d e (.agg vs.toArray) (.agg us.toArray) r)(kk:EqI P d e k xs ys is r'):EqI P d e k xs ys (i::is) (r&&r'):=eqi_step (part_A hg hk hx) (part_A hg hk hy) h kk
variable{n:Nat}{N:Rest}{H0:Env}
end Go.SW
namespace Go.SW.V
open Go.SW
variable{P:Program}{n:Nat}{N:Rest}{H0:Env}{fF:Nat->PV}{fL:Nat->Blk}
theorem callgF{all rest:List Oper}{Q:Qs}{ks:List Kt}{f:FuncId}{args:List PV}{res:PV}{x:Operand}{xs:Array Operand}{ats:Array TypeId}{ty d j:Nat}{want g:Bool}{pos:String}{af:Array Edge}(hg:gOp ⟨fF,fL⟩ all j want=some g)(h:g=true->Fn P H0.g f args res)(ha:argsP (strG (Mc_ (x::xs.toList)) fF) x xs.toList=some (f,args))(hc:AllP (Rp_ fF g (Mc_ (x::xs.toList)) []))(hno:Ns_ fF (Mc_ (x::xs.toList))=true)(hd:Nat.blt d n=true)
   (k:(g=true->res.wf)->Hd P n N H0 Q (.ops all rest) ks ⟨updp fF d (.gv g res),fL⟩):Hd P n N H0 Q (.ops all (⟨some d, .call ⟨.value x,xs,ats⟩,ty,pos,af,some (j,want)⟩::rest)) ks ⟨fF,fL⟩:=by
 intro F H L hab;have⟨c,b,hy,hge⟩:=Pw_ hab hg;exact ow_gd hy hd (λe=>yY) λe=>yX
end Go.SW.V
namespace Go.SW
def MlOk(m:Mail):Prop:=m.head.length<=8/\0<=m.hops/\m.hops<=4/\m.key.length<=64
def Rm_(l:List Z_):Prop:=(l.map λx=>x.Ah_.id).Pairwise (· < ·)
def LnOk(l:Ax_):Prop:=l.items.length<=64/\(∀ x∈l.items,MlOk x.Ah_)/\Rm_ l.items
def RiOk(x:Al_):Prop:=x.kept.length<=16/\∀ m∈x.kept,m.head.length<=8
def RwsOk(l:List Go_):Prop:=l.length<=8/\(∀ r∈l,LnOk r.l)/\(l.map (·.q.name)).Nodup
def StkOk(s:I_):Prop:=RwsOk s.rows/\(∀ i,i<16->RiOk (s.rises.get i))/\0<=s.bytes/\s.bytes<=1000000
def BkOk(b:A3_):Prop:=b.Bs_.length<=8/\b.binds.length<=32/\∀ y∈b.binds,y.key.length<=1000
def PoOk(p:F_):Prop:=0<p.places.length/\p.places.length<=16/\0<p.slots.length/\p.slots.length<=32/\p.grants.length<=8/\(∀ g∈p.grants,0<=g.frm/\g.frm<p.places.length/\0<=g.to'/\g.to'<p.places.length/\0<=g.budget/\g.budget<=16)/\∀ x∈p.places,0<=x.bytes/\x.bytes<=65536
def PrOk(x:Ab_):Prop:=BkOk x.book/\StkOk x.E_/\x.notes.kept.length<=32/\∀ i,i<8->0<=(x.spent.get i).count/\(x.spent.get i).count<=16
def DdOk(d:G_):Prop:=d.bind.key.length<=1000/\d.bind.want.length<=1000/\d.Ah_.head.length<=1000/\d.Ah_.key.length<=1000
def StOk(s:D_):Prop:=PrOk s.x/\PoOk s.U_/\0<=s.place/\s.place<s.U_.places.length
theorem Tk_:LnOk ⟨[]⟩:=⟨Nat.zero_le _,(λ_ h=>by cases h),List.Pairwise.nil⟩
theorem LnOk.sub{l m:Ax_}(h:LnOk l)(hs:m.items.Sublist l.items):LnOk m:=⟨Nat.le_trans hs.length_le h.1,λx hx=>h.2.1 x (hs.subset hx),h.2.2.sublist (hs.map _)⟩
theorem RwsOk.at{l:List Go_}(h:RwsOk l){k:Nat}{x:Go_}(hx:l[k]? = some x):LnOk x.l:=h.2.1 x (A4 hx)
theorem Nr_{α β:Type}(f:α->β):∀ (l:List α) (k:Nat) (x y:α),l[k]? = some x->f y=f x->(l.set k y).map f=l.map f
 |[],_,_,_,h,_=>by cases h
 |a::r,0,x,y,h,e=>by simp at h;subst h;simp[e]
 |a::r,k+1,x,y,h,e=>by simpa using Nr_ f r k x y pD e
theorem RwsOk.set{l:List Go_}(h:RwsOk l){k:Nat}{x y:Go_}(hx:l[k]? = some x)(hn:y.q.name=x.q.name)(hy:LnOk y.l):RwsOk (l.set k y):=by
 refine⟨by simpa using h.1,λr hr=>?_,?_⟩
 . rcases BO hr with q|q
   exact h.2.1 r q
   exact q ▸ hy
 rw[Nr_ (λr:Go_=>r.q.name) l k x y hx hn];exact h.2.2
theorem RwsOk.sub{l m:List Go_}(h:RwsOk l)(hs:m.Sublist l):RwsOk m:=⟨Nat.le_trans hs.length_le h.1,λr hr=>h.2.1 r (hs.subset hr),(hs.map _).nodup h.2.2⟩
theorem StkOk.set{s:I_}(h:StkOk s){v:Al_}(m:Nat)(hm:m<16)(hv:RiOk v):StkOk {s with rises:=s.rises.set v m}:=by
 refine⟨h.1,λi hi=>?_,h.2.2⟩;show RiOk ((s.rises.set v m).get i);rw[V.A16.get_set _ _ _ _ hm hi]
 split
 exact hv;exact h.2.1 i hi
theorem StOk.stk{s:D_}(h:StOk s):StkOk s.x.E_:=h.1.2.1
end Go.SW
namespace Go.SW.V
open Go.SW
def Ir_(l:List Bs)(s:Bs):(List Bs):=
 (bif decide (s∈l) then
 l
 else (l++[s]))
def C0_(b:A3_)(x:W_):A3_×Int:=
 (bif !decide ((L2_ x)=0) then
 (b,L2_ x)
 else (bif (((Fl_ b.Bs_ x.name).isSome)&&(decide (x=((Fl_ b.Bs_ x.name).getD W_.zero)))) then
 (b,0)
 else (bif (Fl_ b.Bs_ x.name).isSome then
 (b,9)
 else (bif decide (8<=(b.Bs_.length:Int)) then
 (b,12)
 else ((⟨[b.Bs_,[x]].flatten,b.binds⟩:A3_),0)))))
def By_(b:A3_)(x:Q_):Int:=
 (idxP (λz_4:Q_=>decide (x=z_4)) b.binds)
theorem put_len(l:List Bs)(s:Bs):(Ir_ l s).length<=l.length+1:=by
 unfold Ir_
 cases decide (s∈l)<;>simp
theorem there_r(b:A3_)(x:Q_):-1<=By_ b x/\By_ b x<b.binds.length:=Nl_ _ _
def Bv_(b:A3_)(x:Q_):A3_×Int:=
 (bif !((Fl_ b.Bs_ x.Bm_).isSome) then
 (b,10)
 else (bif decide ((((Fl_ b.Bs_ x.Bm_).getD W_.zero).sort)=4) then
 (b,8)
 else (bif !decide ((F1_ x.to')=0) then
 (b,F1_ x.to')
 else (bif !decide ((T4_ (Kp_ x (((Fl_ b.Bs_ x.Bm_).getD W_.zero).sort)))=0) then
 (b,T4_ (Kp_ x (((Fl_ b.Bs_ x.Bm_).getD W_.zero).sort)))
 else lt (By_ b x) λr=>
 (bif decide (0<=r) then
 (b,0)
 else (bif decide (32<=(b.binds.length:Int)) then
 (b,12)
 else ((⟨b.Bs_,[b.binds,[x]].flatten⟩:A3_),0)))))))
def Ct_(b:A3_)(Bm_:Bs)(key:Bs)(h:List Pair):List Q_->List Bs->List Bs->(List Bs)×(List Bs)×Int
 |[],queues,places=>(queues,places,0)
 | x::t,queues,places=>(lt1 ((bif !decide ((x.Bm_)=Bm_) then
 (!decide ((x.Bm_)=Bm_))
 else (!(Uj_ (Kp_ x (((Fl_ b.Bs_ Bm_).getD W_.zero).sort)) key h)))) (λv=>
 (bif v then
 Ct_ b Bm_ key h t queues places
 else (bif x.up then
 lt (Ir_ places (x.to')) λr=>
 Ct_ b Bm_ key h t queues r
 else lt (Ir_ queues (x.to')) λr1=>
 Ct_ b Bm_ key h t r1 places))))
def Ej_(b:A3_)(Bm_:Bs)(key:Bs)(h:List Pair):(List Bs)×(List Bs)×Int:=
 (bif !((Fl_ b.Bs_ Bm_).isSome) then
 ([],[],10)
 else (bif decide ((((Fl_ b.Bs_ Bm_).getD W_.zero).sort)=4) then
 ([],[((Fl_ b.Bs_ Bm_).getD W_.zero).to'],0)
 else Ct_ b Bm_ key h b.binds [] []))
def Hh_(l:List G_):List G_->Bool
 |[]=>(decide ((l.length:Int)<=40))
 | x::t=>(bif !(Te_ x) then
 false
 else Hh_ l t)
def Of_(l:List G_):Bool:=
 Hh_ l l
def Ey_(n:Int)(least:Int)(most:Int):Bool:=
 ((decide (least<=n))&&(decide (n<=most)))
def Ii_(a:Dc_)(b:Dc_):Bool:=
 ((decide (a.level<=b.level))&&(decide ((A0 .u32 ((AF (AC .u32) a.set_ &&& ~~~ AF (AC .u32) b.set_).toNat))=0)))
def Cc_(p:F_)(i:Int):Bool:=
 (Ey_ i 0 ((p.places.length:Int)-1))
def Nu_(x:A8_)(x1:Bs):Bool:=
 (decide (x.name=x1))
def K0_(x:B9_)(x1:Int)(x2:Int):Bool:=
 ((decide (x.frm=x1))&&(decide (x.to'=x2)))
def Lh_(n:B8_):Int:=
 n.total
def Nd_(p:F_)(tick:Int):Int:=
 (tick/(p.slots.length:Int))
def K_(m:Mail):Mail:=
 m
def D0_(m:Mail):Int:=
 ((B0_ m).length:Int)
def Ck_(x:Z_):Z_:=
 lt (K_ x.Ah_) λr=>
 (⟨r,x.Zv_,x.again⟩:Z_)
def line_all(x0:Mail):Bool:=
 true
def Qz_(x:Z_)(x1:Int):Bool:=
 (decide (x.Ah_.id=x1))
def Fe_(l:Ax_):Int:=
 (l.items.length:Int)
def Uo_(m:Mail)(x1:Int):Bool:=
 ((!decide (m.due=0))&&(decide (m.due<=x1)))
def Ku_(x:Z_):Bool:=
 ((!x.Zv_)&&(line_all x.Ah_))
def J3_(x:Z_)(x1:Int):Bool:=
 ((!x.Zv_)&&(Uo_ x.Ah_ x1))
theorem Yn_(m:Mail):0<=D0_ m/\D0_ m<=3000:=by
 have :=Gz_ m;simp only[D0_];omega
def Ed_(p:F_)(from_:Int)(to_:Int):Bool:=
 ((((!decide (from_=to_))&&(Cc_ p from_))&&(Cc_ p to_))&&(Ii_ ((gt p.places ((from_).toNat)).label) ((gt p.places ((to_).toNat)).label)))
def Ac_(p:F_)(name:Bs):Int:=
 (idxP (λz_4:A8_=>(Nu_ z_4 name)) p.places)
def Au_(p:F_)(from_:Int)(to_:Int):Int:=
 (idxP (λz_5:B9_=>(K0_ z_5 from_ to_)) p.grants)
def Ei_(n:B8_)(x:Eb_):B8_×Int:=
 (bif decide (64<(x.text.length:Int)) then
 (n,5)
 else (bif decide (n.total=18446744073709551615) then
 (n,18)
 else ((⟨(A0 .u64 (n.total+1)),(([n.kept,[x]].flatten).drop ((max 0 ((([n.kept,[x]].flatten).length:Int)-32))).toNat)⟩:B8_),0)))
def Kx_(n:B8_)(number:Int):Eb_×Bool:=
 (bif ((decide (number<=(A0 .u64 (n.total-(n.kept.length:Int)))))||(decide (n.total<number))) then
 ((⟨0,0,[]⟩:Eb_),false)
 else ((gt n.kept (((A0 .u64 ((A0 .u64 (number-(A0 .u64 (n.total-(n.kept.length:Int)))))-1))).toNat)),true))
def M7_(n:B8_):(List Eb_):=
 n.kept
def Bo_(l:Ax_)(id:Int):Int:=
 (idxP (λz_4:Z_=>(Qz_ z_4 id)) l.items)
def G2_(l:Ax_)(m:Mail):Int:=
 (bif !decide ((Hs_ m)=0) then
 (Hs_ m)
 else (bif ((decide (0<(l.items.length:Int)))&&(decide (m.id<=((gt l.items ((((l.items.length:Int)-1)).toNat)).Ah_.id)))) then
 13
 else (bif decide (64<=(l.items.length:Int)) then
 12
 else 0)))
def C2_(l:Ax_):Int:=
 (idxP (λz_4:Z_=>(Ku_ z_4)) l.items)
def G3_(l:Ax_)(so:Int):Int:=
 (idxP (λz_4:Z_=>(J3_ z_4 so)) l.items)
theorem W1_{α:Type}[Inhabited α]{p:α->Bool}{l:List α}(h:0<=idxP p l):p (gt l (idxP p l).toNat)=true:=by
 have hb:=Nl_ p l;exact (idxP_get qD (getG (xs:=l) (k:=(idxP p l).toNat) qD)).1
theorem find_b(p:F_)(n:Bs):-1<=Ac_ p n/\Ac_ p n<p.places.length:=Nl_ _ _
theorem grant_b(p:F_)(a b:Int):-1<=Au_ p a b/\Au_ p a b<p.grants.length:=Nl_ _ _
theorem grant_to{p:F_}{a b:Int}(h:0<=Au_ p a b):(gt p.grants (Au_ p a b).toNat).frm=a/\(gt p.grants (Au_ p a b).toNat).to'=b:=by
 have :=W1_ h;simp only[K0_,A5] at this;exact⟨of_decide_eq_true this.1,of_decide_eq_true this.2⟩
theorem lof_b(l:Ax_)(id:Int):-1<=Bo_ l id/\Bo_ l id<l.items.length:=Nl_ _ _
theorem lof_at{l:Ax_}{id:Int}(h:0<=Bo_ l id):(gt l.items (Bo_ l id).toNat).Ah_.id=id:=by
 have :=W1_ h;exact of_decide_eq_true this
theorem V4_(l:Ax_):-1<=C2_ l/\C2_ l<l.items.length:=Nl_ _ _
theorem llate_b(l:Ax_)(t:Int):-1<=G3_ l t/\G3_ l t<l.items.length:=Nl_ _ _
theorem lcheck_ok{l:Ax_}{m:Mail}(h:G2_ l m=0):Hs_ m=0/\l.items.length<64/\(l.items.length=0\/(gt l.items ((l.items.length:Int)-1).toNat).Ah_.id<m.id):=by
 unfold G2_ at h
 cases e1:decide (Hs_ m=0) with
 |false=>rw[e1] at h;simp at h;simp[h] at e1
 |true=>
   rw[e1] at h
   simp only[A2,cond_false] at h
   cases e2:((decide (0<(l.items.length:Int)))&&(decide (m.id<=((gt l.items ((((l.items.length:Int)-1)).toNat)).Ah_.id)))) with
   |true=>rw[e2] at h;cases h
   |false=>
     rw[e2] at h
     cases e3:decide (64<=(l.items.length:Int)) with
     |true=>rw[e3] at h;cases h
     |false=>
       simp only[Bool.and_eq_false_iff,decide_eq_false_iff_not] at e2
       simp at e3 e1
       exact⟨e1,by omega,by omega⟩
theorem mlOk_of{m:Mail}(h:Hs_ m=0)(h0:0<=m.hops):MlOk m:=by
 have⟨_,h2,h3,_,h5⟩:=Mm_ h;exact⟨(Lm_ h3).1,h0,h5,h2⟩
theorem nadd_len{n:B8_}{x:Eb_}(h:n.kept.length<=32):(Ei_ n x).1.kept.length<=32:=by
 unfold Ei_
 cases decide (64<(x.text.length:Int)) with
 |true=>exact h
 |false=>
   cases decide (n.total=18446744073709551615) with
   |true=>exact h
   |false=>simp;omega
theorem gt_set{α:Type}[Inhabited α]{xs:List α}{k:Nat}{y:α}(h:k<xs.length):gt (xs.set k y) k=y:=by
 simp[gt,h]
theorem grant_in{p:F_}(h:PoOk p)(a b:Int):0<=Au_ p a b->0<=b/\b<p.places.length/\0<=(gt p.grants (Au_ p a b).toNat).budget/\(gt p.grants (Au_ p a b).toNat).budget<=16:=λh0=>by
 have hb:=grant_b p a b
 have ht:=grant_to h0
 have hg:=h.2.2.2.2.2.1 _ (A4 (getG (xs:=p.grants) (k:=(Au_ p a b).toNat) qD))
 omega
def F7_(l:Ax_)(x:Z_):Ax_×Int:=
 lt (G2_ l x.Ah_) λr=>
 (bif !decide (r=0) then
 (l,r)
 else lt (Ck_ x) λr1=>
 ((⟨[l.items,[r1]].flatten⟩:Ax_),0))
def C9_(l:Ax_)(m:Mail):Ax_×Int:=
 lt (F7_ l (⟨m,false,false⟩:Z_)) λr=>
 (r.1,r.2)
def Be_(l:Ax_)(id:Int):Ax_×Z_×Int:=
 lt (Bo_ l id) λr=>
 (bif decide (r<0) then
 (l,bC,10)
 else lt (Ck_ (gt l.items ((r).toNat))) λr1=>
 ((⟨[(l.items.take (r).toNat),(l.items.drop ((r+1)).toNat)].flatten⟩:Ax_),r1,0))
def Ep_(l:Ax_)(k:Int):Mail×Bool:=
 (bif decide (k<0) then
 (aJ,false)
 else lt (K_ ((gt l.items ((k).toNat)).Ah_)) λr=>
 (r,true))
def Df_:List Z_->Int->Int
 |[],n=>n
 |x::t,n=>lt (D0_ (x.Ah_)) λr=>
 Df_ t (n+r)
def F4_(l:Ax_):Int:=
 Df_ l.items 0
def E8_(l:Ax_):Ax_×Z_×Bool:=
 lt (C2_ l) λr=>
 (bif decide (r<0) then
 (l,bC,false)
 else lt (Ck_ (gt (l.items.set ((r).toNat) (⟨(gt l.items ((r).toNat)).Ah_,true,(gt l.items ((r).toNat)).again⟩:Z_)) ((r).toNat))) λr1=>
 ((⟨(l.items.set ((r).toNat) (⟨(gt l.items ((r).toNat)).Ah_,true,(gt l.items ((r).toNat)).again⟩:Z_))⟩:Ax_),r1,true))
def F3_(l:Ax_)(id:Int):Ax_×Int:=
 lt (Bo_ l id) λr=>
 (bif decide (r<0) then
 (l,10)
 else (bif !((gt l.items ((r).toNat)).Zv_) then
 (l,13)
 else ((⟨((l.items.set ((r).toNat) (⟨(gt l.items ((r).toNat)).Ah_,false,(gt l.items ((r).toNat)).again⟩:Z_)).set ((r).toNat) (⟨(gt (l.items.set ((r).toNat) (⟨(gt l.items ((r).toNat)).Ah_,false,(gt l.items ((r).toNat)).again⟩:Z_)) ((r).toNat)).Ah_,(gt (l.items.set ((r).toNat) (⟨(gt l.items ((r).toNat)).Ah_,false,(gt l.items ((r).toNat)).again⟩:Z_)) ((r).toNat)).Zv_,true⟩:Z_))⟩:Ax_),0)))
def Dg_:List Z_->Nat->Ax_->Ax_
 |[],k,x=>x
 | x1::t,k,x=>(bif x1.Zv_ then
 Dg_ t (k+1) (⟨((x.items.set k (⟨(gt x.items k).Ah_,false,(gt x.items k).again⟩:Z_)).set k (⟨(gt (x.items.set k (⟨(gt x.items k).Ah_,false,(gt x.items k).again⟩:Z_)) k).Ah_,(gt (x.items.set k (⟨(gt x.items k).Ah_,false,(gt x.items k).again⟩:Z_)) k).Zv_,true⟩:Z_))⟩:Ax_)
 else Dg_ t (k+1) x)
def Fs_(l:Ax_):Ax_:=
 Dg_ l.items 0 l
def C6_(l:Ax_):Mail×Bool:=
 lt (Ep_ l (C2_ l)) λr=>
 (r.1,r.2)
def Gy_(l:Ax_)(tick:Int):Mail×Bool:=
 lt (Ep_ l (G3_ l tick)) λr=>
 (r.1,r.2)
def E7_:List Z_->List Z_->(List Z_)
 |[],out=>out
 |x::t,out=>lt (Ck_ x) λr=>
 E7_ t (out++[r])
def Fv_(l:Ax_):(List Z_):=
 E7_ l.items []
def Da_(x:Al_)(m:Mail):Al_×Int:=
 (bif !decide ((Hs_ m)=0) then
 (x,Hs_ m)
 else (bif decide (x.total=18446744073709551615) then
 (x,18)
 else lt (K_ m) λr=>
 ((⟨(A0 .u64 (x.total+1)),(([x.kept,[r]].flatten).drop ((max 0 ((([x.kept,[r]].flatten).length:Int)-16))).toNat)⟩:Al_),0)))
def K1_(x:Al_)(number:Int):Int×Mail×Bool:=
 (bif decide (x.total<=number) then
 (0,aJ,false)
 else lt (K_ (gt x.kept (((A0 .u64 ((max (A0 .u64 ((A0 .u64 (x.total-(x.kept.length:Int)))+1)) (A0 .u64 (number+1)))-(A0 .u64 ((A0 .u64 (x.total-(x.kept.length:Int)))+1))))).toNat))) λr=>
 ((max (A0 .u64 ((A0 .u64 (x.total-(x.kept.length:Int)))+1)) (A0 .u64 (number+1))),r,true))
def K2_(x:Al_):Int:=
 x.total
def B6_:List Mail->Int->Int
 |[],n=>n
 |x1::t,n=>lt (D0_ x1) λr=>
 B6_ t (n+r)
def Cj_(x:Al_):Int:=
 B6_ x.kept 0
def Bl_(base:Int)(bytes:Int):I_:=
 (⟨base,(max 0 bytes),[],(⟨aR,aR,aR,aR,aR,aR,aR,aR,aR,aR,aR,aR,aR,aR,aR,aR⟩:A16_RiseR)⟩:I_)
def Bw_(q:M_):Int:=
 (bif !decide ((F1_ q.name)=0) then
 (F1_ q.name)
 else (bif ((decide (q.most<1))||(decide (64<q.most))) then
 7
 else (bif !decide (q.dead=[]) then
 (F1_ q.dead)
 else 0)))
def T7_(x:Go_)(x1:Bs):Bool:=
 (decide (x.q.name=x1))
def O_(s:I_)(name:Bs):Int:=
 (idxP (λz_4:Go_=>(T7_ z_4 name)) s.rows)
theorem bt{α:Type}{b:Bool}{x y:α}{P:α->Prop}(h1:b=true->P x)(h2:b=false->P y):P (bif b then x else y):=by
 cases b
 exact h2 Z;exact h1 Z
theorem Yk_{l:List Z_}(h:Rm_ l){i j:Nat}{x y:Z_}(hi:l[i]? = some x)(hj:l[j]? = some y)(hij:i<j):x.Ah_.id<y.Ah_.id:=by
 have h1:=List.pairwise_iff_getElem.1 h i j;obtain⟨a,rfl⟩:=List.getElem?_eq_some_iff.1 hi;obtain⟨b,rfl⟩:=List.getElem?_eq_some_iff.1 hj;have h2:=h1 (by simpa using a) (by simpa using b) hij;rw[CZ,CZ] at h2;exact h2
theorem rising_app{l:List Z_}{x:Z_}(h:Rm_ l)(hx:∀ y,l[l.length-1]? = some y->y.Ah_.id<x.Ah_.id):Rm_ (l++[x]):=by
 unfold Rm_;rw[BK,List.pairwise_append];refine⟨h,by simp,λa ha b hb=>?_⟩;obtain⟨y,hy,rfl⟩:=List.mem_map.1 ha;simp at hb;subst hb;have⟨i,hi⟩:=List.getElem?_of_mem hy;have hil:=(List.getElem?_eq_some_iff.1 hi).1;have hl:=AA (l:=l) (i:=l.length-1) qD;have h1:=hx _ hl;by_cases e:i=l.length-1
 . subst e;rw[hl] at hi;cases hi;exact h1
 exact Int.lt_trans (Yk_ h hi hl qD) h1
theorem lput_ok{l:Ax_}{x:Z_}(h:LnOk l)(h0:0<=x.Ah_.hops):LnOk (F7_ l x).1:=by
 unfold F7_ lt;refine bt (P:=λr:Ax_×Int=>LnOk r.1) (λ_=>h) λe=>?_;simp only[F4,AE,decide_eq_true_eq] at e;have⟨h1,h2,h3⟩:=lcheck_ok e;refine⟨by simp;omega,λy hy=>?_,?_⟩
 . simp[Ck_,lt,K_] at hy
   rcases hy with hy|rfl
   exact h.2.1 y hy
   exact mlOk_of h1 h0
 . show Rm_ ([l.items,[Ck_ x]].flatten)
   simp only[AP,AU,AJ]
   refine rising_app h.2.2 λy hy=>?_
   have hl:=(List.getElem?_eq_some_iff.1 hy).1
   rcases h3 with q|q
   omega
   . have :((l.items.length:Int)-1).toNat=l.items.length-1:=by omega
     rw[this] at q
     rw[getG (xs:=l.items) (k:=l.items.length-1) qD] at hy
     cases hy
     exact q
theorem ladd_ok{l:Ax_}{m:Mail}(h:LnOk l)(h0:0<=m.hops):LnOk (C9_ l m).1:=lput_ok (x:=⟨m,false,false⟩) h h0
theorem Io_:MlOk ⟨0,[],[],[],[],0,0⟩:=⟨by simp,by simp,by simp,by simp⟩
theorem I2_{α:Type}[Inhabited α]{xs:List α}{k:Nat}(h:k<xs.length):gt xs k∈xs:=A4 (getG h)
theorem Ue_{α:Type}(l:List α)(k:Nat):([l.take k,l.drop (k+1)].flatten).Sublist l:=by
 simp only[AP,AU,AJ];have h:l=l.take k++l.drop k:=(B6 k l).symm
 conv=>rhs;rw[h]
 refine List.Sublist.append (List.Sublist.refl _) ?_;rw[<- List.drop_drop];exact List.drop_sublist 1 _
theorem Uu_{l:Ax_}{id:Int}(h:LnOk l):LnOk (Be_ l id).1/\MlOk (Be_ l id).2.1.Ah_:=by
 unfold Be_ lt;refine bt (P:=λr:Ax_×Z_×Int=>LnOk r.1/\MlOk r.2.1.Ah_) (λ_=>⟨h,Io_⟩) λe=>?_;simp only[decide_eq_false_iff_not] at e;have hb:=lof_b l id;refine⟨h.sub ?_,?_⟩;have :(Bo_ l id+1).toNat=(Bo_ l id).toNat+1:=by omega
 rw[this];exact Ue_ _ _;exact h.2.1 _ (I2_ qD)
theorem X0_{l:Ax_}{k:Nat}{y:Z_}(h:LnOk l)(hk:k<l.items.length)(he:y.Ah_=(gt l.items k).Ah_):LnOk ⟨l.items.set k y⟩:=by
 have hm:=h.2.1 _ (I2_ hk);refine⟨by simpa using h.1,λx hx=>?_,?_⟩
 . rcases BO hx with q|q
   exact h.2.1 x q
   subst q;rw[he];exact hm
 show Rm_ (l.items.set k y);unfold Rm_;rw[Nr_ (λx:Z_=>x.Ah_.id) l.items k _ y (getG hk) (by rw[he])];exact h.2.2
theorem llend_ok{l:Ax_}(h:LnOk l):LnOk (E8_ l).1/\MlOk (E8_ l).2.1.Ah_:=by
 unfold E8_ lt;refine bt (P:=λr:Ax_×Z_×Bool=>LnOk r.1/\MlOk r.2.1.Ah_) (λ_=>⟨h,Io_⟩) λe=>?_;simp only[decide_eq_false_iff_not] at e;have hb:=V4_ l;have hm:=h.2.1 _ (I2_ (xs:=l.items) (k:=(C2_ l).toNat) qD);refine⟨X0_ h qD Z,?_⟩;simp only[Ck_,lt,K_];rw[gt_set qD];exact hm
theorem lback_ok{l:Ax_}{id:Int}(h:LnOk l):LnOk (F3_ l id).1:=by
 unfold F3_ lt;refine bt (P:=λr:Ax_×Int=>LnOk r.1) (λ_=>h) λe=>bt (P:=λr:Ax_×Int=>LnOk r.1) (λ_=>h) λ_=>?_;simp only[decide_eq_false_iff_not] at e;have hb:=lof_b l id;exact zG
theorem X3_:∀ (t:List Z_) (k:Nat) (l:Ax_),LnOk l->k+t.length<=l.items.length->LnOk (Dg_ t k l)
 |[],_,_,h,_=>h
 |x::t,k,l,h,hk=>by
   simp only[A3] at hk
   unfold Dg_
   refine bt (P:=LnOk) (λ_=>X3_ t (k+1) _ ?_ qQ) (λ_=>X3_ t (k+1) l h qD)
   exact zG
theorem lwake_ok{l:Ax_}(h:LnOk l):LnOk (Fs_ l):=X3_ l.items 0 l h qD
theorem ltold_ok{l:Ax_}{k:Int}(h:LnOk l)(hk:k<l.items.length):MlOk (Ep_ l k).1:=by
 unfold Ep_ lt;refine bt (P:=λr:Mail×Bool=>MlOk r.1) (λ_=>Io_) λe=>?_;simp only[decide_eq_false_iff_not] at e;exact h.2.1 _ (I2_ qD)
theorem llate_ok{l:Ax_}{t:Int}(h:LnOk l):MlOk (Gy_ l t).1:=ltold_ok h (llate_b l t).2
theorem lsize_r0:∀ (t:List Z_) (n:Int),n<=Df_ t n/\Df_ t n<=n+3000*t.length
 |[],n=>⟨Int.le_refl _,by simp[Df_]⟩
 |x::t,n=>by
   have h:=Yn_ x.Ah_
   have hi:=lsize_r0 t (n+D0_ x.Ah_)
   simp only[Df_,lt,A3]
   omega
theorem lsize_r(l:Ax_):0<=F4_ l/\F4_ l<=3000*l.items.length:=by
 have :=lsize_r0 l.items 0;simp only[F4_];omega
theorem rsize_r0:∀ (t:List Mail) (n:Int),n<=B6_ t n/\B6_ t n<=n+3000*t.length
 |[],n=>⟨Int.le_refl _,by simp[B6_]⟩
 |x::t,n=>by
   have h:=Yn_ x
   have hi:=rsize_r0 t (n+D0_ x)
   simp only[B6_,lt,A3]
   omega
theorem rsize_r(x:Al_):0<=Cj_ x/\Cj_ x<=3000*x.kept.length:=by
 have :=rsize_r0 x.kept 0;simp only[Cj_];omega
theorem rput_ok{x:Al_}{m:Mail}(h:RiOk x):RiOk (Da_ x m).1:=by
 unfold Da_ lt;refine bt (P:=λr:Al_×Int=>RiOk r.1) (λ_=>h) λe=>bt (P:=λr:Al_×Int=>RiOk r.1) (λ_=>h) λ_=>?_;simp only[F4,AE,decide_eq_true_eq] at e;have hm:=(Lm_ (Mm_ e).2.2.1).1;refine⟨by simp;omega,λy hy=>?_⟩;have hy:=AX hy;simp[K_] at hy
 rcases hy with hy|rfl
 exact h.2 y hy;exact hm
theorem at_b(s:I_)(n:Bs):-1<=O_ s n/\O_ s n<s.rows.length:=Nl_ _ _
theorem at_n{s:I_}{n:Bs}(h:0<=O_ s n):(gt s.rows (O_ s n).toNat).q.name=n:=by
 have :=W1_ h;exact of_decide_eq_true this
def Bb_(s:I_)(q:M_):I_×Int:=
 lt (Bw_ q) λr=>
 (bif !decide (r=0) then
 (s,r)
 else lt (O_ s q.name) λr1=>
 (bif ((decide (0<=r1))&&(decide ((gt s.rows ((r1).toNat)).q=q))) then
 (s,0)
 else (bif decide (0<=r1) then
 (s,9)
 else (bif decide (8<=(s.rows.length:Int)) then
 (s,12)
 else ((⟨s.next,s.bytes,[s.rows,[(⟨q,bE⟩:Go_)]].flatten,s.rises⟩:I_),0)))))
def Bz_(s:I_)(name:Bs):I_×Int:=
 lt (O_ s name) λr=>
 (bif decide (r<0) then
 (s,10)
 else ((⟨s.next,s.bytes,[(s.rows.take (r).toNat),(s.rows.drop ((r+1)).toNat)].flatten,s.rises⟩:I_),0))
def Av_(s:I_)(name:Bs):M_×Bool:=
 lt (O_ s name) λr=>
 (bif decide (r<0) then
 (aM,false)
 else ((gt s.rows ((r).toNat)).q,true))
def D7_:List Go_->List M_->(List M_)
 |[],out=>out
 |x::t,out=>D7_ t (out++[x.q])
def A9_(s:I_):(List M_):=
 D7_ s.rows []
def Ak_(s:I_)(k:Int)(l:Ax_):I_:=
 (⟨s.next,s.bytes,(s.rows.set ((k).toNat) (⟨(gt s.rows ((k).toNat)).q,l⟩:Go_)),s.rises⟩:I_)
def Dq_(s:I_):Nat->Int->Nat->Int
 |0,_,_=>default
 | f2+1,n1,v=>(bif decide ((v:Int)<16) then
 lt (Cj_ (A16.get s.rises v)) λr1=>
 Dq_ s f2 (n1+r1) (v+1)
 else n1)
def Cu_(s:I_):List Go_->Int->Int
 |[],n=>Dq_ s (16-0+1) n 0
 |x::t,n=>lt (F4_ (x.l)) λr=>
 Cu_ s t (n+r)
def Dk_(s:I_):Int:=
 Cu_ s s.rows 0
def Mb_(s:I_):Int:=
 s.next
theorem ksize1{s:I_}(h:∀ i,i<16->RiOk (s.rises.get i)):∀ (f:Nat) (n:Int) (v:Nat),16<f+v->v<=16->n<=Dq_ s f n v/\Dq_ s f n v<=n+48000*(16-v)
 |0,n,v,h1,h2=>by omega
 |f+1,n,v,h1,h2=>by
   unfold Dq_ lt
   refine bt (P:=λr:Int=>n<=r/\r<=n+48000*(16-(v:Int))) (λe=>?_) λe=>⟨Int.le_refl _,by omega⟩
   simp only[decide_eq_true_eq] at e
   have hr:=rsize_r (s.rises.get v)
   have hk:=(h v qD).1
   have hi:=ksize1 h f (n+Cj_ (s.rises.get v)) (v+1) qD qD
   dsimp only
   omega
theorem ksize0{s:I_}(h:∀ i,i<16->RiOk (s.rises.get i)):∀ (t:List Go_) (n:Int),(∀ r∈t,LnOk r.l)->n<=Cu_ s t n/\Cu_ s t n<=n+192000*t.length+768000
 |[],n,_=>by
   have :=ksize1 h (16-0+1) n 0 qD qD
   simp only[Cu_,A6];omega
 |x::t,n,hl=>by
   have hr:=lsize_r x.l
   have hk:=(hl x (AG ..)).1
   have hi:=ksize0 h t (n+F4_ x.l) λr hr=>hl r (AB _ hr)
   simp only[Cu_,lt,A3]
   omega
theorem ksize_r(s:I_)(h:StkOk s):0<=Dk_ s/\Dk_ s<=2304000:=by
 have :=ksize0 h.2.1 s.rows 0 h.1.2.1;have :=h.1.1;simp only[Dk_];omega
theorem at_neg{s:I_}{n:Bs}(h:O_ s n<0):∀ x∈s.rows,x.q.name≠n:=λx hx e=>by
 have :=S5_ h
 rw[FP] at this
 exact this x hx (decide_eq_true e)
theorem Qw_{s:I_}{q:M_}(h:StkOk s):StkOk (Bb_ s q).1:=by
 unfold Bb_ lt;refine bt (P:=λr:I_×Int=>StkOk r.1) (λ_=>h) λ_=>bt (P:=λr:I_×Int=>StkOk r.1) (λ_=>h) λ_=>bt (P:=λr:I_×Int=>StkOk r.1) (λ_=>h) λe=>bt (P:=λr:I_×Int=>StkOk r.1) (λ_=>h) λe1=>?_;simp only[decide_eq_false_iff_not] at e e1;have hn:=at_neg (s:=s) (n:=q.name) qD;refine⟨⟨by simp;omega,λr hr=>?_,?_⟩,h.2⟩
 . simp at hr
   rcases hr with hr|rfl
   exact h.1.2.1 r hr
   exact Tk_
 simp only[AP,AU,AJ,BK,BC,DC];rw[List.nodup_append];refine⟨h.1.2.2,by simp,λa ha b hb=>?_⟩;obtain⟨x,hx,rfl⟩:=List.mem_map.1 ha;rw[List.mem_singleton.1 hb];exact hn x hx
theorem kdrop_ok{s:I_}{n:Bs}(h:StkOk s):StkOk (Bz_ s n).1:=by
 unfold Bz_ lt;refine bt (P:=λr:I_×Int=>StkOk r.1) (λ_=>h) λe=>?_;simp only[decide_eq_false_iff_not] at e;have :(O_ s n+1).toNat=(O_ s n).toNat+1:=by omega
 refine⟨h.1.sub ?_,h.2⟩;show List.Sublist [s.rows.take _,s.rows.drop _].flatten _;rw[this];exact Ue_ _ _
theorem Qx_{s:I_}{k:Int}{l:Ax_}(h:StkOk s)(hl:LnOk l)(hk:0<=k/\k<s.rows.length):StkOk (Ak_ s k l):=
 ⟨h.1.set (getG qD) Z hl,h.2⟩
theorem kroom_r0{s:I_}(h:StkOk s):-2304000<=s.bytes-Dk_ s/\s.bytes-Dk_ s<=1000000:=by
 have :=ksize_r s h;have :=h.2.2;omega
theorem S9_(s:I_)(k:Int)(l:Ax_):(Ak_ s k l).rows.length=s.rows.length:=by simp[Ak_]
def Ek_(s:I_):Int:=
 (s.bytes-(Dk_ s))
theorem kroom_r(s:I_)(h:StkOk s):-2304000<=Ek_ s/\Ek_ s<=1000000:=kroom_r0 h
def B4_(s:I_)(name:Bs)(m:Mail):I_×Int×Mail×Int:=
 lt (O_ s name) λr=>
 (bif decide (r<0) then
 (s,0,aJ,10)
 else (bif !decide ((Hs_ m)=0) then
 (s,0,aJ,Hs_ m)
 else (bif decide (s.next = 0) then
 (s,0,aJ,18)
 else (lp2 ((bif decide (((gt s.rows ((r).toNat)).q.most)<=(A0 .u64 (Fe_ ((gt s.rows ((r).toNat)).l)))) then
 lt (C6_ ((gt s.rows ((r).toNat)).l)) λr1=>
 (bif !r1.2 then
 .ret (s,0,aJ,12)
 else lt (Be_ ((gt s.rows ((r).toNat)).l) r1.1.id) λr2=>
 .fin (r2.1,r1.1))
 else .fin ((gt s.rows ((r).toNat)).l,aJ))) (λx x1=>
 (bif decide (((Ek_ s)+(D0_ x1))<(D0_ (⟨s.next,m.Bm_,m.key,m.head,m.body,m.due,m.hops⟩:Mail))) then
 (s,0,aJ,12)
 else lt (C9_ x (⟨s.next,m.Bm_,m.key,m.head,m.body,m.due,m.hops⟩:Mail)) λr3=>
 (bif !decide (r3.2=0) then
 (s,0,aJ,r3.2)
 else lt (Ak_ s r r3.1) λr4=>
 ((⟨(A0 .u64 (r4.next + 1)),r4.bytes,r4.rows,r4.rises⟩:I_),s.next,x1,0)))) (λr=>r)))))
def Dj_(s:I_)(name:Bs):I_×Z_×Bool:=
 lt (O_ s name) λr=>
 (bif decide (r<0) then
 (s,bC,false)
 else lt (E8_ ((gt s.rows ((r).toNat)).l)) λr1=>
 lt (Ak_ s r r1.1) λr2=>
 (r2,r1.2.1,r1.2.2))
def Dx_(s:I_)(name:Bs)(id:Int):I_×Int:=
 lt (O_ s name) λr=>
 (bif decide (r<0) then
 (s,10)
 else lt (F3_ ((gt s.rows ((r).toNat)).l) id) λr1=>
 lt (Ak_ s r r1.1) λr2=>
 (r2,r1.2))
def Ba_(s:I_)(name:Bs)(id:Int):I_×Z_×Int:=
 lt (O_ s name) λr=>
 (bif decide (r<0) then
 (s,bC,10)
 else lt (Be_ ((gt s.rows ((r).toNat)).l) id) λr1=>
 lt (Ak_ s r r1.1) λr2=>
 (r2,r1.2.1,r1.2.2))
def Cp_(s:I_)(place:Int)(m:Mail):I_×Int:=
 (bif ((decide (place<0))||(decide (16<=place))) then
 (s,7)
 else lt (Da_ (A16.get s.rises ((place).toNat)) m) λr=>
 (bif !decide (r.2=0) then
 (s,r.2)
 else (bif decide (s.bytes<(((Dk_ s)-(Cj_ (A16.get s.rises ((place).toNat))))+(Cj_ (r.1)))) then
 (s,12)
 else ((⟨s.next,s.bytes,s.rows,(A16.set s.rises (r.1) ((place).toNat))⟩:I_),0))))
def Cd_(tick:Int):List Go_->Bs×Mail×Bool
 |[]=>([],aJ,false)
 |x::t=>lt (Gy_ (x.l) tick) λr=>
 (bif r.2 then
 (x.q.name,r.1,true)
 else Cd_ tick t)
def Bf_(s:I_)(tick:Int):Bs×Mail×Bool:=
 Cd_ tick s.rows
def Cv_:List Go_->Nat->I_->I_
 |[],k,x=>x
 |x1::t,k,x=>lt (Fs_ (x1.l)) λr=>
 lt (Ak_ x (k:Int) r) λr1=>
 Cv_ t (k+1) r1
def Fx_(s:I_):I_:=
 Cv_ s.rows 0 s
def LoP{σ ρ:Type}(I:σ->Prop)(R:ρ->Prop):Lo σ ρ->Prop
 | .fin s=>I s
 | .ret r=>R r
theorem lp0E{ρ β:Type}{P:β->Prop}{o:Lo Unit ρ}{f:β}{g:ρ->β}(I:Unit->Prop)(ho:LoP I (λr=>P (g r)) o)(hf:I ()->P f):P (lp0 o f g):=by
 cases o with
 |fin s=>exact hf ho
 |ret r=>exact ho
theorem lp1E{σ ρ β:Type}{P:β->Prop}{o:Lo σ ρ}{f:σ->β}{g:ρ->β}(I:σ->Prop)(ho:LoP I (λr=>P (g r)) o)(hf:∀ a,I a->P (f a)):P (lp1 o f g):=by
 cases o with
 |fin s=>exact hf _ ho
 |ret r=>exact ho
theorem lp2E{σ τ ρ β:Type}{P:β->Prop}{o:Lo (σ×τ) ρ}{f:σ->τ->β}{g:ρ->β}(I:σ×τ->Prop)(ho:LoP I (λr=>P (g r)) o)(hf:∀ a b,I (a,b)->P (f a b)):P (lp2 o f g):=by
 cases o with
 |fin s=>exact hf _ _ ho
 |ret r=>exact ho
def wtm(m:Mail):Nat:=33 ^ (5-m.hops.toNat)
def wtl(l:List Z_):Nat:=(l.map λx=>wtm x.Ah_).sum
def wtk(s:I_):Nat:=(s.rows.map λr=>wtl r.l.items).sum
def wto(l:List H1_):Nat:=(l.map λx=>wtm x.Ah_).sum
def wt1(m:Mail):Nat:=bif decide (m.Bm_=[]) then 0 else wtm m
theorem sum_cut{α:Type}[Inhabited α](f:α->Nat)(l:List α)(k:Nat)(h:k<l.length):(([l.take k,l.drop (k+1)].flatten).map f).sum+f (gt l k)=(l.map f).sum:=by
 have e:l=l.take k++(gt l k::l.drop (k+1)):=by
   conv=>lhs;rw[<- B6 k l]
   congr 1
   rw[List.drop_eq_getElem_cons h]
   congr 1
   simp[gt,h]
 grind
theorem sum_set{α:Type}[Inhabited α](f:α->Nat):∀ (l:List α) (k:Nat) (y:α),k<l.length->((l.set k y).map f).sum+f (gt l k)=(l.map f).sum+f y
 |[],k,y,h=>by cases h
 |a::r,0,y,h=>by simp[gt];omega
 |a::r,k+1,y,h=>by
   have :=sum_set f r k y pD
   simp only[List.set_cons_succ,BC,EL]
   have e:gt (a::r) (k+1)=gt r k:=by simp[gt]
   rw[e];omega
theorem lof_self{l:Ax_}(h:LnOk l){k:Nat}(hk:k<l.items.length):Bo_ l (gt l.items k).Ah_.id=k:=by
 have h0:0<=Bo_ l (gt l.items k).Ah_.id:=by
   refine Int.not_lt.1 λq=>?_
   have :=S5_ q
   rw[FP] at this
   exact this _ (I2_ hk) (decide_eq_true Z)
 have hb:=lof_b l (gt l.items k).Ah_.id;have ha:=lof_at h0;obtain⟨j,hj⟩:∃ j:Nat,Bo_ l (gt l.items k).Ah_.id=j:=⟨_,(CM h0).symm⟩;rw[hj] at ha hb ⊢;simp only[AI] at ha;have hjl:j<l.items.length:=by omega
 rcases Nat.lt_trichotomy j k with q|q|q
 have :=Yk_ h.2.2 (getG hjl) (getG hk) q;omega;rw[q];have :=Yk_ h.2.2 (getG hk) (getG hjl) q;omega
theorem lfirst_at{l:Ax_}(h:(C6_ l).2=true):∃ k:Nat,k<l.items.length/\(C6_ l).1=(gt l.items k).Ah_:=by
 have hb:=V4_ l;unfold C6_ lt Ep_ lt at h ⊢;dsimp only at h ⊢
 cases e:decide (C2_ l<0) with
 |true=>rw[e] at h;cases h
 |false=>
   simp only[decide_eq_false_iff_not] at e
   exact⟨(C2_ l).toNat,by omega,rfl⟩
theorem lremove_w{l:Ax_}(h:LnOk l){k:Nat}(hk:k<l.items.length):wtl (Be_ l (gt l.items k).Ah_.id).1.items+wtm (gt l.items k).Ah_=wtl l.items:=by
 unfold Be_ lt;dsimp only;rw[lof_self h hk];have e:decide ((k:Int)<0)=false:=by simp
 rw[e];have :=sum_cut (λx:Z_=>wtm x.Ah_) l.items k hk;exact this
theorem ladd_w{l:Ax_}{m:Mail}(h:(C9_ l m).2=0):wtl (C9_ l m).1.items=wtl l.items+wtm m:=by
 unfold C9_ F7_ lt at h ⊢;dsimp only at h ⊢
 cases e:decide (G2_ l m=0) with
 |false=>rw[e] at h;simp at h;simp[h] at e
 |true=>
   simp[wtl,Ck_,lt,K_]
theorem kwith_w{s:I_}{k:Int}{l:Ax_}(hk:0<=k/\k<s.rows.length):wtk (Ak_ s k l)+wtl (gt s.rows k.toNat).l.items=wtk s+wtl l.items:=
 sum_set (λr:Go_=>wtl r.l.items) s.rows k.toNat ⟨(gt s.rows k.toNat).q,l⟩ qD
theorem kput_ok{s:I_}{n:Bs}{m:Mail}(h:StkOk s)(h0:0<=m.hops):StkOk (B4_ s n m).1/\MlOk (B4_ s n m).2.2.1/\((B4_ s n m).2.2.2=0->Hs_ m=0/\wtk (B4_ s n m).1+wt1 (B4_ s n m).2.2.1<=wtk s+wtm m):=by
 unfold B4_ lt;let Q:I_×Int×Mail×Int->Prop:=λr=>StkOk r.1/\MlOk r.2.2.1/\(r.2.2.2=0->Hs_ m=0/\wtk r.1+wt1 r.2.2.1<=wtk s+wtm m);have hno:∀ e:Int,e≠0->Q (s,0,⟨0,[],[],[],[],0,0⟩,e):=λe he=>⟨h,Io_,λq=>(he q).elim⟩;refine bt (P:=Q) (λ_=>hno _ qF) λe=>bt (P:=Q) (λe=>hno _ pJ) λec=>bt (P:=Q) (λ_=>hno _ qF) λ_=>?_;simp only[decide_eq_false_iff_not] at e;have ec':Hs_ m=0:=by simpa using ec
 have hb:=at_b s n;obtain⟨k,hk⟩:∃ k:Nat,O_ s n=k:=⟨_,(CM qD).symm⟩;rw[hk] at hb ⊢;simp only[AI];have hl:LnOk (gt s.rows k).l:=RwsOk.at h.1 (getG qD);refine lp2E (P:=Q) (λq=>LnOk q.1/\MlOk q.2/\wtl q.1.items+wt1 q.2<=wtl (gt s.rows k).l.items) ?_ λx x1 hx=>?_;refine bt (P:=LoP _ _) (λ_=>?_) λ_=>⟨hl,Io_,by simp[wt1]⟩;refine bt (P:=LoP _ _) (λ_=>hno _ qF) λe2=>?_;have⟨j,hj,he⟩:=lfirst_at (l:=(gt s.rows k).l) (by simpa using e2);have hw:=lremove_w hl hj;show LnOk _/\MlOk _/\_;rw[he];refine⟨(Uu_ hl).1,hl.2.1 _ (I2_ hj),?_⟩;have :wt1 (gt (gt s.rows k).l.items j).Ah_<=wtm (gt (gt s.rows k).l.items j).Ah_:=by
   unfold wt1
   grind
 simp only;omega;have⟨hx1,hx2,hx3⟩:=hx;refine bt (P:=Q) (λ_=>hno _ qF) λ_=>bt (P:=Q) (λe3=>hno _ (by simpa using e3)) λe3=>?_;have e3':(C9_ x ⟨s.next,m.Bm_,m.key,m.head,m.body,m.due,m.hops⟩).2=0:=by simpa using e3
 have ha:=ladd_w e3';have hok:=ladd_ok (l:=x) (m:=⟨s.next,m.Bm_,m.key,m.head,m.body,m.due,m.hops⟩) hx1 h0;have hw:=kwith_w (s:=s) (k:=(k:Int)) (l:=(C9_ x ⟨s.next,m.Bm_,m.key,m.head,m.body,m.due,m.hops⟩).1) qD;have hs:=Qx_ (k:=(k:Int)) h hok qD;refine⟨hs,hx2,λ_=>⟨ec',?_⟩⟩;simp only[AI] at hw;show wtk (Ak_ s k _)+wt1 x1<=_;have he:wtm ⟨s.next,m.Bm_,m.key,m.head,m.body,m.due,m.hops⟩=wtm m:=rfl;grind
theorem klend_ok{s:I_}{n:Bs}(h:StkOk s):StkOk (Dj_ s n).1/\MlOk (Dj_ s n).2.1.Ah_:=by
 unfold Dj_ lt;refine bt (P:=λr:I_×Z_×Bool=>StkOk r.1/\MlOk r.2.1.Ah_) (λ_=>⟨h,Io_⟩) λe=>?_;simp only[decide_eq_false_iff_not] at e;have hb:=at_b s n;have hl:=llend_ok (RwsOk.at h.1 (getG (xs:=s.rows) (k:=(O_ s n).toNat) qD));exact⟨Qx_ h hl.1 qD,hl.2⟩
theorem kback_ok{s:I_}{n:Bs}{id:Int}(h:StkOk s):StkOk (Dx_ s n id).1:=by
 unfold Dx_ lt;refine bt (P:=λr:I_×Int=>StkOk r.1) (λ_=>h) λe=>?_;simp only[decide_eq_false_iff_not] at e;have hb:=at_b s n;exact Qx_ h (lback_ok (RwsOk.at h.1 (getG (xs:=s.rows) (k:=(O_ s n).toNat) qD))) qD
theorem Kl_{s:I_}{n:Bs}{id:Int}(h:StkOk s):StkOk (Ba_ s n id).1/\MlOk (Ba_ s n id).2.1.Ah_:=by
 unfold Ba_ lt;refine bt (P:=λr:I_×Z_×Int=>StkOk r.1/\MlOk r.2.1.Ah_) (λ_=>⟨h,Io_⟩) λe=>?_;simp only[decide_eq_false_iff_not] at e;have hb:=at_b s n;have hl:=Uu_ (id:=id) (RwsOk.at h.1 (getG (xs:=s.rows) (k:=(O_ s n).toNat) qD));exact⟨Qx_ h hl.1 qD,hl.2⟩
theorem kraise_ok{s:I_}{p:Int}{m:Mail}(h:StkOk s):StkOk (Cp_ s p m).1/\(Cp_ s p m).1.rows=s.rows:=by
 unfold Cp_ lt;let Q:I_×Int->Prop:=λr=>StkOk r.1/\r.1.rows=s.rows;refine bt (P:=Q) (λ_=>⟨h,rfl⟩) λe=>bt (P:=Q) (λ_=>⟨h,rfl⟩) λ_=>bt (P:=Q) (λ_=>⟨h,rfl⟩) λ_=>?_;simp only[AO,decide_eq_false_iff_not] at e;exact⟨h.set p.toNat qD (rput_ok (h.2.1 _ qD)),rfl⟩
theorem kwake_ok0:∀ (t:List Go_) (k:Nat) (s:I_),StkOk s->(∀ r∈t,LnOk r.l)->k+t.length<=s.rows.length->StkOk (Cv_ t k s)
 |[],_,_,h,_,_=>h
 |x::t,k,s,h,hl,hk=>by
   simp only[A3] at hk
   unfold Cv_ lt
   refine kwake_ok0 t (k+1) _ (Qx_ h (lwake_ok (hl x (AG ..))) qD) (λr hr=>hl r (AB _ hr)) ?_
   simp[Ak_];omega
theorem kwake_ok{s:I_}(h:StkOk s):StkOk (Fx_ s):=kwake_ok0 s.rows 0 s h h.1.2.1 qD
theorem klate_ok0{t:Int}:∀ (l:List Go_),(∀ r∈l,LnOk r.l)->MlOk (Cd_ t l).2.1
 |[],_=>Io_
 |x::l,h=>by
   unfold Cd_ lt
   refine bt (P:=λr:Bs×Mail×Bool=>MlOk r.2.1) (λ_=>llate_ok (h x (AG ..))) (λ_=>klate_ok0 l λr hr=>h r (AB _ hr))
theorem V2_{s:I_}{t:Int}(h:StkOk s):MlOk (Bf_ s t).2.1:=klate_ok0 s.rows h.1.2.1
def Dm_(so_p:Q_->Bool):List Q_->List Q_->(List Q_)
 |[],out=>out
 | x::t,out=>(bif so_p x then
 Dm_ so_p t (out++[x])
 else Dm_ so_p t out)
def Ho_(b:A3_)(so_p:Q_->Bool):(List Q_):=
 Dm_ so_p b.binds []
def Kh_(x:Q_)(x1:Bs):Bool:=
 (x.up||(!decide (x.to'=x1)))
def D1_(b:A3_)(queue:Bs):A3_:=
 lt (Ho_ b (λz_5:Q_=>(Kh_ z_5 queue))) λr=>
 (⟨b.Bs_,r⟩:A3_)
def D9_(x:W_)(x1:Bs):Bool:=
 (decide (x.name=x1))
def N7_(x:Q_)(x1:Bs):Bool:=
 (!decide (x.Bm_=x1))
def Ft_(b:A3_)(name:Bs):A3_×Int:=
 (bif decide ((idxP (λz_5:W_=>(D9_ z_5 name)) b.Bs_)<0) then
 (b,10)
 else lt (Ho_ (⟨[(b.Bs_.take (idxP (λz_5:W_=>(D9_ z_5 name)) b.Bs_).toNat),(b.Bs_.drop (((idxP (λz_5:W_=>(D9_ z_5 name)) b.Bs_)+1)).toNat)].flatten,b.binds⟩:A3_) (λz_18:Q_=>(N7_ z_18 name))) λr=>
 ((⟨[(b.Bs_.take (idxP (λz_5:W_=>(D9_ z_5 name)) b.Bs_).toNat),(b.Bs_.drop (((idxP (λz_5:W_=>(D9_ z_5 name)) b.Bs_)+1)).toNat)].flatten,r⟩:A3_),0))
def Er_(b:A3_)(x:Q_):A3_×Int:=
 lt (By_ b x) λr=>
 (bif decide (r<0) then
 (b,10)
 else ((⟨b.Bs_,[(b.binds.take (r).toNat),(b.binds.drop ((r+1)).toNat)].flatten⟩:A3_),0))
def Aw_(p:F_)(place:Int)(x:Ab_):D_:=
 (⟨x,p,place⟩:D_)
def At_(p:F_)(place:Int):D_:=
 lt (Bl_ ((gt p.places ((place).toNat)).base) ((gt p.places ((place).toNat)).bytes)) λr=>
 lt (Aw_ p place (⟨aV,r,bD,(⟨0,0,0,0,0,0,0,0,0,0,0,0,0,0,0,0⟩:A16_u64),(⟨aK,aK,aK,aK,aK,aK,aK,aK⟩:A8_SpentR)⟩:Ab_)) λr1=>
 r1
def K4_(own:Int)(tick:Int)(life:Int):Int:=
 (bif ((decide (life=0))||(decide ((A0 .u64 (18446744073709551615-tick))<life))) then
 own
 else (bif decide (own=0) then
 (A0 .u64 (tick+life))
 else (min own (A0 .u64 (tick+life)))))
def S_(s:D_):Ab_:=
 s.x
def C4_(s:D_)(tick:Int)(kind:Int)(text:Bs):D_:=
 lt (Ei_ s.x.notes (⟨tick,kind,text⟩:Eb_)) λr=>
 (⟨(⟨s.x.book,s.x.E_,r.1,s.x.seen,s.x.spent⟩:Ab_),s.U_,s.place⟩:D_)
theorem keep_eq0(p:Q_->Bool):∀ (t out:List Q_),Dm_ p t out=out++t.filter p
 |[],out=>by simp[Dm_]
 |x::t,out=>by
   unfold Dm_
   cases e:p x with
   |true=>simp[keep_eq0 p t,e]
   |false=>simp[keep_eq0 p t,e]
theorem keep_eq(b:A3_)(p:Q_->Bool):Ho_ b p=b.binds.filter p:=by simp[Ho_,keep_eq0]
theorem bk_filter{b:A3_}(h:BkOk b){p:Q_->Bool}{l:List W_}(hl:l.length<=8):BkOk ⟨l,b.binds.filter p⟩:=
 ⟨hl,AZ (List.length_filter_le ..) h.2.1,λy hy=>h.2.2 y (List.mem_filter.1 hy).1⟩
theorem bforget_ok{b:A3_}{q:Bs}(h:BkOk b):BkOk (D1_ b q):=by
 unfold D1_ lt;rw[keep_eq];exact bk_filter h h.1
theorem bdrop_ok{b:A3_}{n:Bs}(h:BkOk b):BkOk (Ft_ b n).1:=by
 unfold Ft_ lt;refine bt (P:=λr:A3_×Int=>BkOk r.1) (λ_=>h) λe=>?_;simp only[decide_eq_false_iff_not] at e;dsimp only;rw[keep_eq];refine bk_filter h ?_;have hs:=h.1;have hc:=(Ue_ b.Bs_ (idxP (λz_5:W_=>D9_ z_5 n) b.Bs_).toNat).length_le;have :(idxP (λz_5:W_=>D9_ z_5 n) b.Bs_+1).toNat=(idxP (λz_5:W_=>D9_ z_5 n) b.Bs_).toNat+1:=by omega
 rw[this];omega
theorem bunbind_ok{b:A3_}{x:Q_}(h:BkOk b):BkOk (Er_ b x).1:=by
 unfold Er_ lt;refine bt (P:=λr:A3_×Int=>BkOk r.1) (λ_=>h) λe=>?_;simp only[decide_eq_false_iff_not] at e;have hc:=Ue_ b.binds (By_ b x).toNat;have :(By_ b x+1).toNat=(By_ b x).toNat+1:=by omega
 dsimp only;rw[this];exact⟨h.1,AZ hc.length_le h.2.1,λy hy=>h.2.2 y (hc.subset hy)⟩
theorem bmake_ok{b:A3_}{x:W_}(h:BkOk b):BkOk (C0_ b x).1:=by
 unfold C0_;refine bt (P:=λr:A3_×Int=>BkOk r.1) (λ_=>h) λ_=>bt (P:=λr:A3_×Int=>BkOk r.1) (λ_=>h) λ_=>bt (P:=λr:A3_×Int=>BkOk r.1) (λ_=>h) λ_=>bt (P:=λr:A3_×Int=>BkOk r.1) (λ_=>h) λe=>?_;simp only[decide_eq_false_iff_not] at e;exact⟨by simp;omega,h.2⟩
theorem bbind_ok{b:A3_}{x:Q_}(h:BkOk b)(hx:x.key.length<=1000):BkOk (Bv_ b x).1:=by
 unfold Bv_ lt;refine bt (P:=λr:A3_×Int=>BkOk r.1) (λ_=>h) λ_=>bt (P:=λr:A3_×Int=>BkOk r.1) (λ_=>h) λ_=>bt (P:=λr:A3_×Int=>BkOk r.1) (λ_=>h) λ_=>bt (P:=λr:A3_×Int=>BkOk r.1) (λ_=>h) λ_=>bt (P:=λr:A3_×Int=>BkOk r.1) (λ_=>h) λ_=>bt (P:=λr:A3_×Int=>BkOk r.1) (λ_=>h) λe=>?_;simp only[decide_eq_false_iff_not] at e;refine⟨h.1,by simp;omega,λy hy=>?_⟩;simp at hy
 rcases hy with hy|rfl
 exact h.2.2 y hy;exact hx
theorem Lg_{s:D_}{t k:Int}{x:Bs}(h:StOk s):StOk (C4_ s t k x)/\(C4_ s t k x).x.E_=s.x.E_:=
 ⟨⟨⟨h.1.1,h.1.2.1,nadd_len h.1.2.2.1,h.1.2.2.2⟩,h.2⟩,rfl⟩
theorem M4_{p:F_}{k:Int}(h:PoOk p)(hk:0<=k/\k<p.places.length):StOk (At_ p k):=by
 have hb:=h.2.2.2.2.2.2 _ (I2_ (xs:=p.places) (k:=k.toNat) qD);refine⟨⟨⟨by simp[At_,lt,Aw_],by simp[At_,lt,Aw_],by simp[At_,lt,Aw_]⟩,⟨⟨by simp[At_,lt,Aw_,Bl_],by simp[At_,lt,Aw_,Bl_],by simp[At_,lt,Aw_,Bl_]⟩,λi hi=>?_,?_,?_⟩,by simp[At_,lt,Aw_],λi hi=>?_⟩,h,hk⟩;have :(At_ p k).x.E_.rises.get i=⟨0,[]⟩:=by
   unfold At_ lt Aw_ Bl_
   unfold A16.get
   repeat' split
   all_goals rfl
 rw[this];exact⟨by simp,by simp⟩;show 0<=max 0 _;omega;show max 0 (gt p.places k.toNat).bytes<=_;omega;have :(At_ p k).x.spent.get i=⟨0,0⟩:=by
   unfold At_ lt Aw_ Bl_
   unfold A8.get
   repeat' split
   all_goals rfl
 rw[this];simp
theorem rput_len(l:List Bs)(s:Bs):(Ir_ l s).length<=l.length+1:=by
 unfold Ir_
 cases decide (s∈l)<;>simp
theorem Qy_(b:A3_)(n k:Bs)(h:List Pair):∀ (t:List Q_) (q p:List Bs),(Ct_ b n k h t q p).1.length<=q.length+t.length/\(Ct_ b n k h t q p).2.1.length<=p.length+t.length
 |[],q,p=>⟨by simp[Ct_],by simp[Ct_]⟩
 |x::t,q,p=>by
   unfold Ct_ lt lt1
   let Q:List Bs×List Bs×Int->Prop:=λr=>r.1.length<=q.length+(x::t).length/\r.2.1.length<=p.length+(x::t).length
   have h0:=Qy_ b n k h t q p
   have h1:=Qy_ b n k h t q (Ir_ p x.to')
   have h2:=Qy_ b n k h t (Ir_ q x.to') p
   have h3:=rput_len p x.to'
   have h4:=rput_len q x.to'
   refine bt (P:=Q) (λ_=>?_) λ_=>bt (P:=Q) (λ_=>?_) λ_=>?_
   all_goals (show _/\_;simp only[A3];omega)
theorem Xp_{b:A3_}(n k:Bs)(h:List Pair)(hb:BkOk b):(Ej_ b n k h).1.length<=32/\(Ej_ b n k h).2.1.length<=33:=by
 unfold Ej_;let Q:List Bs×List Bs×Int->Prop:=λr=>r.1.length<=32/\r.2.1.length<=33;refine bt (P:=Q) (λ_=>⟨by simp,by simp⟩) λ_=>bt (P:=Q) (λ_=>⟨by simp,by simp⟩) λ_=>?_;have h0:=Qy_ b n k h b.binds [] [];have :=hb.2.1;simp only[A6] at h0;exact⟨by omega,by omega⟩
def Es_(s:D_)(to_:Int)(tick:Int):D_×Int:=
 lt (Au_ s.U_ s.place to_) λr=>
 (bif decide (r<0) then
 (s,19)
 else (lt1 (lt (Nd_ s.U_ tick) λr1=>
 (bif !decide (((A8.get s.x.spent ((r).toNat)).round)=r1) then
 (⟨r1,0⟩:Ai_)
 else (A8.get s.x.spent ((r).toNat)))) (λx=>
 (bif decide (((gt s.U_.grants ((r).toNat)).budget)<=x.count) then
 (s,19)
 else lt (C4_ (⟨(⟨s.x.book,s.x.E_,s.x.notes,s.x.seen,(A8.set s.x.spent (⟨x.round,(x.count+1)⟩:Ai_) ((r).toNat))⟩:Ab_),s.U_,s.place⟩:D_) tick 2 ((gt s.U_.places ((to_).toNat)).name)) λr2=>
 (r2,0)))))
def Bh_(s:D_)(d:G_):D_×Int:=
 (bif decide (d.kind=2) then
 lt (Bb_ s.x.E_ d.queue) λr=>
 ((⟨(⟨s.x.book,r.1,s.x.notes,s.x.seen,s.x.spent⟩:Ab_),s.U_,s.place⟩:D_),r.2)
 else lt (Bz_ s.x.E_ d.name) λr1=>
 (bif decide (r1.2=0) then
 lt (D1_ s.x.book d.name) λr2=>
 ((⟨(⟨r2,r1.1,s.x.notes,s.x.seen,s.x.spent⟩:Ab_),s.U_,s.place⟩:D_),r1.2)
 else ((⟨(⟨s.x.book,r1.1,s.x.notes,s.x.seen,s.x.spent⟩:Ab_),s.U_,s.place⟩:D_),r1.2)))
def Fa_(s:D_)(d:G_):D_×Aq_×Int:=
 lt (Av_ s.x.E_ d.name) λr=>
 (bif !r.2 then
 (s,aT,10)
 else lt (Dj_ s.x.E_ d.name) λr1=>
 (bif !r1.2.2 then
 (s,aT,15)
 else ((⟨(⟨s.x.book,r1.1,s.x.notes,s.x.seen,s.x.spent⟩:Ab_),s.U_,s.place⟩:D_),(⟨r1.2.1,0,0⟩:Aq_),0)))
def Bc_(s:D_)(d:G_):D_×Int:=
 (bif decide (d.kind=0) then
 (lp0 (lt (Ac_ s.U_ d.Bm_.to') λr=>
 (bif decide (d.Bm_.sort=4) then
 (bif decide (r<0) then
 .ret (s,10)
 else lt (Au_ s.U_ s.place r) λr1=>
 (bif decide (r1<0) then
 .ret (s,11)
 else .fin ()))
 else .fin ())) (
 lt (C0_ s.x.book d.Bm_) λr2=>
 ((⟨(⟨r2.1,s.x.E_,s.x.notes,s.x.seen,s.x.spent⟩:Ab_),s.U_,s.place⟩:D_),r2.2)) (λr=>r))
 else (bif decide (d.kind=1) then
 lt (Ft_ s.x.book d.name) λr3=>
 ((⟨(⟨r3.1,s.x.E_,s.x.notes,s.x.seen,s.x.spent⟩:Ab_),s.U_,s.place⟩:D_),r3.2)
 else (bif decide (d.kind=5) then
 lt (Er_ s.x.book d.bind) λr4=>
 ((⟨(⟨r4.1,s.x.E_,s.x.notes,s.x.seen,s.x.spent⟩:Ab_),s.U_,s.place⟩:D_),r4.2)
 else lt (Av_ s.x.E_ d.bind.to') λr5=>
 (lp0 (lt (Ac_ s.U_ d.bind.to') λr6=>
 (lt1 ((bif (d.bind.up&&(decide (r6<0))) then
 (d.bind.up&&(decide (r6<0)))
 else ((!d.bind.up)&&(!r5.2)))) (λv=>
 (bif v then
 .ret (s,10)
 else (bif (d.bind.up&&(!(Ed_ s.U_ s.place r6))) then
 .ret (s,11)
 else .fin ()))))) (
 lt (Bv_ s.x.book d.bind) λr7=>
 ((⟨(⟨r7.1,s.x.E_,s.x.notes,s.x.seen,s.x.spent⟩:Ab_),s.U_,s.place⟩:D_),r7.2)) (λr=>r)))))
theorem lt1E{σ β:Type}{P:β->Prop}{o:σ}{f:σ->β}(I:σ->Prop)(ho:I o)(hf:∀ a,I a->P (f a)):P (lt1 o f):=hf _ ho
theorem spend_ok{s:D_}{to' t:Int}(h:StOk s):StOk (Es_ s to' t).1/\(Es_ s to' t).1.x.E_=s.x.E_:=by
 unfold Es_ lt;let Q:D_×Int->Prop:=λr=>StOk r.1/\r.1.x.E_=s.x.E_;have hn:∀ e,Q (s,e):=λe=>⟨h,rfl⟩;refine bt (P:=Q) (λ_=>hn _) λe=>?_;simp only[decide_eq_false_iff_not] at e;have hg:=grant_in h.2.1 s.place to' qD;have hb:=grant_b s.U_ s.place to';have hl:=h.2.1.2.2.2.2.1;have hu:=h.1.2.2.2;refine lt1E (P:=Q) (λx:Ai_=>0<=x.count) ?_ λx hx=>?_;refine bt (P:=λx:Ai_=>0<=x.count) (λ_=>?_) λ_=>?_;exact BX _;exact (hu _ qD).1
 . refine bt (P:=Q) (λ_=>hn _) λe2=>?_
   simp only[decide_eq_false_iff_not] at e2
   refine Lg_ (s:=⟨⟨s.x.book,s.x.E_,s.x.notes,s.x.seen,_⟩,s.U_,s.place⟩) ⟨⟨h.1.1,h.1.2.1,h.1.2.2.1,λi hi=>?_⟩,h.2⟩
   show 0<=((s.x.spent.set _ _).get i).count/\_
   dsimp only
   rw[A8.get_set _ _ _ _ qD hi]
   split
   exact⟨by show 0<=x.count+1;omega,by show x.count+1<=16;omega⟩
   exact hu i hi
theorem Or_{s:D_}{b:A3_}(h:StOk s)(hb:BkOk b):StOk ⟨⟨b,s.x.E_,s.x.notes,s.x.seen,s.x.spent⟩,s.U_,s.place⟩:=⟨⟨hb,h.1.2⟩,h.2⟩
theorem Cl_{s:D_}{k:I_}(h:StOk s)(hk:StkOk k):StOk ⟨⟨s.x.book,k,s.x.notes,s.x.seen,s.x.spent⟩,s.U_,s.place⟩:=⟨⟨h.1.1,hk,h.1.2.2⟩,h.2⟩
theorem queues_ok{s:D_}{d:G_}(h:StOk s):StOk (Bh_ s d).1:=by
 unfold Bh_ lt;let Q:D_×Int->Prop:=λr=>StOk r.1;refine bt (P:=Q) (λ_=>Cl_ h (Qw_ h.1.2.1)) λ_=>bt (P:=Q) (λ_=>?_) λ_=>Cl_ h (kdrop_ok h.1.2.1);exact Or_ (s:=⟨⟨s.x.book,_,s.x.notes,s.x.seen,s.x.spent⟩,s.U_,s.place⟩) (Cl_ h (kdrop_ok h.1.2.1)) (bforget_ok h.1.1)
theorem lend_ok{s:D_}{d:G_}(h:StOk s):StOk (Fa_ s d).1/\MlOk (Fa_ s d).2.1.item.Ah_:=by
 unfold Fa_ lt;let Q:D_×Aq_×Int->Prop:=λr=>StOk r.1/\MlOk r.2.1.item.Ah_;exact bt (P:=Q) (λ_=>⟨h,Io_⟩) λ_=>bt (P:=Q) (λ_=>⟨h,Io_⟩) λ_=>have :=klend_ok (n:=d.name) h.1.2.1;⟨Cl_ h this.1,this.2⟩
theorem shops_ok{s:D_}{d:G_}(h:StOk s)(hd:DdOk d):StOk (Bc_ s d).1:=by
 unfold Bc_ lt;let Q:D_×Int->Prop:=λr=>StOk r.1;have hn:∀ e,Q (s,e):=λe=>h;refine bt (P:=Q) (λ_=>?_) λ_=>?_;refine lp0E (P:=Q) (λ_=>True) ?_ λ_=>Or_ h (bmake_ok h.1.1);refine bt (P:=LoP _ _) (λ_=>?_) λ_=>trivial;exact xL;refine bt (P:=Q) (λ_=>Or_ h (bdrop_ok h.1.1)) λ_=>bt (P:=Q) (λ_=>Or_ h (bunbind_ok h.1.1)) λ_=>lp0E (P:=Q) (λ_=>True) ?_ λ_=>Or_ h (bbind_ok h.1.1 hd.1);exact qB
theorem Lk_{n:Int}:0<=IntKind.wrap .u8 n:=by
 exact tY
def Ce_(s:D_)(m:Mail)(tick:Int)(r:(List Bs)×(List Bs)×Int)(gone:List H1_):List Bs->Int->D_->D_×(List H1_)×Int×Int
 |[],n1,x1=>(x1,gone,n1,0)
 |x3::t,n1,x1=>lt (Ac_ x1.U_ x3) λr4=>
 (lp1 ((bif decide ((((Fl_ s.x.book.Bs_ m.Bm_).getD W_.zero).sort)=4) then
 lt (Es_ x1 r4 tick) λr5=>
 (bif !decide (r5.2=0) then
 .ret (s,[],0,r5.2)
 else .fin r5.1)
 else .fin x1)) (λx2=>
 lt (Cp_ x2.x.E_ r4 (⟨0,m.Bm_,m.key,m.head,m.body,m.due,m.hops⟩:Mail)) λr6=>
 (bif !decide (r6.2=0) then
 (s,[],0,r6.2)
 else Ce_ s m tick r gone t (n1+1) (⟨(⟨x2.x.book,r6.1,x2.x.notes,x2.x.seen,x2.x.spent⟩:Ab_),x2.U_,x2.place⟩:D_))) (λr=>r))
def A1_(s:D_)(m:Mail)(tick:Int)(r:(List Bs)×(List Bs)×Int):List Bs->List H1_->Int->D_->D_×(List H1_)×Int×Int
 |[],gone,n,x=>Ce_ s m tick r gone r.2.1 n x
 |x4::t1,gone,n,x=>lt (Av_ x.x.E_ x4) λr1=>
 (bif !r1.2 then
 A1_ s m tick r t1 gone n x
 else lt (K4_ m.due tick r1.1.life) λr2=>
 lt (B4_ x.x.E_ x4 (⟨0,m.Bm_,m.key,m.head,m.body,r2,m.hops⟩:Mail)) λr3=>
 (bif !decide (r3.2.2.2=0) then
 (s,[],0,r3.2.2.2)
 else (bif !decide (r3.2.2.1.Bm_=[]) then
 A1_ s m tick r t1 (gone++[(⟨x4,r3.2.2.1⟩:H1_)]) (n+1) (⟨(⟨x.x.book,r3.1,x.x.notes,x.x.seen,x.x.spent⟩:Ab_),x.U_,x.place⟩:D_)
 else A1_ s m tick r t1 gone (n+1) (⟨(⟨x.x.book,r3.1,x.x.notes,x.x.seen,x.x.spent⟩:Ab_),x.U_,x.place⟩:D_))))
def An_(s:D_)(m:Mail)(tick:Int):D_×(List H1_)×Int×Int:=
 lt (Ej_ s.x.book m.Bm_ m.key m.head) λr=>
 (bif !decide (r.2.2=0) then
 (s,[],0,r.2.2)
 else A1_ s m tick r r.1 [] 0 s)
def Vi_(W:Nat)(r:D_×List H1_×Int×Int):Prop:=StOk r.1/\(∀ g∈r.2.1,MlOk g.Ah_)/\(r.2.2.2=0->wtk r.1.x.E_+wto r.2.1<=W)
theorem V8_{W:Nat}{s:D_}{e:Int}(h:StOk s)(he:e≠0):Vi_ W (s,[],0,e):=⟨h,(λ_ hg=>by cases hg),λq=>(he q).elim⟩
theorem send1{s:D_}{m:Mail}{tick:Int}{r:List Bs×List Bs×Int}{gone:List H1_}{W:Nat}(hs:StOk s)(hg:∀ g∈gone,MlOk g.Ah_):∀ (t:List Bs) (n:Int) (x:D_),StOk x->wtk x.x.E_+wto gone<=W->Vi_ W (Ce_ s m tick r gone t n x)
 |[],n,x,hx,hw=>⟨hx,hg,λ_=>hw⟩
 |q::t,n,x,hx,hw=>by
   unfold Ce_ lt
   refine lp1E (P:=Vi_ W) (λy:D_=>StOk y/\y.x.E_=x.x.E_) ?_ λy hy=>?_
   . refine bt (P:=LoP _ _) (λ_=>?_) λ_=>⟨hx,rfl⟩
     refine bt (P:=LoP _ _) (λe=>V8_ hs ?_) λ_=>spend_ok hx
     simpa using e
   . have hr:=kraise_ok (p:=Ac_ x.U_ q) (m:=⟨0,m.Bm_,m.key,m.head,m.body,m.due,m.hops⟩) hy.1.stk
     refine bt (P:=Vi_ W) (λe=>V8_ hs pJ) λ_=>?_
     refine send1 hs hg t _ _ (Cl_ hy.1 hr.1) ?_
     have :wtk (Cp_ y.x.E_ (Ac_ x.U_ q) ⟨0,m.Bm_,m.key,m.head,m.body,m.due,m.hops⟩).1=wtk x.x.E_:=by
       unfold wtk;rw[hr.2,hy.2]
     grind
theorem wto_app(a b:List H1_):wto (a++b)=wto a+wto b:=by simp[wto]
theorem send0{s:D_}{m:Mail}{tick:Int}{r:List Bs×List Bs×Int}(hs:StOk s)(h0:0<=m.hops):∀ (t:List Bs) (gone:List H1_) (n:Int) (x:D_),StOk x->(∀ g∈gone,MlOk g.Ah_)->Vi_ (wtk x.x.E_+wto gone+t.length*wtm m) (A1_ s m tick r t gone n x)
 |[],gone,n,x,hx,hg=>by
   unfold A1_
   exact send1 hs hg r.2.1 n x hx qI
 |q::t,gone,n,x,hx,hg=>by
   unfold A1_ lt
   have hmono:∀ {W W':Nat} {r:D_×List H1_×Int×Int},W<=W'->Vi_ W r->Vi_ W' r:=λhw h=>⟨h.1,h.2.1,λe=>AZ (h.2.2 e) hw⟩
   have hl:(q::t).length*wtm m=t.length*wtm m+wtm m:=by rw[A3,DA]
   refine bt (P:=Vi_ _) (λ_=>hmono qD (send0 hs h0 t gone n x hx hg)) λ_=>?_
   generalize hd:K4_ m.due tick (Av_ x.x.E_ q).1.life=due
   have hp:=kput_ok (s:=x.x.E_) (n:=q) (m:=⟨0,m.Bm_,m.key,m.head,m.body,due,m.hops⟩) hx.stk h0
   dsimp only
   generalize hv:B4_ x.x.E_ q ⟨0,m.Bm_,m.key,m.head,m.body,due,m.hops⟩=v at hp ⊢
   have⟨p1,p2,p3⟩:=hp
   have he:wtm ⟨0,m.Bm_,m.key,m.head,m.body,due,m.hops⟩=wtm m:=rfl
   rw[he] at p3
   refine bt (P:=Vi_ _) (λe=>V8_ hs pJ) λe=>?_
   have hw:=(p3 pJ).2
   refine bt (P:=Vi_ _) (λe2=>?_) λe2=>?_
   . refine hmono ?_ (send0 hs h0 t (gone++[⟨q,v.2.2.1⟩]) (n+1) ⟨⟨x.x.book,v.1,x.x.notes,x.x.seen,x.x.spent⟩,x.U_,x.place⟩ (Cl_ hx p1) ?_)
     . rw[wto_app]
       have :wt1 v.2.2.1=wto [(⟨q,v.2.2.1⟩:H1_)]:=by
         have :decide (v.2.2.1.Bm_=[])=false:=by simpa using e2
         simp[wt1,wto,this]
       grind
     grind
   . refine hmono ?_ (send0 hs h0 t gone (n+1) ⟨⟨x.x.book,v.1,x.x.notes,x.x.seen,x.x.spent⟩,x.U_,x.place⟩ (Cl_ hx p1) hg)
     grind
theorem Ma_{s:D_}{m:Mail}{tick:Int}(hs:StOk s)(h0:0<=m.hops):Vi_ (wtk s.x.E_+32*wtm m) (An_ s m tick):=by
 unfold An_ lt;refine bt (P:=Vi_ _) (λe=>V8_ hs pJ) λ_=>?_;have hl:=(Xp_ m.Bm_ m.key m.head hs.1.1).1;have h:=send0 (tick:=tick) (r:=Ej_ s.x.book m.Bm_ m.key m.head) hs h0 (Ej_ s.x.book m.Bm_ m.key m.head).1 [] 0 s hs (λ_ hg=>by cases hg)
 refine⟨h.1,h.2.1,λe=>AZ (h.2.2 e) ?_⟩;have :=BQ (wtm m) hl;simp only[wto,DC,List.sum_nil];omega
theorem send1_len{s:D_}{m:Mail}{tick:Int}{r:List Bs×List Bs×Int}{gone:List H1_}{k:Nat}(hk:gone.length<=k):∀ (t:List Bs) (n:Int) (x:D_),(Ce_ s m tick r gone t n x).2.1.length<=k
 |[],n,x=>hk
 |q::t,n,x=>by
   unfold Ce_ lt
   let Q:D_×List H1_×Int×Int->Prop:=λr=>r.2.1.length<=k
   refine lp1E (P:=Q) (λ_=>True) ?_ λy _=>?_
   . refine bt (P:=LoP _ _) (λ_=>?_) λ_=>trivial
     exact bt (P:=LoP _ _) (λ_=>AT _) λ_=>trivial
   . exact bt (P:=Q) (λ_=>AT _) λ_=>send1_len hk t _ _
theorem T6_{s:D_}{m:Mail}{tick:Int}{r:List Bs×List Bs×Int}{k:Nat}:∀ (t:List Bs) (gone:List H1_) (n:Int) (x:D_),gone.length+t.length<=k->(A1_ s m tick r t gone n x).2.1.length<=k
 |[],gone,n,x,hk=>by
   unfold A1_
   exact send1_len (by simpa using hk) _ _ _
 |q::t,gone,n,x,hk=>by
   simp only[A3] at hk
   unfold A1_ lt
   let Q:D_×List H1_×Int×Int->Prop:=λr=>r.2.1.length<=k
   refine bt (P:=Q) (λ_=>T6_ t _ _ _ qD) λ_=>?_
   refine bt (P:=Q) (λ_=>AT _) λ_=>?_
   exact bt (P:=Q) (λ_=>T6_ t _ _ _ qQ) λ_=>T6_ t _ _ _ qD
theorem Mr_{s:D_}{m:Mail}{tick:Int}(hs:StOk s):(An_ s m tick).2.1.length<=32:=by
 unfold An_ lt;let Q:D_×List H1_×Int×Int->Prop:=λr=>r.2.1.length<=32;exact bt (P:=Q) (λ_=>AT _) λ_=>have hl:=(Xp_ m.Bm_ m.key m.head hs.1.1).1;T6_ _ _ _ _ qW
theorem wtm_r(m:Mail):1<=wtm m/\wtm m<=39135393:=by
 unfold wtm;refine⟨Nat.one_le_pow _ _ qF,?_⟩;have :33 ^ (5-m.hops.toNat)<=33 ^ 5:=C3 qF qD;exact sU
theorem wto_r:∀ l:List H1_,l.length<=wto l/\wto l<=39135393*l.length
 |[]=>⟨Nat.zero_le _,by simp[wto]⟩
 |x::l=>by
   have h:=wto_r l
   have hx:=wtm_r x.Ah_
   simp only[wto,BC,EL,A3] at h ⊢
   omega
theorem wtl_r:∀ l:List Z_,wtl l<=39135393*l.length
 |[]=>by simp[wtl]
 |x::l=>by
   have h:=wtl_r l
   have hx:=wtm_r x.Ah_
   simp only[wtl,BC,EL,A3] at h ⊢
   omega
theorem wtr_r:∀ l:List Go_,(∀ r∈l,LnOk r.l)->(l.map λr=>wtl r.l.items).sum<=2504665152*l.length
 |[],_=>by simp
 |x::l,h=>by
   have h1:=wtr_r l λr hr=>h r (AB _ hr)
   have h2:=wtl_r x.l.items
   exact yT
theorem wtk_r{s:I_}(h:StkOk s):wtk s<=20037321216:=by
 have h1:=wtr_r s.rows h.1.2.1;have h2:=h.1.1;unfold wtk;omega
theorem Wa_{l:List H1_}(h:0<l.length):wto (l.drop 1)+wtm (gt l 0).Ah_=wto l:=by
 cases l with
 |nil=>cases h
 |cons a r=>simp[wto,gt];omega
def Vh_(gone:List H1_)(lost:Int)(x:D_):Prop:=StOk x/\(∀ g∈gone,MlOk g.Ah_)/\0<=lost/\lost+((wtk x.x.E_+wto gone:Nat):Int)<=50000000000
theorem buryI0{gone:List H1_}{x:D_}(h:StOk x)(hg:gone.length<=600/\∀ g∈gone,MlOk g.Ah_):Vh_ gone 0 x:=by
 have h1:=wtk_r h.stk;have h2:=(wto_r gone).2;refine⟨h,hg.2,BX _,?_⟩;grind
section
variable{gone more:List H1_}{lost:Int}{x y:D_}{f:Nat}{m:Mail}{e:Int}
theorem Wd_(hn:0<gone.length)(h:wtk x.x.E_+wto gone<f+1):wtk x.x.E_+wto (gone.drop 1)<f:=by
 have :=Wa_ hn;have :=(wtm_r (gt gone 0).Ah_).1;omega
theorem Ub_(h:Vh_ gone lost x)(hn:0<gone.length):Vh_ (gone.drop 1) lost x:=by
 have h1:=Wa_ hn;exact⟨h.1,λg hg=>h.2.1 g (AX hg),h.2.2.1,by have :=h.2.2.2;omega⟩
theorem Zg_(hs:y.x.E_=x.x.E_)(hn:0<gone.length)(h:wtk x.x.E_+wto gone<f+1):wtk y.x.E_+wto (gone.drop 1)<f:=by
 rw[hs];exact Wd_ hn h
theorem Uc_(h:Vh_ gone lost x)(hy:StOk y)(hs:y.x.E_=x.x.E_)(hn:0<gone.length):Vh_ (gone.drop 1) (lost+1) y:=by
 have h1:=Wa_ hn;have h2:=(wtm_r (gt gone 0).Ah_).1;have h3:=h.2.2.2;exact⟨hy,λg hg=>h.2.1 g (AX hg),by have :=h.2.2.1;omega,by rw[hs];omega⟩
theorem bury_w{r:Mail}(hr:r=K_ (gt gone 0).Ah_)(hm:MlOk (gt gone 0).Ah_)(h4:¬4<IntKind.wrap .u8 (r.hops+1))(hmm:m.hops=IntKind.wrap .u8 (r.hops+1)):33*wtm m=wtm (gt gone 0).Ah_:=by
 subst hr;have h1:=hm.2.1;have h2:=hm.2.2.1;have hw:A0 .u8 ((gt gone 0).Ah_.hops+1)=(gt gone 0).Ah_.hops+1:=by
   exact tY
 simp only[K_] at h4 hmm;rw[hw] at h4 hmm;unfold wtm;rw[hmm];have :5-(gt gone 0).Ah_.hops.toNat=(5-((gt gone 0).Ah_.hops+1).toNat)+1:=by omega
 grind
theorem We_{r:Mail}(hn:0<gone.length)(h:wtk x.x.E_+wto gone<f+1)(hr:r=K_ (gt gone 0).Ah_)(hm:MlOk (gt gone 0).Ah_)(h4:¬4<IntKind.wrap .u8 (r.hops+1))(hw:e=0->wtk y.x.E_+wto more<=wtk x.x.E_+32*wtm m)(hmm:m.hops=IntKind.wrap .u8 (r.hops+1))(he:e=0):wtk y.x.E_+wto ((gone++more).drop 1)<f:=by
 have h1:=Wa_ hn;have h2:=bury_w (m:=m) hr hm h4 hmm;have h3:=hw he;have h5:(gone++more).drop 1=gone.drop 1++more:=by cases gone with
   |nil=>cases hn
   |cons a r=>simp
 have h6:=(wtm_r m).1;rw[h5,wto_app];omega
theorem Ud_{r:Mail}(h:Vh_ gone lost x)(hy:StOk y)(hg:∀ g∈more,MlOk g.Ah_)(hn:0<gone.length)(hr:r=K_ (gt gone 0).Ah_)(hm:MlOk (gt gone 0).Ah_)(h4:¬4<IntKind.wrap .u8 (r.hops+1))(hw:e=0->wtk y.x.E_+wto more<=wtk x.x.E_+32*wtm m)(hmm:m.hops=IntKind.wrap .u8 (r.hops+1))(he:e=0):Vh_ ((gone++more).drop 1) lost y:=by
 have h1:=We_ (f:=wtk x.x.E_+wto gone) hn qD hr hm h4 hw hmm he;refine⟨hy,λg hg'=>?_,h.2.2.1,by have :=h.2.2.2;omega⟩
 rcases List.mem_append.1 (AX hg') with q|q
 exact h.2.1 g q;exact hg g q
theorem app_fit(h:Vh_ gone lost x)(hw:e=0->wtk y.x.E_+wto more<=wtk x.x.E_+32*wtm m)(he:e=0):gone.length+more.length<=200000000000:=by
 have h1:=(wto_r gone).1;have h2:=(wto_r more).1;have h3:=(wtm_r m).2;have h4:=hw he;have h5:=h.2.2.2;have h6:=h.2.2.1;omega
end
def nik(s:I_):Nat:=(s.rows.map λr=>r.l.items.length).sum
theorem at_self{s:I_}(h:StkOk s){k:Nat}(hk:k<s.rows.length):O_ s (gt s.rows k).q.name=k:=by
 have h0:0<=O_ s (gt s.rows k).q.name:=Int.not_lt.1 λq=>at_neg q _ (I2_ hk) Z;have hb:=at_b s (gt s.rows k).q.name;have ha:=at_n h0;obtain⟨j,hj⟩:∃ j:Nat,O_ s (gt s.rows k).q.name=j:=⟨_,(CM h0).symm⟩;rw[hj] at ha hb ⊢;simp only[AI] at ha;have hjl:j<s.rows.length:=by omega
 have hnd:∀ i q:Nat,(hi:i<s.rows.length)->(hq:q<s.rows.length)->i<q->(gt s.rows i).q.name≠(gt s.rows q).q.name:=λi q hi hq hiq=>by
   have h1:=List.pairwise_iff_getElem.1 h.1.2.2 i q (by simpa using hi) pS hiq
   rw[CZ,CZ] at h1
   have e1:gt s.rows i=s.rows[i]:=by simp[gt,hi]
   have e2:gt s.rows q=s.rows[q]:=by simp[gt,hq]
   grind
 grind
theorem klate_at0{t:Int}:∀ (l:List Go_),(Cd_ t l).2.2=true->∃ k j,k<l.length/\j<(gt l k).l.items.length/\(Cd_ t l).1=(gt l k).q.name/\(Cd_ t l).2.1=(gt (gt l k).l.items j).Ah_
 |[],h=>by cases h
 |x::l,h=>by
   unfold Cd_ lt at h ⊢
   dsimp only at h ⊢
   cases e:(Gy_ x.l t).2 with
   |true=>
     have hb:=llate_b x.l t
     have hl:∃ j:Nat,j<x.l.items.length/\(Gy_ x.l t).1=(gt x.l.items j).Ah_:=by
       unfold Gy_ lt Ep_ lt at e ⊢
       dsimp only at e ⊢
       cases e1:decide (G3_ x.l t<0) with
       |true=>rw[e1] at e;cases e
       |false=>
         simp only[decide_eq_false_iff_not] at e1
         exact⟨(G3_ x.l t).toNat,by omega,rfl⟩
     have⟨j,hj,he⟩:=hl
     exact⟨0,j,by simp,hj,rfl,he⟩
   |false=>
     rw[e] at h
     have⟨k,j,h1,h2,h3,h4⟩:=klate_at0 l h
     have hg:gt (x::l) (k+1)=gt l k:=by simp[gt]
     grind
theorem late_n{s:I_}{t:Int}(h:StkOk s)(hl:(Bf_ s t).2.2=true):nik (Ba_ s (Bf_ s t).1 (Bf_ s t).2.1.id).1+1=nik s:=by
 have⟨k,j,h1,h2,h3,h4⟩:=klate_at0 s.rows hl;have h3':(Bf_ s t).1=_:=h3;have h4':(Bf_ s t).2.1=_:=h4;rw[h3',h4'];unfold Ba_ lt;rw[at_self h h1];have hk:decide ((k:Int)<0)=false:=by simp
 have hln:=RwsOk.at h.1 (getG h1);have hrm:(Be_ (gt s.rows k).l (gt (gt s.rows k).l.items j).Ah_.id).1.items.length+1=(gt s.rows k).l.items.length:=by
   unfold Be_ lt
   rw[lof_self hln h2]
   grind
 have hs:=sum_set (λr:Go_=>r.l.items.length) s.rows k ⟨(gt s.rows k).q,(Be_ (gt s.rows k).l (gt (gt s.rows k).l.items j).Ah_.id).1⟩ h1;dsimp only at hs ⊢;rw[hk];unfold nik;simp only[cond_false,AI,Ak_];omega
theorem nik_r0:∀ l:List Go_,(∀ r∈l,LnOk r.l)->(l.map λr=>r.l.items.length).sum<=64*l.length
 |[],_=>by simp
 |x::l,h=>by
   have h1:=nik_r0 l λr hr=>h r (AB _ hr)
   exact yT
theorem nik_r{s:I_}(h:StkOk s):nik s<=512:=by
 have h1:=nik_r0 s.rows h.1.2.1;have h2:=h.1.1;unfold nik;omega
theorem Ea_{s:D_}{a:A16_u64}(h:StOk s):StOk ⟨⟨s.x.book,s.x.E_,s.x.notes,a,s.x.spent⟩,s.U_,s.place⟩:=h
theorem copy_f(m:Mail):(K_ m).head.length=m.head.length/\(K_ m).key.length=m.key.length/\(K_ m).hops=m.hops:=⟨rfl,rfl,rfl⟩
theorem st_nts{s:D_}(h:StOk s):s.x.notes.kept.length<=1000:=AZ h.1.2.2.1 qF
theorem late_mu{k:I_}{t:Int}{r:Bs×Mail×Bool}{r1:I_×Z_×Int}{f:Nat}(h:StkOk k)(hr:Bf_ k t=r)(h2:r.2.2=true)(hr1:Ba_ k r.1 r.2.1.id=r1)(hf:nik k<f+1):nik r1.1<f:=by
 subst hr;subst hr1;have :=late_n h h2;omega
theorem late_in{k:I_}{t:Int}{r:Bs×Mail×Bool}{r1:I_×Z_×Int}{gone:List H1_}{g:H1_}(h:StkOk k)(hr:Bf_ k t=r)(h2:r.2.2=true)(hr1:Ba_ k r.1 r.2.1.id=r1)(hf:gone.length+nik k<=512):(gone++[g]).length+nik r1.1<=512:=by
 subst hr;subst hr1;have :=late_n h h2;grind
def Cy_(tick:Int):Nat->List H1_->Int->D_->D_×Int
 |0,_,_,_=>default
 | f2+1,gone1,lost,x=>(bif decide (0<(gone1.length:Int)) then
 lt (Av_ x.x.E_ ((gt gone1 0).queue)) λr=>
 (bif decide (((r.1).dead)=[]) then
 Cy_ tick f2 (gone1.drop 1) lost x
 else lt (K_ ((gt gone1 0).Ah_)) λr1=>
 lt (An_ x (⟨r1.id,(r.1).dead,r1.key,r1.head,r1.body,0,(A0 .u8 (r1.hops+1))⟩:Mail) tick) λr2=>
 (bif ((decide (4<(A0 .u8 (r1.hops+1))))||(!decide (r2.2.2.2=0))) then
 lt (C4_ x tick 1 ((gt gone1 0).queue)) λr3=>
 Cy_ tick f2 (gone1.drop 1) (lost+1) r3
 else Cy_ tick f2 ((gone1++r2.2.1).drop 1) lost r2.1))
 else (x,lost))
def Cx_(s:D_)(gone:List H1_)(tick:Int):D_×Int:=
 Cy_ tick (wtk s.x.E_+wto gone+1) gone 0 s
def Ez_(s:D_)(d:G_):D_×Aq_×Int:=
 lt (Dx_ s.x.E_ d.name d.id) λr=>
 (bif !decide (r.2=0) then
 (s,aT,r.2)
 else (bif decide (d.how=2) then
 ((⟨(⟨s.x.book,r.1,s.x.notes,s.x.seen,s.x.spent⟩:Ab_),s.U_,s.place⟩:D_),aT,0)
 else lt (Ba_ s.x.E_ d.name d.id) λr1=>
 (bif decide (d.how=1) then
 (((Cx_ (⟨(⟨s.x.book,r1.1,s.x.notes,s.x.seen,s.x.spent⟩:Ab_),s.U_,s.place⟩:D_) [(⟨d.name,r1.2.1.Ah_⟩:H1_)] d.tick).1),(⟨bC,0,(Cx_ (⟨(⟨s.x.book,r1.1,s.x.notes,s.x.seen,s.x.spent⟩:Ab_),s.U_,s.place⟩:D_) [(⟨d.name,r1.2.1.Ah_⟩:H1_)] d.tick).2⟩:Aq_),0)
 else ((⟨(⟨s.x.book,r1.1,s.x.notes,s.x.seen,s.x.spent⟩:Ab_),s.U_,s.place⟩:D_),aT,0))))
def Dr_(tick:Int):Nat->List H1_->D_->D_×Aq_
 |0,_,_=>default
 |f2+1,gone,x=>lt (Bf_ x.x.E_ tick) λr=>
 (bif !r.2.2 then
 (((Cx_ x gone tick).1),(⟨bC,(gone.length:Int),(Cx_ x gone tick).2⟩:Aq_))
 else lt (Ba_ x.x.E_ r.1 r.2.1.id) λr1=>
 Dr_ tick f2 (gone++[(⟨r.1,r.2.1⟩:H1_)]) (⟨(⟨x.x.book,r1.1,x.x.notes,x.x.seen,x.x.spent⟩:Ab_),x.U_,x.place⟩:D_))
def Gf_(s:D_)(tick:Int):D_×Aq_:=
 Dr_ tick (nik s.x.E_+1) [] s
def Fb_(s:D_)(d:G_):D_×Aq_×Int:=
 (bif decide ((s.U_.places.length:Int)<=d.frm) then
 (s,aT,10)
 else (bif ((!(Ed_ s.U_ d.frm s.place))&&(decide ((Au_ s.U_ d.frm s.place)<0))) then
 (s,aT,11)
 else (bif decide (d.number<=(A16.get s.x.seen ((d.frm).toNat))) then
 (s,aT,13)
 else (lt1 ((bif !(Ed_ s.U_ d.frm s.place) then
 lt (C4_ (⟨(⟨s.x.book,s.x.E_,s.x.notes,(A16.set s.x.seen d.number ((d.frm).toNat)),s.x.spent⟩:Ab_),s.U_,s.place⟩:D_) d.tick 2 ((gt s.U_.places ((d.frm).toNat)).name)) λr=>
 r
 else (⟨(⟨s.x.book,s.x.E_,s.x.notes,(A16.set s.x.seen d.number ((d.frm).toNat)),s.x.spent⟩:Ab_),s.U_,s.place⟩:D_))) (λx=>
 lt (K_ d.Ah_) λr1=>
 lt (An_ x (⟨r1.id,r1.Bm_,r1.key,r1.head,r1.body,r1.due,(A0 .u8 (r1.hops+1))⟩:Mail) d.tick) λr2=>
 (bif ((decide (4<(A0 .u8 (r1.hops+1))))||(!decide (r2.2.2.2=0))) then
 lt (C4_ x d.tick 1 r1.Bm_) λr3=>
 (r3,(⟨bC,0,1⟩:Aq_),0)
 else (((Cx_ r2.1 r2.2.1 d.tick).1),(⟨bC,r2.2.2.1,(Cx_ r2.1 r2.2.1 d.tick).2⟩:Aq_),0)))))))
def F8_(s:D_)(d:G_):D_×Aq_×Int:=
 lt (K_ d.Ah_) λr=>
 lt (An_ s r d.tick) λr1=>
 (bif !decide (r1.2.2.2=0) then
 (s,aT,r1.2.2.2)
 else (((Cx_ (r1.1) r1.2.1 d.tick).1),(⟨bC,r1.2.2.1,(Cx_ (r1.1) r1.2.1 d.tick).2⟩:Aq_),0))
def H_(s:D_)(d:G_):D_×Aq_×Int:=
 (bif !decide ((Fj_ d)=0) then
 (s,aT,Fj_ d)
 else (lt3 ((lt1 ((bif decide (d.kind=2) then
 (decide (d.kind=2))
 else (decide (d.kind=3)))) (λv=>
 (bif v then
 lt (Bh_ s d) λr=>
 (r.2,r.1,aT)
 else (bif decide (d.kind=6) then
 lt (F8_ s d) λr1=>
 (r1.2.2,r1.1,r1.2.1)
 else (bif decide (d.kind=7) then
 lt (Fa_ s d) λr2=>
 (r2.2.2,r2.1,r2.2.1)
 else (bif decide (d.kind=8) then
 lt (Ez_ s d) λr3=>
 (r3.2.2,r3.1,r3.2.1)
 else (bif decide (d.kind=9) then
 lt (Gf_ s d.tick) λr4=>
 (0,r4.1,r4.2)
 else (bif decide (d.kind=10) then
 lt (Fb_ s d) λr5=>
 (r5.2.2,r5.1,r5.2.1)
 else (bif decide (d.kind=11) then
 lt (Fx_ s.x.E_) λr6=>
 lt (C4_ (⟨(⟨s.x.book,r6,s.x.notes,s.x.seen,s.x.spent⟩:Ab_),s.U_,s.place⟩:D_) d.tick 3 []) λr7=>
 (0,r7,aT)
 else (bif decide (d.kind=12) then
 lt (Ei_ s.x.notes (⟨d.tick,d.code,d.text⟩:Eb_)) λr8=>
 (r8.2,(⟨(⟨s.x.book,s.x.E_,r8.1,s.x.seen,s.x.spent⟩:Ab_),s.U_,s.place⟩:D_),aT)
 else lt (Bc_ s d) λr9=>
 (r9.2,r9.1,aT)))))))))))) (λe_1 x x1=>
 (bif !decide (e_1=0) then
 (s,aT,e_1)
 else (x,x1,0)))))
theorem Vu_(tick:Int):∀ (f:Nat) (gone:List H1_) (lost:Int) (x:D_),Vh_ gone lost x->wtk x.x.E_+wto gone<f->StOk (Cy_ tick f gone lost x).1
 |0,_,_,_,_,h=>by omega
 |f+1,gone,lost,x,hI,hf=>by
   unfold Cy_ lt
   let Q:D_×Int->Prop:=λr=>StOk r.1
   refine bt (P:=Q) (λe=>?_) λ_=>hI.1
   have hn:0<gone.length:=by simpa using e
   refine bt (P:=Q) (λ_=>Vu_ tick f _ _ _ (Ub_ hI hn) (Wd_ hn hf)) λ_=>?_
   have hm:MlOk (gt gone 0).Ah_:=hI.2.1 _ (I2_ hn)
   refine bt (P:=Q) (λ_=>?_) λe4=>?_
   . have h:=Lg_ (s:=x) (t:=tick) (k:=1) (x:=(gt gone 0).queue) hI.1
     exact Vu_ tick f _ _ _ (Uc_ hI h.1 h.2 hn) (Zg_ h.2 hn hf)
   . simp only[AO,decide_eq_false_iff_not,Bool.not_eq_false',decide_eq_true_eq] at e4
     have hs:=Ma_ (s:=x) (m:=⟨(K_ (gt gone 0).Ah_).id,(Av_ x.x.E_ (gt gone 0).queue).1.dead,(K_ (gt gone 0).Ah_).key,(K_ (gt gone 0).Ah_).head,(K_ (gt gone 0).Ah_).body,0,A0 .u8 ((K_ (gt gone 0).Ah_).hops+1)⟩) (tick:=tick) hI.1 Lk_
     exact Vu_ tick f _ _ _ (Ud_ hI hs.1 hs.2.1 hn Z hm e4.1 hs.2.2 Z e4.2) (We_ hn hf Z hm e4.1 hs.2.2 Z e4.2)
theorem bury_ok{s:D_}{gone:List H1_}{tick:Int}(h:StOk s)(hg:gone.length<=600/\∀ g∈gone,MlOk g.Ah_):StOk (Cx_ s gone tick).1:=
 Vu_ tick _ gone 0 s (buryI0 h hg) (CI _)
theorem settle_ok{s:D_}{d:G_}(h:StOk s):StOk (Ez_ s d).1:=by
 unfold Ez_ lt;let Q:D_×Aq_×Int->Prop:=λr=>StOk r.1;refine bt (P:=Q) (λ_=>h) λ_=>bt (P:=Q) (λ_=>Cl_ h (kback_ok h.stk)) λ_=>have hr:=Kl_ (n:=d.name) (id:=d.id) h.stk;bt (P:=Q) (λ_=>bury_ok (Cl_ h hr.1) ⟨by simp,λg hg=>?_⟩) λ_=>Cl_ h hr.1;exact tA
theorem late_ok0(t:Int):∀ (f:Nat) (gone:List H1_) (x:D_),StOk x->(∀ g∈gone,MlOk g.Ah_)->gone.length+nik x.x.E_<=512->nik x.x.E_<f->StOk (Dr_ t f gone x).1
 |0,_,_,_,_,_,h=>by omega
 |f+1,gone,x,h,hg,hl,hf=>by
   unfold Dr_ lt
   let Q:D_×Aq_->Prop:=λr=>StOk r.1
   refine bt (P:=Q) (λ_=>bury_ok h ⟨by omega,hg⟩) λe=>?_
   have e':(Bf_ x.x.E_ t).2.2=true:=by simpa using e
   have hr:=Kl_ (n:=(Bf_ x.x.E_ t).1) (id:=(Bf_ x.x.E_ t).2.1.id) h.stk
   refine late_ok0 t f _ _ (Cl_ h hr.1) (λg q=>?_) (late_in h.stk Z e' Z hl) (late_mu h.stk Z e' Z hf)
   rcases List.mem_append.1 q with q|q
   . exact hg g q
   . exact tB
theorem late_ok{s:D_}{t:Int}(h:StOk s):StOk (Gf_ s t).1:=
 late_ok0 t _ [] s h (λ_ h=>by cases h) oL (CI _)
theorem put_ok{s:D_}{d:G_}(h:StOk s)(hd:DdOk d)(h0:0<=d.Ah_.hops):StOk (F8_ s d).1:=by
 unfold F8_ lt;let Q:D_×Aq_×Int->Prop:=λr=>StOk r.1;have hs:=Ma_ (s:=s) (m:=K_ d.Ah_) (tick:=d.tick) h h0;have hl:=Mr_ (s:=s) (m:=K_ d.Ah_) (tick:=d.tick) h;exact bt (P:=Q) (λ_=>h) λ_=>bury_ok hs.1 ⟨by omega,hs.2.1⟩
theorem pull_ok{s:D_}{d:G_}(h:StOk s)(hd:DdOk d):StOk (Fb_ s d).1:=by
 unfold Fb_ lt;let Q:D_×Aq_×Int->Prop:=λr=>StOk r.1;refine bt (P:=Q) (λ_=>h) λ_=>bt (P:=Q) (λ_=>h) λ_=>bt (P:=Q) (λ_=>h) λ_=>lt1E (P:=Q) StOk ?_ λx hx=>?_;exact bt (P:=StOk) (λ_=>(Lg_ (Ea_ h)).1) λ_=>Ea_ h;exact bt (P:=Q) (λ_=>(Lg_ hx).1) λ_=>have hs:=Ma_ (s:=x) (m:=⟨(K_ d.Ah_).id,(K_ d.Ah_).Bm_,(K_ d.Ah_).key,(K_ d.Ah_).head,(K_ d.Ah_).body,(K_ d.Ah_).due,A0 .u8 ((K_ d.Ah_).hops+1)⟩) (tick:=d.tick) hx Lk_;have hl:=Mr_ (s:=x) (m:=⟨(K_ d.Ah_).id,(K_ d.Ah_).Bm_,(K_ d.Ah_).key,(K_ d.Ah_).head,(K_ d.Ah_).body,(K_ d.Ah_).due,A0 .u8 ((K_ d.Ah_).hops+1)⟩) (tick:=d.tick) hx;bury_ok hs.1 ⟨by omega,hs.2.1⟩
theorem lt3E{σ τ ρ β:Type}{P:β->Prop}{o:σ×τ×ρ}{f:σ->τ->ρ->β}(I:σ×τ×ρ->Prop)(ho:I o)(hf:∀ a b c,I (a,b,c)->P (f a b c)):P (lt3 o f):=hf _ _ _ ho
theorem Uh_{s:D_}{d:G_}(h:StOk s)(hd:DdOk d)(h0:0<=d.Ah_.hops):StOk (H_ s d).1:=by
 unfold H_ lt;let Q:D_×Aq_×Int->Prop:=λr=>StOk r.1;refine bt (P:=Q) (λ_=>h) λ_=>?_;let I:Int×D_×Aq_->Prop:=λr=>StOk r.2.1;refine lt3E (P:=Q) I ?_ λa b c hb=>bt (P:=Q) (λ_=>h) λ_=>hb;exact lt1E (P:=I) (λ_=>True) U λv _=>bt (P:=I) (λ_=>queues_ok h) λ_=>bt (P:=I) (λ_=>put_ok h hd h0) λ_=>bt (P:=I) (λ_=>(lend_ok h).1) λ_=>bt (P:=I) (λ_=>settle_ok h) λ_=>bt (P:=I) (λ_=>late_ok h) λ_=>bt (P:=I) (λ_=>pull_ok h hd) λ_=>bt (P:=I) (λ_=>(Lg_ (Cl_ h (kwake_ok h.stk))).1) λ_=>bt (P:=I) (λ_=>⟨⟨h.1.1,h.1.2.1,nadd_len h.1.2.2.1,h.1.2.2.2⟩,h.2⟩) λ_=>shops_ok h hd
instance{σ ρ:Type}[Inhabited ρ]:Inhabited (Lo σ ρ):=⟨.ret default⟩
theorem has_fd(a:Dc_)(i:Int)(h:0<=a.set_):0<=a.set_.fdiv (2 ^ min i.toNat IntKind.u32.bits):=
 Int.fdiv_nonneg h (Int.le_of_lt (Int.pow_pos qF))
theorem poOk_l{p:F_}(h:PoOk p):p.places.length<=100000/\p.slots.length<=100000/\p.grants.length<=100000:=by
 have⟨_,h2,_,h4,h5,_⟩:=h;omega
def r03_Has(a:Dc_)(i:Int):Bool:=
 (decide (((Int.fdiv a.set_ (2 ^ (min (i:Int).toNat (AC .u32))))%2)=1))
def Nw_(a:Dc_)(b:Dc_):Nat->Nat->Bool
 |0,_=>default
 | f2+1,i=>(bif decide ((i:Int)<32) then
 (bif ((r03_Has a (i:Int))&&(!(r03_Has b (i:Int)))) then
 false
 else Nw_ a b f2 (i+1))
 else true)
def Yi_(a:Dc_)(b:Dc_):Bool:=
 (bif decide (b.level<a.level) then
 false
 else Nw_ a b (32-0+1) 0)
def Jb_(y:A8_):List A8_->Lo Unit Int
 |[]=> .fin ()
 | x::t=>(bif ((decide ((x.name)=(y.name)))||(decide (x.label=y.label))) then
 .ret 9
 else Jb_ y t)
def Jc_(y1:B9_):List B9_->Lo Unit Int
 |[]=> .fin ()
 | x1::t1=>(bif ((decide ((x1.frm)=(y1.frm)))&&(decide ((x1.to')=(y1.to')))) then
 .ret 9
 else Jc_ y1 t1)
def L0_(i:Nat):List Int->Bool->Lo Unit Int
 | [],has=>(bif !has then
 .ret 15
 else .fin ())
 |x2::t2,has=>L0_ i t2 (has||(decide (x2=(i:Int))))
def Nx_(p:F_):Nat->Nat->Int
 |0,_=>default
 | f2+1,i=>(bif decide ((i:Int)<(p.places.length:Int)) then
 (lp0 (L0_ i p.slots false) (
 Nx_ p f2 (i+1)) (λr=>r))
 else 0)
def Ic_(p:F_):List B9_->Nat->Int
 |[],k3=>Nx_ p (p.places.length-0+1) 0
 | x3::t3,k3=>(lp0 ((bif ((((decide ((x3.frm)<0))||(decide ((p.places.length:Int)<=(x3.frm))))||(decide ((x3.to')<0)))||(decide ((p.places.length:Int)<=(x3.to')))) then
 .ret 10
 else (bif (Yi_ ((gt p.places ((x3.frm).toNat)).label) ((gt p.places ((x3.to').toNat)).label)) then
 .ret 11
 else (bif ((decide ((x3.budget)<0))||(decide (16<(x3.budget)))) then
 .ret 7
 else Jc_ x3 (p.grants.take k3))))) (
 Ic_ p t3 (k3+1)) (λr=>r))
def Hw_(p:F_):List Int->Int
 | []=>(bif decide (8<(p.grants.length:Int)) then
 6
 else Ic_ p p.grants 0)
 | x4::t4=>(bif ((decide (x4<0))||(decide ((p.places.length:Int)<=x4))) then
 10
 else Hw_ p t4)
def Ib_(p:F_):List A8_->Nat->Int
 | [],k=>(bif decide ((p.slots.length:Int)=0) then
 15
 else (bif decide (32<(p.slots.length:Int)) then
 6
 else Hw_ p p.slots))
 | x5::t5,k=>(lp0 ((bif !decide ((F1_ (x5.name))=0) then
 .ret (F1_ (x5.name))
 else (bif ((((decide (15<(x5.label.level)))||(decide ((x5.bytes)<0)))||(decide (65536<(x5.bytes))))||(decide ((x5.base)=0))) then
 .ret 7
 else Jb_ x5 (p.places.take k)))) (
 Ib_ p t5 (k+1)) (λr=>r))
def Tx_(p:F_):Int:=
 (bif ((((decide (p.work<1))||(decide (16<p.work)))||(decide (p.give<1)))||(decide (16<p.give))) then
 7
 else (bif decide ((p.places.length:Int)=0) then
 15
 else (bif decide (16<(p.places.length:Int)) then
 6
 else Ib_ p p.places 0)))
def l23_At(p:F_)(n:Int):Int:=
 (n%(p.places.length:Int))
def I8_:List A8_->Bool
 |[]=>true
 | x::t=>(bif decide (40<((x.name).length:Int)) then
 false
 else I8_ t)
def Oe_(p:F_):Bool:=
 (bif (((decide (20<(p.places.length:Int)))||(decide (40<(p.slots.length:Int))))||(decide (10<(p.grants.length:Int)))) then
 false
 else I8_ p.places)
def Lv_:List B9_->Int->Int->List A8_->List Int->List B9_->F_
 |[],work1,give_1,places1,slots1,grants1=>(⟨work1,give_1,places1,slots1,grants1⟩:F_)
 |x::t,work1,give_1,places1,slots1,grants1=>Lv_ t work1 give_1 places1 slots1 (grants1++[x])
def Lu_(p:F_):List A8_->Int->Int->List A8_->List Int->List B9_->F_
 |[],work,give_,places,slots,grants=>Lv_ p.grants work give_ places (slots++p.slots) grants
 |x1::t1,work,give_,places,slots,grants=>Lu_ p t1 work give_ (places++[x1]) slots grants
def W8_(p:F_):F_:=
 Lu_ p p.places p.work p.give [] [] []
theorem l05_light{p:F_}(h:Oe_ p=true):p.places.length<=100000/\p.slots.length<=100000/\p.grants.length<=100000:=by
 unfold Oe_ at h
 cases e:(decide (20<(p.places.length:Int)) || decide (40<(p.slots.length:Int)) || decide (10<(p.grants.length:Int))) with
 |true=>rw[e] at h;cases h
 |false=>
   simp only[AO,decide_eq_false_iff_not] at e
   omega
def N4_(p:F_):Bool:=
 ((Oe_ p)&&(decide ((Tx_ (W8_ p))=0)))
end Go.SW.V
namespace Go.SW
open Go.RowKit
def cuts(p:UInt8):Bs->List Bs
 |[]=>[[]]
 |c::r=>if c=p then []::cuts p r else match cuts p r with
   |[]=>[[c]]
   |w::t=>(c::w)::t
theorem Yq_(p:UInt8):∀ s:Bs,Lib.splitK [p] 0 (Lib.count s [p]) s=cuts p s
 |[]=>by rw[EV (by simp[BG])];rfl
 |b::l=>by
   have ih:=Yq_ p l
   by_cases hb:b=p
   . subst hb
     rw[Lib.count_cons_eq,Nat.add_comm]
     have hix:BG (b::l) [b]=0:=by rw[BG];simp[E9]
     unfold G7 cuts
     rw[hix]
     simp[ih]
   . rw[Lib.count_cons_ne _ _ _ hb]
     have hp:([p]:List UInt8).isPrefixOf (b::l)=false:=by simp[E9,Ne.symm hb]
     have hix:BG (b::l) [p] = if BG l [p] == -1 then -1 else BG l [p]+1:=by rw[BG,hp];simp
     unfold cuts
     rw[if_neg hb,<- ih]
     cases hc:Lib.count l [p] with
     |zero=>rfl
     |succ k=>
       unfold G7
       rw[hix]
       by_cases hm:BG l [p] = -1
       . rw[EV hm] at hc;cases hc
       . have hge:=Lib.index_ge l [p]
         obtain⟨j,hj⟩:∃ j:Nat,BG l [p]=j:=⟨(BG l [p]).toNat,by omega⟩
         exact tI
theorem Yo_(p:UInt8)(s:Bs):(Lib.splitB ⟨#[p]⟩ 0 (Lib.countB ⟨s.toArray⟩ ⟨#[p]⟩) ⟨s.toArray⟩).map Value.string=(cuts p s).map str:=by
 have h:=Lib.splitB_data ⟨#[p]⟩ 0 (DW ⟨s.toArray⟩ ⟨#[p]⟩) ⟨s.toArray⟩;have hc:DW ⟨s.toArray⟩ ⟨#[p]⟩=Lib.count s [p]:=by simp[DW]
 rw[hc] at h ⊢;have e:=Yq_ p s;exact tT
theorem splitB_clen(p:UInt8)(s:Bs):Lib.countB ⟨s.toArray⟩ ⟨#[p]⟩+1=(cuts p s).length:=by
 have h:=congrArg List.length (Yo_ p s);rw[C8,C8,Lib.splitB_all ⟨#[p]⟩ (by simp[CV]) 0 _ _ rfl] at h;exact h
theorem Uf_(p:UInt8):∀ (s w:Bs),w∈cuts p s->w.length<=s.length
 |[],w,h=>by simp[cuts] at h;simp[h]
 |c::r,w,h=>by
   unfold cuts at h
   split at h
   . rcases List.mem_cons.1 h with rfl|h
     . simp
     . have :=Uf_ p r w h;simp;omega
   . split at h
     . simp at h;subst h;simp
     . rename_i x t e
       have ih:=Uf_ p r
       rw[e] at ih
       rcases List.mem_cons.1 h with rfl|h
       . have :=ih x qI;simp;omega
       . have :=ih w (by simp[h]);simp;omega
theorem cuts_le(p:UInt8):∀ s:Bs,(cuts p s).length<=s.length+1
 |[]=>by simp[cuts]
 |c::r=>by
   have ih:=cuts_le p r
   unfold cuts
   split
   . simp;omega
   . split
     . simp
     . rename_i e;rw[e] at ih;simp at ih ⊢;omega
theorem Mem.addH{N:Rest}{H:Hp}{L:Ls}{w w':World}(h:Mem N H L w)(hb:Below w.heap.size w w'){g:Nat}{o:Obj}(hg:w.heap.size<=g)(ho:w'.heap[g]? = some o):Mem N (hadd H g o) L w'/\HLe H (hadd H g o):=by
 have hs:∀ (b:Nat) o',w.heap[b]? = some o'->b<w.heap.size:=λb o' x=>by
   by_cases q:b<w.heap.size
   . exact q
   . rw[Array.getElem?_eq_none qD] at x;cases x
 have hk:∀ (b:Nat) o',w.heap[b]? = some o'->w'.heap[b]? = some o':=λb o' x=>by rw[hb.block b (hs b o' x)];exact x
 have hH:H g=none:=by
   cases q:H g with
   |none=>rfl
   |some o1=>have :=hs _ _ (h.h _ _ q);omega
 refine⟨⟨hb.os.trans h.os,hb.tape.trans h.tape,hb.output.trans h.output,λb o' x=>hk _ _ (h.n b o' x),λb o' x=>?_,λi b o' x=>hk _ _ (h.l i b o' x),λb o' x=>?_,λi b o' x=>⟨(h.nl i b o' x).1,?_⟩,h.ll⟩,hadd_le hH⟩;by_cases e:b=g;subst e;simp[hadd] at x;subst x;exact ho;simp[hadd,e] at x;exact hk _ _ (h.h b o' x);have :=hs b o' (h.n b o' x);have e:b≠g:=by omega
 simp[hadd,e];exact h.nh b o' x;have :=hs b o' (h.l i b o' x);have e:b≠g:=by omega
 simp[hadd,e];exact (h.nl i b o' x).2
theorem ph_rowB{P:Program}{f:FuncId}{args:Array Value}{H:Hp}{T:TypeId}{xs:List Bs}{ys:List Value}(hy:ys=xs.map str)(hx:∀ s∈xs,s.length<=9223372036854775807)
   (h:∀ N L w,Mem N H L w->Calls P f args w λe w'=>∃ A,e = .returned (.slice (some ⟨A,0,none⟩) ys.length ys.length)/\w.heap.size<=A/\w'.ownsRow w.heap.size T 1 (.slice (some ⟨A,0,none⟩) ys.length ys.length) ys.length ys/\Below w.heap.size w w') :
   Ph P f args H (λv H'=>∃ (a:Option Addr) (c:Nat),v = .slice a xs.length c/\SlH strE 1 H' (.slice a xs.length c) xs):=by
 subst hy;intro N L w hm;refine (h N L w hm).mono λe w' ⟨A,he,hA,hr,hb⟩=>?_;simp only[C8] at he hr
 rcases hr.2 with ⟨h0,_⟩|⟨g,cap,cur,hv,hg,ho,hn,_,hc,ht⟩
 . cases h0
 . cases hv
   have⟨hm',hl⟩:=hm.addH hb hA ho
   have hcur:cur=(xs.map str).toArray:=by
     apply Array.ext'
     rw[<- ht]
     have :cur.toList.length=xs.length*1:=by simpa using hc
     rw[AD qD]
   refine⟨_,_,he,⟨_,_,rfl,⟨_,_,rfl,BF _⟩,λm hmm=>⟨[str xs[m]],⟨rfl,hx _ (List.getElem_mem hmm)⟩,A,0,xs.length,xs.length,cur,T,(0,0),rfl,?_,rfl,λj hj=>?_⟩⟩,hl,hm'⟩
   simp[hadd]
   obtain rfl :j=0:=by simpa using hj
   subst hcur
   simp[hmm]
def flds(s:Bs):List Bs:=(GP (λx=>decide ((x:Int)=32)) ⟨s.toArray⟩).map λb=>b.data.toList
theorem flds_str(s:Bs):(Lib.goFieldsP (λx=>decide ((x:Int)=32)) ⟨s.toArray⟩).map Value.string=(flds s).map str:=by
 unfold flds;rw[EW]
 congr 1
theorem flds_piece(s w:Bs)(h:w∈flds s):w.length<=s.length:=by
 simp only[flds,GP,EW,List.mem_map,Function.comp] at h;obtain⟨x,_,rfl⟩:=h;simp only[Array.length_toList];show ((⟨s.toArray⟩:ByteArray).extract x.1 x.2).size<=s.length;rw[ByteArray.size_extract];have :(⟨s.toArray⟩:ByteArray).size=s.length:=by simp[CV]
 omega
def plen(s:Bs):Bool:=decide (s.length<=65536)&&(cuts 10 s).all λl=>decide (l.length<=65536) && decide ((flds l).length<=65536)&&(flds l).all λw=>decide (0<w.length) && decide (w.length<=19)
theorem plen_ok{s:Bs}(h:plen s=true):s.length<=65536/\∀ l∈cuts 10 s,l.length<=65536/\(flds l).length<=65536/\∀ w∈flds l,0<w.length/\w.length<=19:=by
 simp only[plen,A5,decide_eq_true_eq,CY] at h;exact⟨h.1,λl hl=>⟨(h.2 l hl).1.1,(h.2 l hl).1.2,(h.2 l hl).2⟩⟩
def dec(s:Bs):Nat:=match EI 64 s with| .ok n=>n|_=>0
def I4_(s:Bs):Bool:=s.all λc=>decide (48<=c.toNat) && decide (c.toNat<=57)
theorem pu_ok:∀ (s:Bs) (a k:Nat),a<10 ^ k->k+s.length<=19->I4_ s=true->∃ n,Lib.parseUintM 18446744073709551615 a s = .ok n/\n<10 ^ 19
 |[],a,k,ha,hk,_=>⟨a,rfl,DV ha (C3 qF (by simpa using hk))⟩
 |c::r,a,k,ha,hk,hd=>by
   simp only[I4_,ET,A5,decide_eq_true_eq,A3] at hd hk
   have h18:10 ^ k<=10 ^ 18:=C3 qF qD
   have h19:a*10+(c.toNat-48)<10 ^ (k+1):=by rw[Nat.pow_succ];omega
   have e18:(10:Nat) ^ 18=1000000000000000000:=by decide
   unfold Lib.parseUintM
   rw[if_pos hd.1,if_neg qD,if_neg qD]
   exact pu_ok r _ (k+1) h19 qD hd.2
theorem dec_ok{s:Bs}(hl:s.length<=19)(h0:0<s.length)(hd:I4_ s=true):Lib.parseUintB 64 s = .ok (dec s)/\(dec s:Int)<=18446744073709551615:=by
 have⟨n,h,hn⟩:=pu_ok s 0 0 qF qW hd;have h:EI 64 s = .ok n:=by
   unfold EI
   rw[if_neg (by intro q;subst q;cases h0)]
   exact h
 have e19:(10:Nat) ^ 19=10000000000000000000:=by decide
 have e:dec s=n:=by unfold dec;rw[h]
 rw[e];exact⟨h,by omega⟩
theorem Mem.below{N:Rest}{H:Hp}{L:Ls}{w w':World}(hm:Mem N H L w)(hb:Below w.heap.size w w'):Mem N H L w':=
 hm.of_same hb.os hb.tape hb.output λc o ho=>by
   exact tF
theorem dig_step{s:Bs}{k:Nat}(h:I4_ (s.take k)=true)(hk:k<s.length)(hc:(decide (((s.getD k 0).toNat:Int)<48) || decide (57<((s.getD k 0).toNat:Int)))=false):I4_ (s.take (k+1))=true:=by
 have e:s.take (k+1)=s.take k++[s.getD k 0]:=by
   rw[List.take_add_one,AA hk,List.getD_eq_getElem?_getD,AA hk];rfl
 rw[e];simp only[AO,decide_eq_false_iff_not] at hc;simp only[I4_,List.all_append,A5,ET,List.all_nil,decide_eq_true_eq,Bool.and_true];exact⟨h,by omega,by omega⟩
theorem dig_all{s:Bs}{k:Nat}(h:I4_ (s.take k)=true)(hk:s.length<=k):I4_ s=true:=by
 rwa [AD hk] at h
end Go.SW
namespace Go.SW.V
open Go.SW
theorem riOk_nil:RiOk ⟨0,[]⟩:=⟨Nat.zero_le _,λ_ h=>by cases h⟩
theorem plen05:plen [119,111,114,107,32,52,10,103,105,118,101,32,49,10,108,97,98,101,108,32,108,111,119,32,48,32,53,49,50,32,49,10,115,108,111,116,32,108,111,119]=true:=by decide +kernel
theorem rput_ne{x:Al_}{m:Mail}(h:x.total=0\/0<x.kept.length):(Da_ x m).1.total=0\/0<(Da_ x m).1.kept.length:=by
 unfold Da_ lt;grind
theorem knew_ok(b n:Int)(h:n<=1000000):StkOk (Bl_ b n):=by
 refine⟨⟨by simp[Bl_],by simp[Bl_],by simp[Bl_]⟩,λi hi=>?_,?_,?_⟩;have :(Bl_ b n).rises.get i=⟨0,[]⟩:=by
   unfold Bl_ A16.get
   grind
 rw[this];exact riOk_nil;show 0<=max 0 n;omega;show max 0 n<=1000000;omega
def poB(p:F_):Bool:=decide (0<p.places.length) && decide (p.places.length<=16) && decide (0<p.slots.length) && decide (p.slots.length<=32) && decide (p.grants.length<=8)&&(p.grants.all λg=>decide (0<=g.frm) && decide (g.frm<p.places.length) && decide (0<=g.to') && decide (g.to'<p.places.length) && decide (0<=g.budget) && decide (g.budget<=16))&&p.places.all λx=>decide (0<=x.bytes) && decide (x.bytes<=65536)
theorem Vc_{p:F_}(h:poB p=true):PoOk p:=by
 simp only[poB,CY,A5,decide_eq_true_eq] at h;have⟨⟨⟨⟨⟨⟨h1,h2⟩,h3⟩,h4⟩,h5⟩,h6⟩,h7⟩:=h;exact⟨h1,h2,h3,h4,h5,λg hg=>by have :=h6 g hg;omega,h7⟩
def ddB(l:List G_):Bool:=l.all λd=>decide (d.bind.key.length<=1000) && decide (d.bind.want.length<=1000) && decide (d.Ah_.head.length<=1000) && decide (d.Ah_.key.length<=1000) && decide (0<=d.Ah_.hops)
theorem ddB_ok{l:List G_}(h:ddB l=true):∀ d∈l,DdOk d/\0<=d.Ah_.hops:=λd hd=>by
 simp only[ddB,CY,A5,decide_eq_true_eq] at h
 have :=h d hd
 exact⟨⟨this.1.1.1.1,this.1.1.1.2,this.1.1.2,this.1.2⟩,this.2⟩
theorem dd1{d:G_}(h:ddB [d]=true):DdOk d:=(ddB_ok h d AG).1
theorem s23_mem0(l0:List G_):∀ {l:List G_} {d:G_},Hh_ l0 l=true->d∈l->Te_ d=true
 |[],d,_,hd=>by simp at hd
 |x::l,d,h,hd=>by
   simp only[Hh_] at h
   cases e:Te_ x with
   |false=>rw[e] at h;cases h
   |true=>
     rw[e] at h
     rcases List.mem_cons.1 hd with rfl|q
     . exact e
     . exact s23_mem0 l0 h q
theorem s23_len0(l0:List G_):∀ {l:List G_},Hh_ l0 l=true->l0.length<=40
 |[],h=>by simp[Hh_] at h;omega
 |x::l,h=>by
   simp only[Hh_] at h
   cases e:Te_ x with
   |false=>rw[e] at h;cases h
   |true=>rw[e] at h;exact s23_len0 l0 h
def DdA(l:List G_):Prop:=(∀ d∈l,DdOk d)/\l.length<=40
theorem l23_dd{l:List G_}(h:Of_ l=true):DdA l:=⟨λd hd=>by
 have e:=s23_mem0 _ h hd
 have h1:=lightD_len d e
 simp only[Te_,A5,decide_eq_true_eq] at e
 have h2:=Xq_ h1.2.2.2
 refine⟨by omega,by omega,by omega,by omega⟩,s23_len0 _ h⟩
theorem dd_mem{l:List G_}{k:Nat}{d:G_}(h:DdA l)(hd:l[k]? = some d):DdOk d:=h.1 d (A4 hd)
theorem at_r(p:F_)(n:Int)(h:0<p.places.length):0<=l23_At p n/\l23_At p n<p.places.length:=
 ⟨Int.emod_nonneg _ qD,Int.emod_lt_of_pos _ qD⟩
theorem to_eq1:∀ (l:List B9_) (w g:Int) (p:List A8_) (s:List Int) (o:List B9_),Lv_ l w g p s o=⟨w,g,p,s,o++l⟩
 |[],w,g,p,s,o=>by simp[Lv_]
 |x::l,w,g,p,s,o=>by simp[Lv_,to_eq1 l]
theorem to_eq0(q:F_):∀ (l:List A8_) (w g:Int) (p:List A8_) (s:List Int) (o:List B9_),Lu_ q l w g p s o=⟨w,g,p++l,s++q.slots,o++q.grants⟩
 |[],w,g,p,s,o=>by simp[Lu_,to_eq1]
 |x::l,w,g,p,s,o=>by simp[Lu_,to_eq0 q l]
theorem to_eq(p:F_):W8_ p=p:=by simp[W8_,to_eq0]
theorem chk1(y:A8_):∀ l:List A8_,LoP (λ_=>True) (λr:Int=>r≠0) (Jb_ y l)
 |[]=>trivial
 |x::l=>by
   unfold Jb_
   exact bt (P:=LoP _ _) (λ_=>by show (9:Int)≠0;decide) λ_=>chk1 y l
theorem chk4(y:B9_):∀ l:List B9_,LoP (λ_=>True) (λr:Int=>r≠0) (Jc_ y l)
 |[]=>trivial
 |x::l=>by
   unfold Jc_
   exact bt (P:=LoP _ _) (λ_=>by show (9:Int)≠0;decide) λ_=>chk4 y l
theorem lp0Z{σ:Type}{I:Prop}{o:Lo Unit Int}{f:Int}(h:lp0 o f (λr=>r)=0)(ho:LoP (λ_=>I) (λr:Int=>r≠0) o):I/\f=0:=by
 cases o with
 |fin u=>exact⟨ho,h⟩
 |ret r=>exact absurd h ho
theorem LoP.imp{σ ρ:Type}{I J:σ->Prop}{R:ρ->Prop}{o:Lo σ ρ}(h:LoP I R o)(k:∀ s,I s->J s):LoP J R o:=by
 cases o with
 |fin s=>exact k s h
 |ret r=>exact h
theorem chk3(p:F_):∀ (l:List B9_) (k:Nat),Ic_ p l k=0->∀ g∈l,0<=g.frm/\g.frm<p.places.length/\0<=g.to'/\g.to'<p.places.length/\0<=g.budget/\g.budget<=16
 |[],_,_,_,h=>by cases h
 |x::l,k,h,g,hg=>by
   unfold Ic_ at h
   have⟨hx,h2⟩:=lp0Z (σ:=Unit) (I:=0<=x.frm/\x.frm<p.places.length/\0<=x.to'/\x.to'<p.places.length/\0<=x.budget/\x.budget<=16) h (by
     refine bt (P:=LoP _ _) (λ_=>by show (10:Int)≠0;decide) λe=>?_
     refine bt (P:=LoP _ _) (λ_=>by show (11:Int)≠0;decide) λ_=>?_
     refine bt (P:=LoP _ _) (λ_=>by show (7:Int)≠0;decide) λe2=>?_
     simp only[AO,decide_eq_false_iff_not] at e e2
     exact (chk4 x _).imp λ_ _=>⟨by omega,by omega,by omega,by omega,by omega,by omega⟩)
   rcases List.mem_cons.1 hg with rfl|q
   . exact hx
   . exact chk3 p l (k+1) h2 g q
theorem chk2(p:F_):∀ l:List Int,Hw_ p l=0->p.grants.length<=8/\Ic_ p p.grants 0=0
 |[],h=>by
   unfold Hw_ at h
   cases e:decide (8<(p.grants.length:Int)) with
   |true=>rw[e] at h;cases h
   |false=>rw[e] at h;simp only[decide_eq_false_iff_not] at e;exact⟨by omega,h⟩
 |x::l,h=>by
   unfold Hw_ at h
   cases e:(decide (x<0) || decide ((p.places.length:Int)<=x)) with
   |true=>rw[e] at h;cases h
   |false=>rw[e] at h;exact chk2 p l h
theorem chk0(p:F_):∀ (l:List A8_) (k:Nat),Ib_ p l k=0->(∀ x∈l,0<=x.bytes/\x.bytes<=65536)/\0<p.slots.length/\p.slots.length<=32/\Hw_ p p.slots=0
 |[],k,h=>by
   unfold Ib_ at h
   cases e:decide ((p.slots.length:Int)=0) with
   |true=>rw[e] at h;cases h
   |false=>
     rw[e] at h
     cases e2:decide (32<(p.slots.length:Int)) with
     |true=>rw[e2] at h;cases h
     |false=>
       rw[e2] at h
       simp only[decide_eq_false_iff_not] at e e2
       exact⟨λ_ hx=>by (cases hx),by omega,by omega,h⟩
 |x::l,k,h=>by
   unfold Ib_ at h
   have⟨hx,h2⟩:=lp0Z (σ:=Unit) (I:=0<=x.bytes/\x.bytes<=65536) h (by
     refine bt (P:=LoP _ _) (λe=>?_) λ_=>?_
     . show F1_ x.name≠0
       simpa using e
     refine bt (P:=LoP _ _) (λ_=>by show (7:Int)≠0;decide) λe=>?_
     simp only[AO,decide_eq_false_iff_not] at e
     exact (chk1 x _).imp λ_ _=>⟨by omega,by omega⟩)
   have⟨h3,h4⟩:=chk0 p l (k+1) h2
   exact⟨λy hy=>by rcases List.mem_cons.1 hy with rfl|q;exact hx;exact h3 y q,h4⟩
theorem l05_ok{p:F_}(h:N4_ p=true):PoOk p:=by
 simp only[N4_,A5,decide_eq_true_eq,to_eq] at h;have h1:=h.2;unfold Tx_ at h1
 cases e0:(decide (p.work<1) || decide (16<p.work) || decide (p.give<1) || decide (16<p.give)) with
 |true=>rw[e0] at h1;cases h1
 |false=>
   rw[e0] at h1
   cases e1:decide ((p.places.length:Int)=0) with
   |true=>rw[e1] at h1;cases h1
   |false=>
     rw[e1] at h1
     cases e2:decide (16<(p.places.length:Int)) with
     |true=>rw[e2] at h1;cases h1
     |false=>
       rw[e2] at h1
       simp only[decide_eq_false_iff_not] at e1 e2
       have⟨a1,a2,a3,a4⟩:=chk0 p p.places 0 h1
       have⟨b1,b2⟩:=chk2 p p.slots a4
       exact⟨by omega,by omega,a2,a3,b1,chk3 p p.grants 0 b2,a1⟩
theorem l05_may{p:F_}(h:N4_ p=true):PoOk p/\0<p.places.length/\p.places.length<=16/\0<p.slots.length/\p.slots.length<=32/\p.grants.length<=8:=by
 have q:=l05_ok h;have⟨h1,h2,h3,h4,h5,_⟩:=id q;grind
theorem l23_ddl{l:List G_}(h:Of_ l=true):DdA l/\l.length<=40:=⟨l23_dd h,(l23_dd h).2⟩
variable{P:Program}{n:Nat}{N:Rest}{H0:Env}{all rest:List Oper}{Q:Qs}{ks:List Kt}{fF:Nat->PV}{fL:Nat->Blk}{T ty d:Nat}{pos:String}{af:Array Edge}{x y z:Operand}{K:St->Prop}
noncomputable def allH(H:Hp)(L:Ls):Hp:=λb=>open Classical in if h:∃ o i,L i=some (b,o) then some h.choose else H b
theorem allH_own{N:Rest}{H:Hp}{L:Ls}{w:World}(hm:Mem N H L w){i b:Nat}{o:Obj}(h:L i=some (b,o)):allH H L b=some o:=by
 have he:∃ o i,L i=some (b,o):=⟨o,i,h⟩;unfold allH;rw[dif_pos he];have⟨j,hj⟩:=he.choose_spec;have :=hm.ll i j b o _ h hj;grind
theorem allH_le{N:Rest}{H:Hp}{L:Ls}{w:World}(hm:Mem N H L w):HLe H (allH H L):=λb o h=>by
 unfold allH
 split
 . rename_i he
   have⟨o',i,hi⟩:=he
   have :=(hm.nl i b o' hi).2
   rw[h] at this;cases this
 . exact h
theorem mem_lend{N:Rest}{H:Hp}{L:Ls}{w:World}(hm:Mem N H L w):Mem N (allH H L) (λ_=>none) w:=by
 refine⟨hm.os,hm.tape,hm.output,hm.n,λb o h=>?_,(λ_ _ _ h=>by cases h),λb o h=>?_,(λ_ _ _ h=>by cases h),(λ_ _ _ _ _ h=>by cases h)⟩
 . unfold allH at h
   split at h
   . rename_i he
     cases h
     have⟨j,hj⟩:=he.choose_spec
     exact hm.l _ _ _ hj
   exact hm.h b o h
 . unfold allH
   split
   . rename_i he
     have⟨o',i,hi⟩:=he
     have :=(hm.nl i b o' hi).1
     grind
   exact hm.nh b o h
theorem mem_lent{N:Rest}{H H':Hp}{L:Ls}{w w':World}(hm:Mem N H L w)(hl:HLe (allH H L) H')(hm':Mem N H' (λ_=>none) w'):Mem N H L w':=
 ⟨hm'.os,hm'.tape,hm'.output,hm'.n,λb o h=>hm'.h b o (hl b o (allH_le hm b o h)),λi b o h=>hm'.h b o (hl b o (allH_own hm h)),hm.nh,hm.nl,hm.ll⟩
inductive LentL(sL:Nat->Blk):List PV->List PV->Prop
 |nil:LentL sL [] []
 |same (p:PV) {ps qs:List PV} (h:LentL sL ps qs):LentL sL (p::ps) (p::qs)
 |lend (j:Nat) {α:Type} {u:Value} {k e:Nat} {enc:α->List PV} {xs:List α} {ps qs:List PV} (hj:sL j = .arr u k e enc xs) (h:LentL sL ps qs):LentL sL (.usl u::ps) (.sl enc xs::qs)
 |agg {ps qs rs ss:List PV} (h1:LentL sL ps qs) (h:LentL sL rs ss):LentL sL (.agg ps::rs) (.agg qs::ss)
theorem LentL.sims{sL:Nat->Blk}{H H':Hp}{L:Ls}(hl:HLe H H')(ho:∀ i b o,L i=some (b,o)->H' b=some o)(hb:∀ i,SimB sL H (sL i) (L i)){ps qs:List PV}(h:LentL sL ps qs):∀ {vs:List Value},Sims H ps vs->Sims H' qs vs:=by
 induction h with
 |nil=>intro vs hs;cases hs.inv_nil;exact Sims.nil
 |same p _ ih=>
   intro vs hs
   obtain⟨v,us,rfl,h1,h2⟩:=hs.inv_cons
   exact (ih h2).cons (h1.mono hl)
 |lend j hj _ ih=>
   intro vs hs
   obtain⟨v,us,rfl,h1,h2⟩:=hs.inv_cons
   have e:=h1.inv_usl.1
   subst e
   have hi:=hb j
   rw[hj] at hi
   have⟨cs,h3,h4,h5⟩:=hi
   exact (ih h2).cons (Sim.of_slh (slh_ownE L1_ h3 (h4.mono Qf_ hl) λb o q=>ho j b o q) h5)
 |agg _ _ ih1 ih=>
   intro vs hs
   obtain⟨v,us,rfl,h1,h2⟩:=hs.inv_cons
   obtain⟨zs,rfl,h3⟩:=h1.inv_agg
   exact (ih h2).cons (Sim.toAgg (ih1 h3))
theorem ecallL{f:FuncId}{args args':List PV}{res:PV}{as0:Array Operand}{ats:Array TypeId}(h:Fn P H0.g f args' res)(hf:res.flat=true)(ha:argsP fF x as0.toList=some (f,args))(hl:LentL fL args args')(hd:Nat.blt d n=true)
   (k:res.wf->K ⟨updp fF d res,fL⟩):E1 P n N H0 all ⟨some d, .call ⟨.value x,as0,ats⟩,ty,pos,af,none⟩ none ⟨fF,fL⟩ K:=by
 intro F H L hab a w hA hm;have⟨vs,h1,h2⟩:=If_ (ats:=ats) hab.f ha h.cb;have hle:=allH_le hm;have hs:=hl.sims hle (λi b o q=>allH_own hm q) hab.l h1;rw[if_pos qM];unfold BJ;rw[hA.eval,h2];refine (h.run N (allH H L) _ w vs (H0.g.mono _ _ hle hab.g) hs (mem_lend hm)).mono λe' w' ⟨v,H',he,hv,hl',hm'⟩=>?_;subst he;exact⟨_,H,L,hA.put qO v,mem_lent hm hl' hm', .refl H,λ_ _=>rfl,_,hab.put d (Sim.simT (Sim.flat_any hf hv) h.no),k hv.wf⟩
theorem tie_le{α:Type}{i j o b T0 k e:Nat}{cs:List PV}{u:Value}{enc:α->List PV}{xs:List α}(hb:fL i = .box b T0 cs)(hj:fL j = .arr u k e enc xs)(ho:cs[o]? = some (.usl u)):StLe ⟨fF,fL⟩ ⟨fF,lups fL i (.box b T0 (cs.set o (.osl j)))⟩:=by
 intro H0 F H L ha;have hij:j≠i:=λq=>by rw[q,hb] at hj;cases hj
 have hp:∀ {p v},SimT fL H p v->SimT (lups fL i (.box b T0 (cs.set o (.osl j)))) H p v:=λ{p v} h=>by
   cases p with
   |osl q=>
     simp only[SimT] at h ⊢
     by_cases hq:q=i
     . subst hq;simp only[lups,Nat.beq_refl,cond_true]
     . rw[Gg_ hq];exact h
   |_=>exact h
 refine⟨ha.le,ha.g,λt=>hp (ha.f t),λq=>?_⟩;have hq:SimB fL H (fL q) (L q):=ha.l q;by_cases e:q=i
 . subst e
   show SimB _ H (lups fL q _ q) (L q)
   rw[Dd_]
   rw[hb] at hq
   have⟨vs,h1,h2,h3⟩:=hq
   refine⟨vs,h1,by simp[h2],λm p v hm hv=>?_⟩
   rw[CS] at hm
   split at hm
   . rename_i hom
     subst hom
     split at hm
     . cases hm
       have h4:=h3 _ _ _ ho hv
       have h5:v=u:=(Sim.inv_usl h4).1
       simp only[SimT]
       rw[Gg_ hij,hj]
       exact h5
     . cases hm
   grind
 . show SimB _ H (lups fL i _ q) (L q)
   rw[Gg_ e]
   have hq':SimB fL H (fL q) (L q):=hq
   generalize fL q=B at hq' ⊢
   cases B with
   |box b' T' cs'=>have⟨vs,h1,h2,h3⟩:=hq';exact⟨vs,h1,h2,λm p v hm hv=>hp (h3 m p v hm hv)⟩
   |_=>exact hq'
theorem bx_tie{α:Type}{i o b T0 k e:Nat}{cs:List PV}{u:Value}{enc:α->List PV}{xs:List α}(j:Nat)(hb:fL i = .box b T0 cs)(hj:fL j = .arr u k e enc xs)(ho:cs[o]? = some (.usl u))(kk:Hd P n N H0 Q (.ops all rest) ks ⟨fF,lups fL i (.box b T0 (cs.set o (.osl j)))⟩):Hd P n N H0 Q (.ops all rest) ks ⟨fF,fL⟩:=
 So.le (tie_le hb hj ho) kk
end Go.SW.V
namespace Go.SW.V
open Go.SW
variable{P:Program}{N:Rest}{H0:Env}{s:St}{T T' ty:TypeId}{x:Operand}
theorem qnilN{q:Array (String×TypeId)}(hx:evP s.F x = .val .nilIface)(hT:P.underlying T=some (.interface q)):Qy P N H0 s (.binOp .neq T x (.const .nilIface) T') ty (.bool false):=λF H L ha=>by
 have h1:=Cm_ ha.f x
 unfold Ok1 at h1
 rw[hx] at h1
 have h2:=h1.sim.inv_val
 have h:∀ d w,(Op.equalIn (d+1) T .nilIface .nilIface).run P w = .ok true w:=λd w=>by simp[Op.equalIn,run_underlying hT]
 exact⟨_,Sim.bool,λ_ _ _=>Hn_ (b:= .nilIface) h2 Z (λw=>by simp[eqGuard]) λw=>by simp[binOp,Oz_ (h · w)]⟩
theorem qfA{cs ps:List PV}{fs:Array Field}{f:Field}{i k:Nat}(hx:evP s.F x = .agg cs)(hT:P.underlying T=some (.struct fs))(hf:fs[i]? = some f)(ha:Ag P f.type true)(hz:Sz P f.type k)(hc:(cs.drop f.offset).take k=ps):Qy P N H0 s (.field T x i) ty (.agg ps):=λF H L hab=>by
 have h1:=Cm_ hab.f x
 unfold Ok1 at h1
 rw[hx] at h1
 have⟨vs,hv,hs⟩:=h1.sim.inv_agg
 refine⟨.agg ((vs.drop f.offset).take k).toArray,hc ▸ Sim.toAgg ((hs.drop f.offset).take k),λH' L' _ d pos af g w _=>?_⟩
 have :=ha w
 have :=hz w
 simp[execOp,hv,Instr.field,run_underlying hT,hf,part,asAgg, *]
theorem inv_fn0{H:Hp}{f:FuncId}{v:Value}(h:Sim H (.fn f [] []) v):v = .func (.func f) #[] #[]:=by
 obtain⟨vs,us,rfl,h1,h2⟩:=h.inv_fn
 cases h1.inv_nil;cases h2.inv_nil
 rfl
def Ly_(s:Bs):(List Bs):=
 (flds s)
def Lx_(n:Int)(least:Int)(most:Int):Int:=
 (bif decide (n<least) then
 15
 else (bif decide (most<n) then
 6
 else 0))
def Mq_(y:A8_)(x1:A8_):Bool:=
 ((decide (y.name=x1.name))||(decide (y.label=x1.label)))
def Mo_(y:B9_)(x1:B9_):Bool:=
 ((decide (y.frm=x1.frm))&&(decide (y.to'=x1.to')))
def Pr_(s:List Int)(v:Int):Bool:=
 lt (idxP (λy=>decide (v=y)) s) λr=>
 (decide (0<=r))
def Pq_:List Int->Int
 |[]=>0
 | x::t=>(bif !decide (x=0) then
 x
 else Pq_ t)
def cmp_Or(vals:List Int):Int:=
 Pq_ vals
def Kt_(a:Dc_):Bool:=
 (decide (a.level<=15))
def Fd_(s:Bs)(most:Int):Nat->Nat->Int->Int×Int
 |0,_,_=>default
 | f2+1,k1,n1=>(bif decide ((k1:Int)<(s.length:Int)) then
 (bif ((decide (((s.getD k1 0).toNat:Int)<48))||(decide (57<((s.getD k1 0).toNat:Int)))) then
 ((k1:Int),n1)
 else (bif decide (n1<=most) then
 Fd_ s most f2 (k1+1) ((10*n1)+(A0 .u8 (((s.getD k1 0).toNat:Int)-48)))
 else Fd_ s most f2 (k1+1) n1))
 else ((k1:Int),n1))
def Hi_(s:Bs)(most:Int):Int×Bs×Int:=
 (lt2 (Fd_ s most (s.length-0+1) 0 0) (λk n=>
 (bif ((decide (k=0))&&(decide ((s.length:Int)=0))) then
 (0,[],3)
 else (lt1 ((bif decide (k=0) then
 (decide (k=0))
 else ((decide (1<k))&&(decide (((s.getD 0 0).toNat:Int)=48))))) (λv=>
 (bif v then
 (0,[],4)
 else (bif decide (most<n) then
 (0,[],7)
 else (n,(s.drop (k).toNat),0))))))))
theorem plen_w{s l:Bs}{r:List Bs}(h:plen s=true)(hr:Ly_ l=r)(hz:l.length<=65536/\(flds l).length<=65536/\∀ w∈flds l,0<w.length/\w.length<=19):∀ w∈r,0<w.length/\w.length<=19:=by
 subst hr;exact hz.2.2
theorem there_in{p:F_}{i:Int}(h:Cc_ p i=true):0<=i/\i<p.places.length:=by
 simp only[Cc_,Ey_,A5,decide_eq_true_eq] at h;omega
theorem wrap8_r(z:Int):0<=IntKind.wrap .u8 z/\IntKind.wrap .u8 z<=255:=Mh_ .u8 z
theorem lnum_l(s:Bs)(most:Int):∀ (f k:Nat) (n:Int),0<=n->0<=(Fd_ s most f k n).2
 |0,_,_,_=>by simp[Fd_,default]
 |f+1,k,n,hn=>by
   unfold Fd_
   let Q:Int×Int->Prop:=λr=>0<=r.2
   refine bt (P:=Q) (λ_=>?_) λ_=>hn
   refine bt (P:=Q) (λ_=>hn) λ_=>?_
   refine bt (P:=Q) (λ_=>lnum_l s most f _ _ ?_) λ_=>lnum_l s most f _ _ hn
   have :=(wrap8_r (((s.getD k 0).toNat:Int)-48)).1
   omega
theorem lnum_r(s:Bs)(most:Int)(hm:0<=most/\most<=1000):0<=(Hi_ s most).1/\(Hi_ s most).1<=1000/\(Hi_ s most).2.1.length<=s.length:=by
 unfold Hi_;have h:=lnum_l s most (s.length-0+1) 0 0 (BX _);generalize Fd_ s most (s.length-0+1) 0 0=q at h ⊢;have⟨k,n⟩:=q;let Q:Int×Bs×Int->Prop:=λr=>0<=r.1/\r.1<=1000/\r.2.1.length<=s.length;have hno:∀ e:Int,Q (0,[],e):=λe=>⟨Int.le_refl _,by show (0:Int)<=1000;decide,AT _⟩;show Q (bif _ then _ else _);refine bt (P:=Q) (λ_=>hno _) λ_=>lt1E (P:=Q) (λ_=>True) U λv _=>bt (P:=Q) (λ_=>hno _) λ_=>bt (P:=Q) (λ_=>hno _) λe=>?_;simp only[decide_eq_false_iff_not] at e;exact⟨h,by show n<=1000;omega,by show (s.drop _).length<=_;rw[AM];omega⟩
def Nv_(x:A8_)(ahead:List A8_):Int:=
 (bif !decide ((F1_ x.name)=0) then
 (F1_ x.name)
 else (lt1 ((bif !(Kt_ x.label) then
 (!(Kt_ x.label))
 else (bif !(Ey_ x.bytes 0 65536) then
 (!(Ey_ x.bytes 0 65536))
 else (decide (x.base=0))))) (λv=>
 (bif v then
 7
 else (bif decide (0<=idxP (λz_28:A8_=>(Mq_ z_28 x)) ahead) then
 9
 else 0)))))
def Ij_(p:F_)(x:B9_)(ahead:List B9_):Int:=
 (bif !(Cc_ p x.frm) then
 10
 else (bif !(Cc_ p x.to') then
 10
 else (bif (Ii_ ((gt p.places ((x.frm).toNat)).label) ((gt p.places ((x.to').toNat)).label)) then
 11
 else (bif !(Ey_ x.budget 0 16) then
 7
 else (bif decide (0<=idxP (λz_32:B9_=>(Mo_ z_32 x)) ahead) then
 9
 else 0)))))
def Hd_(p:F_):Nat->Int->Nat->Int
 |0,_,_=>default
 | f2+1,e_1,i=>(bif ((decide (e_1=0))&&(decide ((i:Int)<(p.places.length:Int)))) then
 Hd_ p f2 (Nv_ (gt p.places i) (p.places.take i)) (i+1)
 else e_1)
def Gc_(p:F_):Int:=
 lt (Lx_ (p.places.length:Int) 1 16) λr=>
 Hd_ p (p.places.length+1-0+1) r 0
def Gl_(p:F_):Nat->Int->Nat->Int
 |0,_,_=>default
 | f2+1,e_1,i=>(bif ((decide (e_1=0))&&(decide ((i:Int)<(p.slots.length:Int)))) then
 (bif !(Cc_ p (gt p.slots i)) then
 Gl_ p f2 10 (i+1)
 else Gl_ p f2 e_1 (i+1))
 else e_1)
def Gr_(p:F_):Int:=
 lt (Lx_ (p.slots.length:Int) 1 32) λr=>
 Gl_ p (p.slots.length+1-0+1) r 0
def Hc_(p:F_):Nat->Int->Nat->Int
 |0,_,_=>default
 | f2+1,e_1,i=>(bif ((decide (e_1=0))&&(decide ((i:Int)<(p.grants.length:Int)))) then
 Hc_ p f2 (Ij_ p (gt p.grants i) (p.grants.take i)) (i+1)
 else e_1)
def Gb_(p:F_):Int:=
 lt (Lx_ (p.grants.length:Int) 0 8) λr=>
 Hc_ p (p.grants.length+1-0+1) r 0
def Gj_(p:F_):List A8_->Nat->Int
 |[],k=>0
 | x::t,k=>(bif !(Pr_ p.slots (k:Int)) then
 15
 else Gj_ p t (k+1))
def Kc_(p:F_):Int:=
 (bif ((!(Ey_ p.work 1 16))||(!(Ey_ p.give 1 16))) then
 7
 else (bif !decide ((cmp_Or [(Gc_ p),(Gr_ p),(Gb_ p)])=0) then
 (cmp_Or [(Gc_ p),(Gr_ p),(Gb_ p)])
 else Gj_ p p.places 0))
def Ip_(s:Bs)(most:Int):List UInt8->Int×Int
 | []=>(bif decide (most<(dec s:Int)) then
 (0,7)
 else ((dec s:Int),0))
 | x::t=>(bif ((decide ((x.toNat:Int)<48))||(decide (57<(x.toNat:Int)))) then
 (0,4)
 else Ip_ s most t)
def Mp_(s:Bs)(most:Int):Int×Int:=
 (bif ((decide (s=[]))||((decide (1<(s.length:Int)))&&(decide (((s.getD 0 0).toNat:Int)=48)))) then
 (0,4)
 else Ip_ s most s)
def G4_(s:Bs):Int×Int:=
 lt (Mp_ s 1048576) λr=>
 ((A0 .i64 r.1),r.2)
def Cr_(p:F_)(s:Bs):Int×Int:=
 lt (Ac_ p s) λr=>
 (bif decide (0<=r) then
 (r,0)
 else (0,10))
def J1_:Nat->Bs->Int->Dc_->Dc_×Int
 |0,_,_,_=>default
 | f2+1,s1,last,x=>(bif decide (0<(s1.length:Int)) then
 (bif !decide (((s1.getD 0 0).toNat:Int)=58) then
 (bL,4)
 else lt (Hi_ (s1.drop 1) 31) λr1=>
 (bif !decide (r1.2.2=0) then
 (bL,r1.2.2)
 else (bif decide (r1.1<=last) then
 (bL,4)
 else J1_ f2 r1.2.1 r1.1 (⟨x.level,(A0 .u32 ((AF (AC .u32) x.set_ |||AF (AC .u32) (A0 .u32 (1*2 ^ (min (r1.1:Int).toNat (AC .u32))))).toNat))⟩:Dc_))))
 else (x,0))
def Jk_(s:Bs):Dc_×Int:=
 lt (Hi_ s 15) λr=>
 (bif !decide (r.2.2=0) then
 (bL,r.2.2)
 else J1_ (r.2.1.length+1) r.2.1 (-1) (⟨(A0 .u8 r.1),0⟩:Dc_))
def Ca_:List Bs->Nat->Int->Int->List A8_->List Int->List B9_->F_×Int×Int
 |[],k,work,give_,places,slots,grants=>lt (Kc_ (⟨work,give_,places,slots,grants⟩:F_)) λr16=>
 (bif !decide (r16=0) then
 (aS,0,r16)
 else ((⟨work,give_,places,slots,grants⟩:F_),0,0))
 |x::t,k,work,give_,places,slots,grants=>lt (Ly_ x) λr=>
 (bif ((decide ((r.length:Int)=0))||(decide ((((gt r 0).getD 0 0).toNat:Int)=35))) then
 Ca_ t (k+1) work give_ places slots grants
 else (bif decide ((gt r 0)=[108,97,98,101,108]) then
 (bif !decide ((r.length:Int)=5) then
 (aS,((k:Int)+1),4)
 else (bif decide ((gt r 0)=[119,111,114,107]) then
 lt (G4_ (gt r 1)) λr1=>
 (bif !decide (r1.2=0) then
 (aS,((k:Int)+1),r1.2)
 else Ca_ t (k+1) r1.1 give_ places slots grants)
 else (bif decide ((gt r 0)=[103,105,118,101]) then
 lt (G4_ (gt r 1)) λr2=>
 (bif !decide (r2.2=0) then
 (aS,((k:Int)+1),r2.2)
 else Ca_ t (k+1) work r2.1 places slots grants)
 else (bif decide ((gt r 0)=[115,108,111,116]) then
 lt (Cr_ (⟨work,give_,places,slots,grants⟩:F_) (gt r 1)) λr3=>
 (bif !decide (r3.2=0) then
 (aS,((k:Int)+1),r3.2)
 else Ca_ t (k+1) work give_ places (slots++[r3.1]) grants)
 else lt (Jk_ (gt r 2)) λr4=>
 (bif !decide (r4.2=0) then
 (aS,((k:Int)+1),r4.2)
 else lt (G4_ (gt r 3)) λr5=>
 (bif !decide (r5.2=0) then
 (aS,((k:Int)+1),r5.2)
 else lt (Mp_ (gt r 4) 18446744073709551615) λr6=>
 (bif !decide (r6.2=0) then
 (aS,((k:Int)+1),r6.2)
 else Ca_ t (k+1) work give_ (places++[(⟨(gt r 1),r4.1,r5.1,r6.1⟩:A8_)]) slots grants)))))))
 else (bif decide ((gt r 0)=[103,114,97,110,116]) then
 (bif !decide ((r.length:Int)=4) then
 (aS,((k:Int)+1),4)
 else (bif decide ((gt r 0)=[119,111,114,107]) then
 lt (G4_ (gt r 1)) λr7=>
 (bif !decide (r7.2=0) then
 (aS,((k:Int)+1),r7.2)
 else Ca_ t (k+1) r7.1 give_ places slots grants)
 else (bif decide ((gt r 0)=[103,105,118,101]) then
 lt (G4_ (gt r 1)) λr8=>
 (bif !decide (r8.2=0) then
 (aS,((k:Int)+1),r8.2)
 else Ca_ t (k+1) work r8.1 places slots grants)
 else (bif decide ((gt r 0)=[115,108,111,116]) then
 lt (Cr_ (⟨work,give_,places,slots,grants⟩:F_) (gt r 1)) λr9=>
 (bif !decide (r9.2=0) then
 (aS,((k:Int)+1),r9.2)
 else Ca_ t (k+1) work give_ places (slots++[r9.1]) grants)
 else lt (Cr_ (⟨work,give_,places,slots,grants⟩:F_) (gt r 1)) λr10=>
 (bif !decide (r10.2=0) then
 (aS,((k:Int)+1),r10.2)
 else lt (Cr_ (⟨work,give_,places,slots,grants⟩:F_) (gt r 2)) λr11=>
 (bif !decide (r11.2=0) then
 (aS,((k:Int)+1),r11.2)
 else lt (G4_ (gt r 3)) λr12=>
 (bif !decide (r12.2=0) then
 (aS,((k:Int)+1),r12.2)
 else Ca_ t (k+1) work give_ places slots (grants++[(⟨r10.1,r11.1,r12.1⟩:B9_)]))))))))
 else (bif decide ((gt r 0)=[119,111,114,107]) then
 (bif !decide ((r.length:Int)=2) then
 (aS,((k:Int)+1),4)
 else lt (G4_ (gt r 1)) λr13=>
 (bif !decide (r13.2=0) then
 (aS,((k:Int)+1),r13.2)
 else Ca_ t (k+1) r13.1 give_ places slots grants))
 else (bif decide ((gt r 0)=[103,105,118,101]) then
 (bif !decide ((r.length:Int)=2) then
 (aS,((k:Int)+1),4)
 else lt (G4_ (gt r 1)) λr14=>
 (bif !decide (r14.2=0) then
 (aS,((k:Int)+1),r14.2)
 else Ca_ t (k+1) work r14.1 places slots grants))
 else (bif decide ((gt r 0)=[115,108,111,116]) then
 (bif !decide ((r.length:Int)=2) then
 (aS,((k:Int)+1),4)
 else lt (Cr_ (⟨work,give_,places,slots,grants⟩:F_) (gt r 1)) λr15=>
 (bif !decide (r15.2=0) then
 (aS,((k:Int)+1),r15.2)
 else Ca_ t (k+1) work give_ places (slots++[r15.1]) grants))
 else (aS,((k:Int)+1),4)))))))
def Qc_(s:Bs):F_×Int×Int:=
 Ca_ (cuts 10 s) 0 0 0 [] [] []
end Go.SW.V
