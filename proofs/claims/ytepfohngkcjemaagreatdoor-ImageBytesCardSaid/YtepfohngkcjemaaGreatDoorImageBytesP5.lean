/-
  A part of the proof of ImageBytes: Rules whose plain conditions need not be written: a loop's way on, ends and calls of functions over several
-/
import Derived.Test.YtepfohngkcjemaaGreatDoorImageBytesP4
import Derived.Shelf.Strings.FieldsFuncAny
import Derived.Shelf.Pu.ParseUintPublic10
set_option linter.unusedVariables false
set_option linter.unusedSimpArgs false
set_option maxRecDepth 100000
set_option maxHeartbeats 4000000
open BitVec renaming ofInt->AC
open Bool renaming eq_iff_iff->AU,false_and->B6,false_eq_true->CT,not_true->A5,or_false->CE,true_and->AW
open ByteArray renaming size->DG
open Go.IntKind renaming bits->AO,wrap->A0
open Int renaming toNat_natCast->A7
open List renaming all_nil->GI,any_cons->EI,drop_of_length_le->A9,eq_nil_of_length_eq_zero->DX,length_map->CL,mem_of_getElem?->A1
open Nat renaming zero_le->B5
open UInt8 renaming ofNat->D6
open Go.Proofs.Tryz
namespace Go.SW.V
open Go.SW
variable{P:Program}{n:Nat}{N:Rest}{H0:Env}{all rest:List Oper}{Q:Qs}{ks:List Kt}{fF:Nat->PV}{fL:Nat->Blk}{ty d:Nat}{pos:String}{af:Array Edge}{x:Operand}
theorem nN{ι:Type _}{keep kL:List Nat}{G:Nat->PV}{GL:Nat->Blk}{lv:ι->List (Nat×PV)}{lL:ι->List (Nat×Blk)}{Φ:ι->Prop}{μ:ι->Nat}{m:Nat}(x':ι)(hΦ:Φ x')(h1:keep.map fF=keep.map G:=by exact Y)(h2:kL.map fL=kL.map GL:=by exact Y)
   (hA:AllF fF (lv x'):=by repeat' (first|exact Z|refine⟨rfl,?_⟩)) (hB:AllL fL (lL x'):=by repeat' (first|exact Z|refine⟨rfl,?_⟩)) (hm:μ x'<m:=by ((try simp only[]);omega)):Hd P n N H0 Q (.ex .normal) (.lp (LJ (λx=>⟨mkF (lv x) keep G,mkL (lL x) kL GL⟩) Φ μ m)::ks) ⟨fF,fL⟩:=next x' h1 h2 hA hB hm hΦ
theorem nI{ι:Type _}{keep kL:List Nat}{G:Nat->PV}{GL:Nat->Blk}{lv:ι->List (Nat×PV)}{lL:ι->List (Nat×Blk)}{Φ:ι->Prop}{μ:ι->Nat}{m:Nat}{A E:Prop}(x':ι)(e:E)(hΦ:(A/\E)=Φ x':=by exact Y)(hA:A:=by (first|omega|((try simp only[]);omega)|((try simp only[List.length_append,List.length_cons,List.length_nil,List.length_set]);omega)))
   (h1:keep.map fF=keep.map G:=by exact Y) (h2:kL.map fL=kL.map GL:=by exact Y)
   (h3:AllF fF (lv x'):=by repeat' (first|exact Z|refine⟨rfl,?_⟩)) (h4:AllL fL (lL x'):=by repeat' (first|exact Z|refine⟨rfl,?_⟩)) (hm:μ x'<m:=by ((try simp only[]);omega)):Hd P n N H0 Q (.ex .normal) (.lp (LJ (λx=>⟨mkF (lv x) keep G,mkL (lL x) kL GL⟩) Φ μ m)::ks) ⟨fF,fL⟩:=next x' h1 h2 h3 h4 hm (hΦ ▸ ⟨hA,e⟩)
theorem nJ{ι:Type _}{keep kL:List Nat}{G:Nat->PV}{GL:Nat->Blk}{lv:ι->List (Nat×PV)}{lL:ι->List (Nat×Blk)}{Φ:ι->Prop}{μ:ι->Nat}{m:Nat}{A E I:Prop}(x':ι)(e:E)(hΦ:(A/\E/\I)=Φ x':=by exact Y)(hA:A:=by (first|omega|((try simp only[]);omega)|((try simp only[List.length_append,List.length_cons,List.length_nil,List.length_set]);omega)))(hI:I:=by ((repeat' refine And.intro ?_ ?_)<;>(first|omega|((try simp only[]);omega)|((try simp only[List.length_append,List.length_cons,List.length_nil,List.length_set]);omega))))
   (h1:keep.map fF=keep.map G:=by exact Y) (h2:kL.map fL=kL.map GL:=by exact Y)
   (h3:AllF fF (lv x'):=by repeat' (first|exact Z|refine⟨rfl,?_⟩)) (h4:AllL fL (lL x'):=by repeat' (first|exact Z|refine⟨rfl,?_⟩)) (hm:μ x'<m:=by ((try simp only[]);omega)):Hd P n N H0 Q (.ex .normal) (.lp (LJ (λx=>⟨mkF (lv x) keep G,mkL (lL x) kL GL⟩) Φ μ m)::ks) ⟨fF,fL⟩:=next x' h1 h2 h3 h4 hm (hΦ ▸ ⟨hA,e,hI⟩)
structure Lps where
 lv:List (Nat×PV)
 lL:List (Nat×Blk)
 Φ:Prop
 μ:Nat
theorem lP{ι:Type _}{c:Code}(keep kL:List Nat)(S:ι->Lps)(x0:ι)(hΦ:(S x0).Φ)(body:∀ x,(S x).Φ->Hd P n N H0 Q (.code c) (.lp (LJ (λx=>⟨mkF (S x).lv keep fF,mkL (S x).lL kL fL⟩) (λx=>(S x).Φ) (λx=>(S x).μ) (S x).μ)::ks) ⟨mkF (S x).lv keep fF,mkL (S x).lL kL fL⟩)
   (hA:AllF fF (S x0).lv:=by repeat' (first|exact Z|refine⟨rfl,?_⟩)) (hB:AllL fL (S x0).lL:=by repeat' (first|exact Z|refine⟨rfl,?_⟩)):Hd P n N H0 Q (.code (.loop c)) ks ⟨fF,fL⟩:=loop keep kL (λx=>(S x).lv) (λx=>(S x).lL) (λx=>(S x).Φ) (λx=>(S x).μ) x0 hA hB hΦ body
theorem eB{t:Nat}{b c:Bool}(h:b=c)(k:Hd P n N H0 Q (.ops all rest) ks ⟨updp fF t (.bool c),fL⟩)(hf:fF t = .bool b:=by exact Y):Hd P n N H0 Q (.ops all rest) ks ⟨fF,fL⟩:=so_rt (p':= .bool c) (by rw[hf,h];exact ple Y) Y k
theorem fD{tb:Tb}{G:Gb}{m:Nat}{f:FuncId}{fn:Func}{c:Code}{args:List PV}{α:Type}{enc:α->PV}{a b:α}(hf:P.funcs[f]? = some fn)(ht:tbB P tb=true)(e:a=b)(h:PV.wfs args->∀ N H,G.p H->∀ z,z=b->Hd P m N ⟨H,G⟩ (rtK tb fn.results.toList (enc z)) (.code c) [] ⟨Qf_ args,λ_=> .no⟩)(hn:fn.ntmps=m:=by exact Y)(hb:fn.body=some c:=by exact Y)(hs:Nat.ble args.length m=true:=by exact Y)(h1:(fn.name == "runtime.NumGoroutine")=false:=by kernel_rfl)(h2:fn.body.isNone=false:=by kernel_rfl)(hno:(enc a).noOsl=true:=by exact Y)(hna:Ds_ args=true:=by exact Y):Fn P G f args (enc a):=
 fC hf ht hn (λw N H hG=>h w N H hG a e) hb hs h1 h2 hno hna
theorem lsG0{α τ:Type}[Inhabited α]{l v:τ}{xs:List α}{k:Nat}{g:List α->τ}(e:l=g (xs.drop k))(q:g (gt xs k::xs.drop (k+1))=v)(h:k<xs.length:=by omega):l=v:=Wh_ (f:=λzz=>g zz) e (S2_ h) q
theorem lsN0{α τ:Type}{l v:τ}{xs:List α}{k:Nat}{g:List α->τ}(e:l=g (xs.drop k))(q:g []=v)(h:¬k<xs.length:=by omega):l=v:=Wh_ (f:=λzz=>g zz) e (dropN h) q
theorem lsG1{α τ:Type}{β0:Type _}[Inhabited α]{l v:τ}{xs:List α}{k:Nat}{g:List α->β0->τ}{b0:β0}(e:l=g (xs.drop k) b0)(q:g (gt xs k::xs.drop (k+1)) b0=v)(h:k<xs.length:=by omega):l=v:=Wh_ (f:=λzz=>g zz b0) e (S2_ h) q
theorem lsN1{α τ:Type}{β0:Type _}{l v:τ}{xs:List α}{k:Nat}{g:List α->β0->τ}{b0:β0}(e:l=g (xs.drop k) b0)(q:g [] b0=v)(h:¬k<xs.length:=by omega):l=v:=Wh_ (f:=λzz=>g zz b0) e (dropN h) q
theorem lsG2{α τ:Type}{β0 β1:Type _}[Inhabited α]{l v:τ}{xs:List α}{k:Nat}{g:List α->β0->β1->τ}{b0:β0}{b1:β1}(e:l=g (xs.drop k) b0 b1)(q:g (gt xs k::xs.drop (k+1)) b0 b1=v)(h:k<xs.length:=by omega):l=v:=Wh_ (f:=λzz=>g zz b0 b1) e (S2_ h) q
theorem lsN2{α τ:Type}{β0 β1:Type _}{l v:τ}{xs:List α}{k:Nat}{g:List α->β0->β1->τ}{b0:β0}{b1:β1}(e:l=g (xs.drop k) b0 b1)(q:g [] b0 b1=v)(h:¬k<xs.length:=by omega):l=v:=Wh_ (f:=λzz=>g zz b0 b1) e (dropN h) q
theorem lsG3{α τ:Type}{β0 β1 β2:Type _}[Inhabited α]{l v:τ}{xs:List α}{k:Nat}{g:List α->β0->β1->β2->τ}{b0:β0}{b1:β1}{b2:β2}(e:l=g (xs.drop k) b0 b1 b2)(q:g (gt xs k::xs.drop (k+1)) b0 b1 b2=v)(h:k<xs.length:=by omega):l=v:=Wh_ (f:=λzz=>g zz b0 b1 b2) e (S2_ h) q
theorem lsN3{α τ:Type}{β0 β1 β2:Type _}{l v:τ}{xs:List α}{k:Nat}{g:List α->β0->β1->β2->τ}{b0:β0}{b1:β1}{b2:β2}(e:l=g (xs.drop k) b0 b1 b2)(q:g [] b0 b1 b2=v)(h:¬k<xs.length:=by omega):l=v:=Wh_ (f:=λzz=>g zz b0 b1 b2) e (dropN h) q
theorem lsG5{α τ:Type}{β0 β1 β2 β3 β4:Type _}[Inhabited α]{l v:τ}{xs:List α}{k:Nat}{g:List α->β0->β1->β2->β3->β4->τ}{b0:β0}{b1:β1}{b2:β2}{b3:β3}{b4:β4}(e:l=g (xs.drop k) b0 b1 b2 b3 b4)(q:g (gt xs k::xs.drop (k+1)) b0 b1 b2 b3 b4=v)(h:k<xs.length:=by omega):l=v:=Wh_ (f:=λzz=>g zz b0 b1 b2 b3 b4) e (S2_ h) q
theorem lsN5{α τ:Type}{β0 β1 β2 β3 β4:Type _}{l v:τ}{xs:List α}{k:Nat}{g:List α->β0->β1->β2->β3->β4->τ}{b0:β0}{b1:β1}{b2:β2}{b3:β3}{b4:β4}(e:l=g (xs.drop k) b0 b1 b2 b3 b4)(q:g [] b0 b1 b2 b3 b4=v)(h:¬k<xs.length:=by omega):l=v:=Wh_ (f:=λzz=>g zz b0 b1 b2 b3 b4) e (dropN h) q
theorem qJ{T ty d:Nat}{y:Operand}{tb:Tb}{α:Type}[Inhabited α]{ti te:TI}{e:TypeId}{enc:α->List PV}{xs:List α}{kk:IntKind}{i:Int}(ht:tbB P tb=true)(m:Nat)(k:(PV.el (enc (gt xs m)) 0).wf->Hd P n N H0 Q (.ops all rest) ks ⟨updp fF d (.el (enc (gt xs m)) 0),fL⟩)(hx:evP fF x = .sl enc xs:=by exact Y)(hy:evP fF y = .int kk i:=by exact Y)(hi:i=m:=by first|exact Y|omega)(hm:m<xs.length:=by omega)(hti:lkT tb T=some ti:=by exact Y)(htk:ti.k = .slc e:=by exact Y)(hte:lkT tb e=some te:=by exact Y)(hsz:te.size=(enc (gt xs m)).length:=by exact Y)(hd:Nat.blt d n=true:=by exact Y):Hd P n N H0 Q (.ops all (⟨some d, .indexAddr T x y,ty,pos,af,none⟩::rest)) ks ⟨fF,fL⟩:=q1 (qidx ht m hx hy hi (getG hm) hti htk hte hsz) hd k
end Go.SW.V
namespace Go.SW.V
open Go.SW Go.Proofs
abbrev aD:PV:=.int .u64 0
abbrev aQ:PV:=.int .u8 0
abbrev aH:PV:=.int .i64 0
abbrev aU:PV:=.bool false
abbrev aI:PV:=.str []
abbrev bA:PV:=.val (.slice none 0 0)
abbrev aF:PV:=.sl Mail.pc []
abbrev ty9:TI:=⟨.str,1,16,[aI]⟩
abbrev ty3:TI:=⟨.int .i64,1,8,[aH]⟩
abbrev ty36:TI:=⟨.int .u64,1,8,[aD]⟩
abbrev ty94:TI:=⟨.int .i64,1,8,[aH]⟩
abbrev ty167:TI:=⟨.agg [(0,1),(1,1)],2,24,[aI,aH]⟩
abbrev ty302:TI:=⟨.agg [(0,1),(1,1)],2,24,[aI,aH]⟩
abbrev ty340:TI:=⟨.slc 9,1,24,[.sl strc []]⟩
abbrev ty2:TI:=⟨.int .i64,1,8,[aH]⟩
abbrev ty5:TI:=⟨.int .u8,1,1,[aQ]⟩
abbrev ty83:TI:=⟨.slc 298,1,24,[.sl Pair.pc []]⟩
abbrev ty298:TI:=⟨.agg [(0,1),(1,1),(2,1),(3,1)],4,48,[aI,aQ,aH,aI]⟩
abbrev ty4:TI:=⟨.bool,1,1,[aU]⟩
abbrev ty85:TI:=⟨.agg [(0,1),(1,1),(2,1),(3,1),(4,1),(5,1)],6,88,[aI,aI,aU,aI, .sl Pair.pc [],aU]⟩
abbrev ty291:TI:=⟨.slc 5,1,24,[.sl u8c []]⟩
abbrev ty80:TI:=⟨.agg [(0,1),(1,1),(2,1)],3,40,[aI,aQ,aI]⟩
abbrev ty82:TI:=⟨.agg [(0,1),(1,1),(2,1),(3,1)],4,48,[aI,aD,aD,aI]⟩
abbrev ty87:TI:=⟨.agg [(0,1),(1,1),(2,1),(3,1),(4,1),(5,1),(6,1)],7,96,[aD,aI,aI, .sl Pair.pc [],aI,aD,aQ]⟩
abbrev ty89:TI:=⟨.agg [(0,1),(1,1),(2,3),(5,4),(9,6),(15,1),(16,1),(17,1),(18,1),(19,1),(20,1),(21,7),(28,1)],29,344,[aQ,aD,aI,aQ,aI,aI,aD,aD,aI,aI,aI,aU,aI, .sl Pair.pc [],aU,aI,aD,aQ,aQ,aQ,aD,aD,aI,aI, .sl Pair.pc [],aI,aD,aQ,aI]⟩
abbrev ty335:TI:=⟨.slc 94,1,24,[.sl i64c []]⟩
abbrev ty104:TI:=⟨.agg [(0,1),(1,1),(2,1),(3,1),(4,1),(5,1)],6,88,[aI,aI,aU,aI, .sl Pair.pc [],aU]⟩
abbrev ty106:TI:=⟨.agg [(0,1),(1,1),(2,3),(5,4),(9,6),(15,1),(16,1),(17,1),(18,1),(19,1),(20,1),(21,7),(28,1)],29,344,[aQ,aD,aI,aQ,aI,aI,aD,aD,aI,aI,aI,aU,aI, .sl Pair.pc [],aU,aI,aD,aQ,aQ,aQ,aD,aD,aI,aI, .sl Pair.pc [],aI,aD,aQ,aI]⟩
abbrev ty102:TI:=⟨.agg [(0,1),(1,1),(2,1)],3,40,[aI,aQ,aI]⟩
abbrev ty103:TI:=⟨.agg [(0,1),(1,1),(2,1),(3,1)],4,48,[aI,aD,aD,aI]⟩
abbrev ty376:TI:=⟨.agg [(0,1),(1,1),(2,1),(3,1)],4,56,[aQ,aI, .sl Pair.pc [],aU]⟩
abbrev ty32:TI:=⟨.slc 80,1,24,[.sl X_.pc []]⟩
abbrev ty35:TI:=⟨.agg [(0,1),(1,1)],2,48,[.sl X_.pc [], .sl R_.pc []]⟩
abbrev ty33:TI:=⟨.slc 85,1,24,[.sl R_.pc []]⟩
abbrev ty433:TI:=⟨.slc 32,1,24,[.sl (slc X_.pc) []]⟩
abbrev ty436:TI:=⟨.slc 33,1,24,[.sl (slc R_.pc) []]⟩
abbrev ty27:TI:=⟨.slc 89,1,24,[.sl T_.pc []]⟩
abbrev ty22:TI:=⟨.slc 124,1,24,[.sl Bn_.pc []]⟩
abbrev ty23:TI:=⟨.slc 3,1,24,[.sl i64c []]⟩
abbrev ty24:TI:=⟨.slc 133,1,24,[.sl Cc_.pc []]⟩
abbrev ty26:TI:=⟨.agg [(0,1),(1,1),(2,1),(3,1),(4,1)],5,88,[aH,aH, .sl Bn_.pc [], .sl i64c [], .sl Cc_.pc []]⟩
abbrev ty37:TI:=⟨.slc 251,1,24,[.sl Fe_.pc []]⟩
abbrev ty38:TI:=⟨.slc 87,1,24,[aF]⟩
abbrev ty44:TI:=⟨.slc 145,1,24,[.sl D2_.pc []]⟩
abbrev ty46:TI:=⟨.agg [(0,1),(1,1)],2,32,[aD, .sl D2_.pc []]⟩
abbrev ty91:TI:=⟨.agg [(0,7),(7,1),(8,1)],9,104,[aD,aI,aI, .sl Pair.pc [],aI,aD,aQ,aU,aU]⟩
abbrev ty120:TI:=⟨.int .u32,1,4,[.int .u32 0]⟩
abbrev ty122:TI:=⟨.agg [(0,1),(1,1)],2,8,[aQ, .int .u32 0]⟩
abbrev ty124:TI:=⟨.agg [(0,1),(1,2),(3,1),(4,1)],5,40,[aI,aQ, .int .u32 0,aH,aD]⟩
abbrev ty133:TI:=⟨.agg [(0,1),(1,1),(2,1)],3,24,[aH,aH,aH]⟩
abbrev ty145:TI:=⟨.agg [(0,1),(1,1),(2,1)],3,32,[aD,aQ,aI]⟩
abbrev ty214:TI:=⟨.oth,1,8,[.val .nilFunc]⟩
abbrev ty247:TI:=⟨.slc 91,1,24,[.sl F_.pc []]⟩
abbrev ty249:TI:=⟨.agg [(0,1)],1,24,[.sl F_.pc []]⟩
abbrev ty251:TI:=⟨.agg [(0,4),(4,1)],5,72,[aI,aD,aD,aI, .sl F_.pc []]⟩
abbrev ty366:TI:=⟨.slc 44,1,24,[.sl (slc D2_.pc) []]⟩
abbrev ty418:TI:=⟨.slc 37,1,24,[.sl (slc Fe_.pc) []]⟩
abbrev ty465:TI:=⟨.slc 247,1,24,[.sl (slc F_.pc) []]⟩
abbrev ty474:TI:=⟨.slc 38,1,24,[.sl (slc Mail.pc) []]⟩
abbrev ty40:TI:=⟨.agg [(0,1),(1,1)],2,32,[aD,aF]⟩
abbrev ty43:TI:=⟨.agg [(0,1),(1,1),(2,1),(3,32)],35,552,[aD,aH, .sl Fe_.pc [],aD,aF,aD,aF,aD,aF,aD,aF,aD,aF,aD,aF,aD,aF,aD,aF,aD,aF,aD,aF,aD,aF,aD,aF,aD,aF,aD,aF,aD,aF,aD,aF]⟩
abbrev ty41:TI:=⟨.arr,32,512,[aD,aF,aD,aF,aD,aF,aD,aF,aD,aF,aD,aF,aD,aF,aD,aF,aD,aF,aD,aF,aD,aF,aD,aF,aD,aF,aD,aF,aD,aF,aD,aF]⟩
abbrev ty186:TI:=⟨.slc 82,1,24,[.sl Aa_.pc []]⟩
abbrev ty52:TI:=⟨.agg [(0,2),(2,35),(37,2),(39,16),(55,16)],71,888,[.sl X_.pc [], .sl R_.pc [],aD,aH, .sl Fe_.pc [],aD,aF,aD,aF,aD,aF,aD,aF,aD,aF,aD,aF,aD,aF,aD,aF,aD,aF,aD,aF,aD,aF,aD,aF,aD,aF,aD,aF,aD,aF,aD,aF,aD, .sl D2_.pc [],aD,aD,aD,aD,aD,aD,aD,aD,aD,aD,aD,aD,aD,aD,aD,aD,aD,aH,aD,aH,aD,aH,aD,aH,aD,aH,aD,aH,aD,aH,aD,aH]⟩
abbrev ty54:TI:=⟨.agg [(0,71),(71,5),(76,1)],77,984,[.sl X_.pc [], .sl R_.pc [],aD,aH, .sl Fe_.pc [],aD,aF,aD,aF,aD,aF,aD,aF,aD,aF,aD,aF,aD,aF,aD,aF,aD,aF,aD,aF,aD,aF,aD,aF,aD,aF,aD,aF,aD,aF,aD,aF,aD, .sl D2_.pc [],aD,aD,aD,aD,aD,aD,aD,aD,aD,aD,aD,aD,aD,aD,aD,aD,aD,aH,aD,aH,aD,aH,aD,aH,aD,aH,aD,aH,aD,aH,aD,aH,aH,aH, .sl Bn_.pc [], .sl i64c [], .sl Cc_.pc [],aH]⟩
abbrev ty49:TI:=⟨.agg [(0,1),(1,1)],2,16,[aD,aH]⟩
abbrev ty93:TI:=⟨.agg [(0,9),(9,1),(10,1)],11,120,[aD,aI,aI, .sl Pair.pc [],aI,aD,aQ,aU,aU,aH,aH]⟩
abbrev ty228:TI:=⟨.slc 242,1,24,[.sl Er_.pc []]⟩
abbrev ty242:TI:=⟨.agg [(0,1),(1,7)],8,112,[aI,aD,aI,aI, .sl Pair.pc [],aI,aD,aQ]⟩
abbrev ty56:TI:=⟨.slc 131,1,24,[.sl Bn_.pc []]⟩
abbrev ty57:TI:=⟨.slc 134,1,24,[.sl Cc_.pc []]⟩
abbrev ty59:TI:=⟨.agg [(0,1),(1,1),(2,1),(3,1),(4,1)],5,88,[aH,aH, .sl Bn_.pc [], .sl i64c [], .sl Cc_.pc []]⟩
abbrev ty131:TI:=⟨.agg [(0,1),(1,2),(3,1),(4,1)],5,40,[aI,aQ, .int .u32 0,aH,aD]⟩
abbrev ty134:TI:=⟨.agg [(0,1),(1,1),(2,1)],3,24,[aH,aH,aH]⟩
abbrev ty47:TI:=⟨.arr,16,128,[aD,aD,aD,aD,aD,aD,aD,aD,aD,aD,aD,aD,aD,aD,aD,aD]⟩
abbrev ty50:TI:=⟨.arr,16,128,[aD,aH,aD,aH,aD,aH,aD,aH,aD,aH,aD,aH,aD,aH,aD,aH]⟩
abbrev ty66:TI:=⟨.agg [(0,1),(1,1)],2,32,[aD,aF]⟩
abbrev ty97:TI:=⟨.agg [(0,7),(7,1),(8,1)],9,104,[aD,aI,aI, .sl Pair.pc [],aI,aD,aQ,aU,aU]⟩
abbrev ty264:TI:=⟨.slc 97,1,24,[.sl F_.pc []]⟩
abbrev ty64:TI:=⟨.slc 266,1,24,[.sl G9_.pc []]⟩
abbrev ty67:TI:=⟨.arr,32,512,[aD,aF,aD,aF,aD,aF,aD,aF,aD,aF,aD,aF,aD,aF,aD,aF,aD,aF,aD,aF,aD,aF,aD,aF,aD,aF,aD,aF,aD,aF,aD,aF]⟩
abbrev ty69:TI:=⟨.agg [(0,1),(1,1),(2,1),(3,32)],35,552,[aD,aH, .sl G9_.pc [],aD,aF,aD,aF,aD,aF,aD,aF,aD,aF,aD,aF,aD,aF,aD,aF,aD,aF,aD,aF,aD,aF,aD,aF,aD,aF,aD,aF,aD,aF,aD,aF]⟩
abbrev ty266:TI:=⟨.agg [(0,4),(4,1)],5,72,[aI,aD,aD,aI, .sl F_.pc []]⟩
abbrev ty178:TI:=⟨.agg [(0,1),(1,1)],2,32,[.val (.pointer none), .sl T_.pc []]⟩
abbrev ty70:TI:=⟨.slc 161,1,24,[.sl D2_.pc []]⟩
abbrev ty72:TI:=⟨.agg [(0,1),(1,1)],2,32,[aD, .sl D2_.pc []]⟩
abbrev ty161:TI:=⟨.agg [(0,1),(1,1),(2,1)],3,32,[aD,aQ,aI]⟩
abbrev ty476:TI:=⟨.slc 4,1,24,[.sl boolc []]⟩
abbrev ty394:TI:=⟨.agg [(0,1),(1,1),(2,1),(3,1)],4,56,[aQ,aI, .sl Pair.pc [],aU]⟩
abbrev ty60:TI:=⟨.slc 102,1,24,[.sl X_.pc []]⟩
abbrev ty61:TI:=⟨.slc 104,1,24,[.sl R_.pc []]⟩
abbrev ty63:TI:=⟨.agg [(0,1),(1,1)],2,48,[bA,bA]⟩
abbrev ty76:TI:=⟨.agg [(0,5),(5,1),(6,2),(8,35),(43,2),(45,16),(61,16)],77,984,[aH,aH, .sl Bn_.pc [], .sl i64c [], .sl Cc_.pc [],aH, .sl X_.pc [], .sl R_.pc [],aD,aH, .sl G9_.pc [],aD,aF,aD,aF,aD,aF,aD,aF,aD,aF,aD,aF,aD,aF,aD,aF,aD,aF,aD,aF,aD,aF,aD,aF,aD,aF,aD,aF,aD,aF,aD,aF,aD, .sl D2_.pc [],aD,aD,aD,aD,aD,aD,aD,aD,aD,aD,aD,aD,aD,aD,aD,aD,aD,aH,aD,aH,aD,aH,aD,aH,aD,aH,aD,aH,aD,aH,aD,aH]⟩
def tbu:Tb:=[(9,ty9),(36,ty36),(5,ty5),(87,ty87),(3,ty3),(4,ty4),(83,ty83),(82,ty82),(80,ty80),(91,ty91),(26,ty26),(43,ty43),(124,ty124),(249,ty249),(22,ty22),(85,ty85),(46,ty46),(37,ty37),(89,ty89),(145,ty145),(251,ty251),(247,ty247),(40,ty40),(24,ty24),(122,ty122),(52,ty52),(38,ty38),(32,ty32),(23,ty23),(35,ty35),(340,ty340),(167,ty167),(54,ty54),(133,ty133),(44,ty44),(120,ty120),(103,ty103),(33,ty33),(465,ty465),(474,ty474),(298,ty298),(104,ty104),(94,ty94),(102,ty102),(264,ty264),(97,ty97),(418,ty418),(335,ty335),(66,ty66),(366,ty366),(93,ty93),(2,ty2),(214,ty214),(64,ty64),(69,ty69),(266,ty266),(106,ty106),(228,ty228),(242,ty242),(394,ty394),(436,ty436),(27,ty27),(47,ty47),(50,ty50),(376,ty376),(60,ty60),(61,ty61),(63,ty63),(433,ty433),(49,ty49),(76,ty76),(41,ty41),(56,ty56),(57,ty57),(59,ty59),(131,ty131),(134,ty134),(186,ty186),(291,ty291),(67,ty67),(302,ty302),(476,ty476),(70,ty70),(72,ty72),(161,ty161),(178,ty178)]
theorem A_:tbB prog tbu=true:=by kernel_rfl
section
variable{n:Nat}{N:Rest}{H0:Env}{all:List Oper}{Q:Qs}{ks:List Kt}{fF:Nat->PV}{fL:Nat->Blk}
theorem kA(k:Nat){c c':Cf}{ks':List Kt}{F':Nat->PV}{L':Nat->Blk}{az bs:List Nat}(next :Hd prog n N H0 Q c' ks' ⟨F',L'⟩)(h:run tbu n k c ks fF fL [] [] []=some ⟨c',ks',F',L',[],az,bs⟩:=by exact Y)(he:az=bs:=by exact Y):Hd prog n N H0 Q c ks ⟨fF,fL⟩:=gx A_ k next h he
theorem kB(k:Nat)(is:List Nat){c c':Cf}{ks':List Kt}{F':(Nat->Nat)->Nat->PV}{L':(Nat->Nat)->Nat->Blk}{az bs:(Nat->Nat)->List Nat}(next :∀ B:Nat->Nat,Hd prog n N H0 Q c' ks' ⟨F' B,L' B⟩)(h:∀ B,runE tbu n k is B c ks fF fL [] [] []=some ⟨c',ks',F' B,L' B,[],az B,bs B⟩:=by exact λ_=>rfl)(he:∀ B,az B=bs B:=by exact λ_=>rfl):Hd prog n N H0 Q c ks ⟨fF,fL⟩:=gm A_ k is next h he
theorem kC(k:Nat){c c':Cf}{ks':List Kt}{F':Nat->PV}{L':Nat->Blk}{ps:List Prop}{az bs:List Nat}(next :Hd prog n N H0 Q c' ks' ⟨F',L'⟩)(h:run tbu n k c ks fF fL [] [] []=some ⟨c',ks',F',L',ps,az,bs⟩:=by exact Y)(he:az=bs:=by exact Y)(hp:AllP ps:=by repeat' (first|exact Z|refine And.intro ?_ ?_|exact λhc=>hc|exact Y|exact λhc=>rfl|omega|(intro hc;omega)|(intro hc;rw[hc];rfl))):Hd prog n N H0 Q c ks ⟨fF,fL⟩:=gy A_ k next h he hp
theorem kD(k:Nat)(is:List Nat){c c':Cf}{ks':List Kt}{F':(Nat->Nat)->Nat->PV}{L':(Nat->Nat)->Nat->Blk}{ps:(Nat->Nat)->List Prop}{az bs:(Nat->Nat)->List Nat}(next :∀ B:Nat->Nat,Hd prog n N H0 Q c' ks' ⟨F' B,L' B⟩)(h:∀ B,runE tbu n k is B c ks fF fL [] [] []=some ⟨c',ks',F' B,L' B,ps B,az B,bs B⟩:=by exact λ_=>rfl)(he:∀ B,az B=bs B:=by exact λ_=>rfl)(hp:∀ B,AllP (ps B):=by intro B;repeat' (first|exact Z|refine And.intro ?_ ?_|exact λhc=>hc|exact Y|exact λhc=>rfl|omega|(intro hc;omega)|(intro hc;rw[hc];rfl))):Hd prog n N H0 Q c ks ⟨fF,fL⟩:=gmy A_ k is next h he hp
theorem kE(order:List Nat)(f:Nat){xs:Option (List Nat)}{fuel:Nat}{listed:Array Bool}{F':Nat->PV}{L':Nat->Blk}{az bs:List Nat}(next :Hv prog n N H0 Q xs all f (lst listed order) ks ⟨F',L'⟩)(hf:fuel=f+order.length:=by exact Y)(hc:chkV n all order listed=true:=by kernel_rfl)(h:runV tbu xs all order fF fL [] [] []=some ⟨F',L',[],az,bs⟩:=by exact Y)(he:az=bs:=by exact Y):Hv prog n N H0 Q xs all fuel listed ks ⟨fF,fL⟩:=gX A_ order f next hf hc h he
theorem kF(order:List Nat)(f:Nat){xs:Option (List Nat)}{fuel:Nat}{listed:Array Bool}{F':Nat->PV}{L':Nat->Blk}{ps:List Prop}{az bs:List Nat}(next :Hv prog n N H0 Q xs all f (lst listed order) ks ⟨F',L'⟩)(hf:fuel=f+order.length:=by exact Y)(hc:chkV n all order listed=true:=by kernel_rfl)(h:runV tbu xs all order fF fL [] [] []=some ⟨F',L',ps,az,bs⟩:=by exact Y)(he:az=bs:=by exact Y)(hp:AllP ps:=by repeat' (first|exact Z|refine And.intro ?_ ?_|exact λhc=>hc|exact Y|exact λhc=>rfl|omega|(intro hc;omega)|(intro hc;rw[hc];rfl))):Hv prog n N H0 Q xs all fuel listed ks ⟨fF,fL⟩:=gXy A_ order f next hf hc h he hp
theorem kG{G:Gb}{m:Nat}{f:FuncId}{fn:Func}{c:Code}{args:List PV}{res:PV}(hf:prog.funcs[f]? = some fn)(hn:fn.ntmps=m)(h:PV.wfs args->∀ N H,G.p H->Hd prog m N ⟨H,G⟩ (rtK tbu fn.results.toList res) (.code c) [] ⟨Qf_ args,λ_=> .no⟩)(hb:fn.body=some c:=by exact Y)(hs:Nat.ble args.length m=true:=by exact Y)(h1:(fn.name == "runtime.NumGoroutine")=false:=by kernel_rfl)(h2:fn.body.isNone=false:=by kernel_rfl)(hno:res.noOsl=true:=by exact Y)(hna:Ds_ args=true:=by exact Y):Fn prog G f args res:=fC hf A_ hn h hb hs h1 h2 hno hna
theorem kI{T ty d:Nat}{rest:List Oper}{pos:String}{af:Array Edge}{x y:Operand}{α:Type}{ti te:TI}{e:TypeId}{enc:α->List PV}{xs:List α}{kk:IntKind}{i:Int}(m:Nat){a:α}(hm:xs[m]? = some a)(k:(PV.el (enc a) 0).wf->Hd prog n N H0 Q (.ops all rest) ks ⟨updp fF d (.el (enc a) 0),fL⟩)(hx:evP fF x = .sl enc xs:=by exact Y)(hy:evP fF y = .int kk i:=by exact Y)(hi:i=m:=by exact Y)(hti:lkT tbu T=some ti:=by exact Y)(htk:ti.k = .slc e:=by exact Y)(hte:lkT tbu e=some te:=by exact Y)(hsz:te.size=(enc a).length:=by exact Y)(hd:Nat.blt d n=true:=by exact Y):Hd prog n N H0 Q (.ops all (⟨some d, .indexAddr T x y,ty,pos,af,none⟩::rest)) ks ⟨fF,fL⟩:=q1 (qidx A_ m hx hy hi hm hti htk hte hsz) hd k
theorem kN(k:Nat){c:Cf}{ks':List Kt}{F':Nat->PV}{L':Nat->Blk}{az:List Nat}{x:Operand}{y z:Code}{t:Prop}{i:Decidable t}(p:t->Hd prog n N H0 Q (.code y) ks' ⟨F',L'⟩)(q:¬t->Hd prog n N H0 Q (.code z) ks' ⟨F',L'⟩)(h:run tbu n k c ks fF fL [] [] []=some ⟨.code (.cond x y z),ks',F',L',[],az,az⟩:=by exact Y)(hc:evP F' x = .bool (decide t):=by exact Y):Hd prog n N H0 Q c ks ⟨fF,fL⟩:=kA k (cn hc p q) h Y
theorem kM(k:Nat){c:Cf}{ks':List Kt}{F':Nat->PV}{L':Nat->Blk}{az:List Nat}{x:Operand}{y z:Code}{t:Bool}(p:t=true->Hd prog n N H0 Q (.code y) ks' ⟨F',L'⟩)(q:t=false->Hd prog n N H0 Q (.code z) ks' ⟨F',L'⟩)(h:run tbu n k c ks fF fL [] [] []=some ⟨.code (.cond x y z),ks',F',L',[],az,az⟩:=by exact Y)(hc:evP F' x = .bool t:=by exact Y):Hd prog n N H0 Q c ks ⟨fF,fL⟩:=kA k (cnd hc p q) h Y
theorem kL(k:Nat){c:Cf}{ks':List Kt}{F':Nat->PV}{L':Nat->Blk}{az:List Nat}{rest:List Oper}{f:FuncId}{args:List PV}{res:PV}{x:Operand}{xs:Array Operand}{ats:Array TypeId}{ty d:Nat}{pos:String}{af:Array Edge}(g:Fn prog H0.g f args res)(h:run tbu n k c ks fF fL [] [] []=some ⟨.ops all (⟨some d, .call ⟨.value x,xs,ats⟩,ty,pos,af,none⟩::rest),ks',F',L',[],az,az⟩)(ha:argsP F' x xs.toList=some (f,args))(hd:Nat.blt d n=true)(q:res.wf->Hd prog n N H0 Q (.ops all rest) ks' ⟨updp F' d res,L'⟩):Hd prog n N H0 Q c ks ⟨fF,fL⟩:=kA k (call g ha hd q) h Y
theorem kR(k:Nat){c:Cf}{F':Nat->PV}{L':Nat->Blk}{az as0:List Nat}{rs:List ResultVar}{res p:PV}(q:p=res)(h:run tbu n k c ks fF fL [] [] []=some ⟨.ex .ret,[],F',L',[],az,az⟩:=by exact Y)(hs:Lr_ tbu ⟨F',L'⟩ rs=some ([p],as0,as0):=by exact Y):Hd prog n N H0 (rtK tbu rs res) c ks ⟨fF,fL⟩:=kA k (rt1 hs Y (ple q)) h Y
theorem jA(k:Nat){c c':Cf}{ks':List Kt}{F':Nat->PV}{L':Nat->Blk}{az:List Nat}(h:run tbu n k c ks fF fL [] [] []=some ⟨c',ks',F',L',[],az,az⟩)(q:Hd prog n N H0 Q c' ks' ⟨F',L'⟩):Hd prog n N H0 Q c ks ⟨fF,fL⟩:=kA k q h Y
theorem jG{G:Gb}{m:Nat}{f:FuncId}{fn:Func}{c:Code}{args:List PV}{res:PV}(hf:prog.funcs[f]? = some fn)(hn:fn.ntmps=m)(hb:fn.body=some c)(h:PV.wfs args->∀ N H,G.p H->Hd prog m N ⟨H,G⟩ (rtK tbu fn.results.toList res) (.code c) [] ⟨Qf_ args,λ_=> .no⟩)(hs:Nat.ble args.length m=true:=by exact rfl)(h1:(fn.name == "runtime.NumGoroutine")=false:=by kernel_rfl)(h2:fn.body.isNone=false:=by kernel_rfl)(hno:res.noOsl=true:=by exact rfl)(hna:Ds_ args=true:=by exact rfl):Fn prog G f args res:=kG hf hn h hb hs h1 h2 hno hna
theorem jI{T ty d:Nat}{rest:List Oper}{pos:String}{af:Array Edge}{x y:Operand}{α:Type}{ti te:TI}{e:TypeId}{enc:α->List PV}{xs:List α}{kk:IntKind}{i:Int}(m:Nat){a:α}(hm:xs[m]? = some a)(hx:evP fF x = .sl enc xs)(hy:evP fF y = .int kk i)(hi:i=m)(k:(PV.el (enc a) 0).wf->Hd prog n N H0 Q (.ops all rest) ks ⟨updp fF d (.el (enc a) 0),fL⟩)(hti:lkT tbu T=some ti:=by exact rfl)(htk:ti.k = .slc e:=by exact rfl)(hte:lkT tbu e=some te:=by exact rfl)(hsz:te.size=(enc a).length:=by exact rfl)(hd:Nat.blt d n=true:=by exact rfl):Hd prog n N H0 Q (.ops all (⟨some d, .indexAddr T x y,ty,pos,af,none⟩::rest)) ks ⟨fF,fL⟩:=kI m hm k hx hy hi hti htk hte hsz hd
theorem jB(k:Nat)(is:List Nat){c c':Cf}{ks':List Kt}{F':(Nat->Nat)->Nat->PV}{L':(Nat->Nat)->Nat->Blk}{az:(Nat->Nat)->List Nat}(h:(λB=>runE tbu n k is B c ks fF fL [] [] [])=λB=>some ⟨c',ks',F' B,L' B,[],az B,az B⟩)(q:∀ B:Nat->Nat,Hd prog n N H0 Q c' ks' ⟨F' B,L' B⟩):Hd prog n N H0 Q c ks ⟨fF,fL⟩:=kB k is q (λB=>congrFun h B) λ_=>rfl
theorem jC(k:Nat){c c':Cf}{ks':List Kt}{F':Nat->PV}{L':Nat->Blk}{ps:List Prop}{az:List Nat}(h:run tbu n k c ks fF fL [] [] []=some ⟨c',ks',F',L',ps,az,az⟩)(q:Hd prog n N H0 Q c' ks' ⟨F',L'⟩)(hp:AllP ps:=by repeat' (first|exact Z|refine And.intro ?_ ?_|exact λhc=>hc|exact Y|exact λhc=>rfl|omega|(intro hc;omega)|(intro hc;rw[hc];rfl))):Hd prog n N H0 Q c ks ⟨fF,fL⟩:=kC k q h rfl hp
theorem jD(k:Nat)(is:List Nat){c c':Cf}{ks':List Kt}{F':(Nat->Nat)->Nat->PV}{L':(Nat->Nat)->Nat->Blk}{ps:(Nat->Nat)->List Prop}{az:(Nat->Nat)->List Nat}(h:(λB=>runE tbu n k is B c ks fF fL [] [] [])=λB=>some ⟨c',ks',F' B,L' B,ps B,az B,az B⟩)(q:∀ B:Nat->Nat,Hd prog n N H0 Q c' ks' ⟨F' B,L' B⟩)(hp:∀ B,AllP (ps B):=by intro B;repeat' (first|exact Z|refine And.intro ?_ ?_|exact λhc=>hc|exact Y|exact λhc=>rfl|omega|(intro hc;omega)|(intro hc;rw[hc];rfl))):Hd prog n N H0 Q c ks ⟨fF,fL⟩:=kD k is q (λB=>congrFun h B) (λ_=>rfl) hp
theorem jE(order:List Nat)(f:Nat){xs:Option (List Nat)}{fuel:Nat}{listed:Array Bool}{F':Nat->PV}{L':Nat->Blk}{az:List Nat}(h:runV tbu xs all order fF fL [] [] []=some ⟨F',L',[],az,az⟩)(q:Hv prog n N H0 Q xs all f (lst listed order) ks ⟨F',L'⟩)(hf:fuel=f+order.length:=by exact rfl)(hc:chkV n all order listed=true:=by kernel_rfl):Hv prog n N H0 Q xs all fuel listed ks ⟨fF,fL⟩:=kE order f q hf hc h rfl
theorem jx{tb:Tb}(ht:tbB prog tb=true)(k:Nat){c c':Cf}{ks':List Kt}{F':Nat->PV}{L':Nat->Blk}{az:List Nat}(h:run tb n k c ks fF fL [] [] []=some ⟨c',ks',F',L',[],az,az⟩)(q:Hd prog n N H0 Q c' ks' ⟨F',L'⟩):Hd prog n N H0 Q c ks ⟨fF,fL⟩:=gx ht k q h rfl
theorem jy{tb:Tb}(ht:tbB prog tb=true)(k:Nat){c c':Cf}{ks':List Kt}{F':Nat->PV}{L':Nat->Blk}{ps:List Prop}{az:List Nat}(h:run tb n k c ks fF fL [] [] []=some ⟨c',ks',F',L',ps,az,az⟩)(q:Hd prog n N H0 Q c' ks' ⟨F',L'⟩)(hp:AllP ps:=by repeat' (first|exact Z|refine And.intro ?_ ?_|exact λhc=>hc|exact Y|exact λhc=>rfl|omega|(intro hc;omega)|(intro hc;rw[hc];rfl))):Hd prog n N H0 Q c ks ⟨fF,fL⟩:=gy ht k q h rfl hp
theorem jX{tb:Tb}(ht:tbB prog tb=true)(order:List Nat)(f:Nat){xs:Option (List Nat)}{fuel:Nat}{listed:Array Bool}{F':Nat->PV}{L':Nat->Blk}{az:List Nat}(h:runV tb xs all order fF fL [] [] []=some ⟨F',L',[],az,az⟩)(q:Hv prog n N H0 Q xs all f (lst listed order) ks ⟨F',L'⟩)(hf:fuel=f+order.length:=by exact rfl)(hc:chkV n all order listed=true:=by kernel_rfl):Hv prog n N H0 Q xs all fuel listed ks ⟨fF,fL⟩:=gX ht order f q hf hc h rfl
theorem jF{tb:Tb}{G:Gb}{m:Nat}{f:FuncId}{fn:Func}{c:Code}{args:List PV}{α:Type}{enc:α->PV}{a b:α}(hf:prog.funcs[f]? = some fn)(ht:tbB prog tb=true)(e:a=b)(hn:fn.ntmps=m)(hb:fn.body=some c)(h:PV.wfs args->∀ N H,G.p H->∀ z,z=b->Hd prog m N ⟨H,G⟩ (rtK tb fn.results.toList (enc z)) (.code c) [] ⟨Qf_ args,λ_=> .no⟩)(hs:Nat.ble args.length m=true:=by exact Y)(h1:(fn.name == "runtime.NumGoroutine")=false:=by kernel_rfl)(h2:fn.body.isNone=false:=by kernel_rfl)(hno:(enc a).noOsl=true:=by exact Y)(hna:Ds_ args=true:=by exact Y):Fn prog G f args (enc a):=fD hf ht e h hn hb hs h1 h2 hno hna
end
def gb:Gb:=⟨λH=>GInt H 0/\GPow H 5,λH H' hl h=>⟨h.1.mono hl,h.2.mono hl⟩⟩
abbrev aC:=@Fn prog gb
theorem gbML{H:Hp}(h:gb.p H):GInt H 0:=h.1
theorem gbPow{H:Hp}(h:gb.p H):GPow H 5:=h.2
theorem r4_letter{c:Int}:aC 205 [.int .u8 c] (.bool (letter c)):=by
 refine jG func205 ntmps205 Y λw N H hG=>jC 33 Y<|rt1 Y Y (ple ?_);simp[letter, *]
theorem Zv_{s:Bs}:aC 209 [.str s] (.bool (plain s)):=by
 refine kG func209 ntmps209 λw N H hG=>?_;have s_l:s.length<=9223372036854775807:=w.1;refine jA 14 Y<|lP (ι:=Nat) [0,5,6] [] (λk=>⟨[(7,aA k)],[],k<=s.length/\(s.drop k).all (λc=>letter c.toNat)=plain s,s.length-k⟩) 0 ⟨by omega,rfl⟩<|λk ⟨hk1,hk2⟩=>kN 6 (λp0=>?_) λp1=>?_;have :=u8r (s.getD k 0);refine jA 14 Y<|q1 (sidx A_ k Y Y Y Y Y qX) Y λw0=>jC 16 Y<|cnd Y (λh0=>have h1:=bl h0;have p2:=dt h1;have h2:=br h0;have p3:=dt h2;jA 2 Y<|cndT Y h0<|vP) λh0=>jC 11 Y<|cnd Y (λh1=>have h2:=bl h1;have p2:=dt h2;have h3:=br h1;have p3:=dt h3;jA 2 Y<|cndT Y h1<|vP) λh1=>kM 7 (λh2=>?_) (λh2=>?_);have p2:=dt h2;exact jA 2 Y<|cndT Y h2<|vP;have p2:=df h2;refine kN 6 (λp3=>?_) λp4=>?_;exact vP;refine kR 12 ?_;exact xV;refine kR 11 ?_;exact xV
theorem Fd_{s:Bs}:aC 109 [.str s] (aA (C6_ s)):=by
 refine jG func109 ntmps109 Y λw N H hG=>kN 14 (λp0=>?_) λp1=>?_;exact uA;refine kN 8 (λp2=>?_) λp3=>?_;exact uA;refine kL 3 Zv_ Y Y Y λw0=>kM 4 (λh0=>?_) (λh0=>?_);have h1:=D4_ h0;exact uA;have h1:=D0_ h0;refine kR 9 ?_;simp[C6_, *]<;>omega
theorem out_Num(o:Out)(n bytes:Int)(hlen:o.s.length<=4611686018427387904):Fn prog gb 59 [.agg (Out.pc o),.int .u64 n,.int .i64 bytes] (.agg (Out.pc (D_ o n bytes))):=
 fn_of_pr (vs:=[.agg [str o.s, .int .i64 o.err].toArray, .int .u64 n, .int .i64 bytes]) (v:= .agg [str (D_ o n bytes).s, .int .i64 (D_ o n bytes).err].toArray) (At_ func59) Y Y
   (λw H=>Sims.cons (Sim.toAgg (Sims.cons (Sim.str w.1.1) (Sims.cons (Sim.int w.1.2.1.1 w.1.2.1.2) Sims.nil))) (Sims.cons (Sim.int w.2.1.1 w.2.1.2) (Sims.cons (Sim.int w.2.2.1.1 w.2.2.1.2) Sims.nil)))
   (λw H=>Sim.toAgg (Sims.cons (Sim.str (by have :=Ad_ o n bytes;omega)) (Sims.cons (Sim.int w.1.2.1.1 w.1.2.1.2) Sims.nil)))
   (λw H hG=>SW.out_Num H o n w.2.1 bytes w.2.2.1 hlen)
theorem Li_(o:Out){s:Bs}(hlen:o.s.length+s.length<=4611686018427387904:=by ((try have :=hrl pA);first|omega|(simp[D_,A5_,V_,numK]<;>omega))):aC 63 [.agg (Out.pc o), .str s] (.agg (Out.pc (A5_ o s))):=by
 exact jG func63 ntmps63 Y λw N H hG=>gmp A_ 23 [0,1] (λ_=>rfl) (λ_=>rfl) (λ_=>⟨(by first|omega|(simp<;>omega)),trivial⟩) λB0=>uG
theorem Ee_(o:Out):aC 66 [.agg (Out.pc o)] (.str o.s):=by
 exact jG func66 ntmps66 Y λw N H hG=>jB 14 [0] Y λB0=>uG
theorem Ek_(o:Out){s:Bs}(hlen:o.s.length+s.length<=4611686018427386000:=by ((try have :=hrl pA);first|omega|(simp[D_,A5_,V_,numK]<;>omega))):aC 60 [.agg (Out.pc o), .str s] (.agg (Out.pc (O_ o s))):=by
 refine kG func60 ntmps60 λw N H hG=>?_;refine kB 14 [0,1] λB0=>?_;refine cn Y (λp0=>?_) λp1=>?_;refine kN 8 (λp2=>?_) λp3=>?_;refine kB 13 [] λ_=>?_;exact uH;refine kB 10 [] λ_=>?_;exact uH;refine jA 7 Y<|q1 (H0_ A_ Y Y Y Y Hy_) Y λw0=>call (out_Num _ _ _ pE) Y Y λw1=>?_;have :=Ad_ o (s.length:Int) 2;refine kL 1 (Li_ _) Y Y Y λw2=>?_;have :=Ew_ (D_ o (s.length:Int) 2) s;refine kB 4 [] λ_=>?_;exact uH
theorem Yt_{s:Bs}:Fb prog gb 67 [.str s] 302 (In.pc (⟨s,0⟩)):=by
 exact fb_cw A_ func67 Y ntmps67 Y (At_ func67) Y Y λw N H hG=>jB 14 [0] Y λB0=>rb Y Y Y Y Y<|ples_rfl
theorem Jm_{i:In}{code:Int}:Fm prog gb 171 [aA code] 302 (In.pc i) (.tup []) (In.pc (B1_ i code)):=by
 refine Vg_ A_ func171 Y ntmps171 Y (At_ func171) Y Y Y Y λw wp b N H hG=>jA 3 Y<|q1 (qpne underlying175 Y Y) Y λw0=>jC 13 Y<|cnd Y (λh0=>?_) (λh0=>?_);have h1:=bl h0;have h2:=br h1;have p0:=dt h2;have h3:=br h0;have h4:=D4_ h3;have p1:=df h4;refine jB 11 [] Y λ_=>rm0n Y Y ?_ Y Y Y ?_;exact ple (by first|rfl|(simp[B1_, *];done));exact uC;refine jA 1 Y<|rm0n Y Y ?_ Y Y Y ?_;exact ple (by first|rfl|(simp[B1_, *];done));exact uC
theorem in_Raw{i:In}(n:Int):Fm prog gb 70 [aA n] 302 (In.pc i) (.str ((F6_ i n).1)) (In.pc ((F6_ i n).2)):=by
 refine Vg_ A_ func70 Y ntmps70 Y (At_ func70) Y Y Y Y λw wp b N H hG=>jA 11 Y<|q1 (qpeq underlying175 Y Y) Y λw0=>kM 14 (λh0=>?_) (λh0=>?_);have h1:=D4_ h0;have p0:=df h1;refine jA 2 Y<|cndT Y h0<|jA 8 Y<|rm1 Y Y ?_ Y Y Y ?_;exact zN;exact uD;have h1:=D0_ h0;have p0:=dt h1;refine kN 6 (λp1=>?_) λp2=>?_;refine jA 8 Y<|rm1 Y Y ?_ Y Y Y ?_;exact zN;exact uD;refine kN 12 (λp3=>?_) λp4=>?_;refine jA 3 Y<|ef (A3_ Jm_ Y Y Y Y Y λw1 w12p=>jA 10 Y<|rm1 Y Y ?_ Y Y Y ?_);exact zN;exact uD;refine jA 10 Y<|q1 (sshi A_ (n).toNat Y Y Y Y qX qX) Y λw1=>jA 11 Y<|q1 (sslo A_ (n).toNat Y Y Y Y qX qX) Y λw2=>jB 12 [] Y λ_=>rm1 Y Y ?_ Y Y Y ?_;exact zN;exact uD
theorem cb353:A4_ prog 353:=At_ func353
theorem strings_Split(s p:Bs)(hp:p=[46])(hs:s.length<4294967281):aC 353 [.str s, .str p] (.sl strc (dots s)):=
 ⟨cb353,rfl,λN H L w us hg hsim hm=>by
   obtain⟨v1,_,rfl,h1,h2⟩:=hsim.inv_cons;obtain⟨v2,_,rfl,h3,h4⟩:=h2.inv_cons
   cases h4.inv_nil
   rw[h1.inv_str.1,h3.inv_str.1]
   refine (SW.strings_Split H s p hp (gbML hg) hs N L w hm).mono λ_ _ ⟨v,H',h5,⟨a,c,h6,h7⟩,h8,h9⟩=>⟨v,H',h5,?_,h8,h9⟩
   rw[h6]
   exact Sim.of_slh (k:=1) ⟨h7.1,λm hm=>by
     have⟨cs,hE,hat⟩:=h7.2 m hm;have⟨hE1,hE2⟩:=hE;subst hE1;exact⟨_,⟨rfl,Sims.nil.cons (Sim.str hE2),λu hu=>by simp at hu;subst hu;rfl⟩,hat⟩⟩ (by have :=dots_le s;omega)⟩
theorem Tq_{s:Bs}(hs:s.length<4294967281:=by omega):aC 338 [.str s] (.sl strc (C0_ s)):=by
 refine jG func338 ntmps338 Y λw N H hG=>kN 12 (λp0=>?_) λp1=>?_;refine jA 7 Y<|rt1 Y Y<|Kr_ ?_;simp[C0_, *];refine kL 5 (strings_Split _ _ (by rfl) qX) Y Y Y λw0=>kR 4 ?_;simp[C0_, *]
theorem words_key{s:Bs}(besides:List Bs):aC 286 [.str s, .sl strc besides] (aA (keyE besides s)):=by
 refine kG func286 ntmps286 λw N H hG=>?_;have s_l:s.length<=9223372036854775807:=w.1;have besides_l:besides.length<=140737488355328:=w.2.1.1;refine kN 14 (λp0=>?_) λp1=>?_;refine kR 8 ?_;simp[keyE, *];refine kL 9 Tq_ Y Y Y λw0=>jA 5 Y<|lP (ι:=Nat) [0,1,9,10,11,12,13,14] [] (λk=>⟨[(15,aA k)],[],k<=(C0_ s).length/\(C0_ s).any (S5_ besides)=((C0_ s).drop k).any (S5_ besides),(C0_ s).length-k⟩) 0 ⟨Nat.zero_le _,by simp⟩<|λk ⟨hk1,hk2⟩=>have hwl:=U7_ s;kN 6 (λp2=>?_) λp3=>?_;have⟨c0,hc0⟩:=getE (xs:=C0_ s) (m:=k) qX;refine jA 6 Y<|jI k hc0 Y Y Y λw1=>jA 13 Y<|lP (ι:=Nat) [0,1,6,9,10,11,12,13,14,15,16,17,18,19,20] [] (λj=>⟨[(21,aA j)],[],j<=besides.length/\besides.contains c0=(besides.drop j).contains c0,besides.length-j⟩) 0 ⟨Nat.zero_le _,by simp⟩<|λj ⟨hj1,hj2⟩=>kN 6 (λp4=>?_) λp5=>?_;have⟨c1,hc1⟩:=getE (xs:=besides) (m:=j) qX;refine jA 6 Y<|jI j hc1 Y Y Y λw2=>kN 11 (λp6=>?_) λp7=>?_;refine jC 12 Y<|nN (k+1) ?_;refine⟨by omega,?_⟩;rw[hk2,D9_ hc0,EI];have hb:S5_ besides c0=false:=by
   unfold S5_
   rw[hj2,D9_ hc1]
   first|(simp[*];done)|simp_all
 simp[hb];refine jC 7 Y<|nN (j+1) ?_;refine⟨by omega,?_⟩;rw[hj2,D9_ hc1,List.contains_cons];simp[*];refine jA 11 Y<|Ha_ Y (λhc=>(Zv_)) Y Y Y λ_=>jC 4 Y<|cnd Y (λh0=>?_) (λh0=>?_);refine kR 12 ?_;have hb:S5_ besides c0=true:=by
   exact rU
 exact rV;have h1:=orl h0;have p6:=df h1;have h2:=orr h0;have h3:=D0_ h2;refine jC 7 Y<|nN (k+1) ?_;refine⟨by omega,?_⟩;rw[hk2,D9_ hc0,EI];have hb:S5_ besides c0=false:=by
   exact rU
 simp[hb];refine kR 12 ?_;unfold keyE;exact tV
theorem words_Key{s:Bs}:aC 211 [.str s] (aA (keyE [] s)):=by
 refine jG func211 ntmps211 Y λw N H hG=>kL 8 (Fn.le (words_key []) (B_ (ple Y) (B_ Ay_ Bd_)) (ple Y) Y) Y Y Y λw0=>kR 4 ?_;rfl
theorem ag2:Ag prog 2 false:=λw=>by kernel_rfl
theorem ag5:Ag prog 5 false:=λw=>by kernel_rfl
theorem ag9:Ag prog 9 false:=λw=>by kernel_rfl
theorem eqg298:prog.eqGuardType prog.depth 298=false:=by kernel_rfl
theorem mixd:prog.follows .mixedOrders=true:=by kernel_rfl
theorem veq298(p q:Pair):∀ (H:Hp) (vs us:List Value),Sims H (Pair.pc p) vs->Sims H (Pair.pc q) us->EqV prog 10000 298 (.agg vs.toArray) (.agg us.toArray) (decide (p=q)):=by
 intro H vs us hv hu;obtain⟨_,_,rfl,v0,v_0⟩:=hv.inv_cons;obtain⟨_,_,rfl,v1,v_1⟩:=v_0.inv_cons;obtain⟨_,_,rfl,v2,v_2⟩:=v_1.inv_cons;obtain⟨_,_,rfl,v3,v_3⟩:=v_2.inv_cons
 cases v_3.inv_nil
 cases v0.inv_str.1;cases v1.inv_int.1;cases v2.inv_int.1;cases v3.inv_str.1
 obtain⟨_,_,rfl,u0,u_0⟩:=hu.inv_cons;obtain⟨_,_,rfl,u1,u_1⟩:=u_0.inv_cons;obtain⟨_,_,rfl,u2,u_2⟩:=u_1.inv_cons;obtain⟨_,_,rfl,u3,u_3⟩:=u_2.inv_cons
 cases u_3.inv_nil
 cases u0.inv_str.1;cases u1.inv_int.1;cases u2.inv_int.1;cases u3.inv_str.1
 exact EqV.to' (J1_ underlying298 (H9_ ag9 Y Y (M4_ underlying9) (H9_ ag5 Y Y (De_ underlying5) (H9_ ag2 Y Y (De_ underlying2) (H9_ ag9 Y Y (M4_ underlying9) J0_))))) nL
theorem eq_Pair{a:List Pair}{b:List Pair}:aC 322 [.sl Pair.pc a, .sl Pair.pc b] (.bool (decide (a=b))):=by
 refine kG func322 ntmps322 λw N H hG=>?_;have a_l:a.length<=140737488355328:=w.1.1;refine kM 15 (λh0=>?_) (λh0=>?_);exact yT;have h1:=D0_ h0;have p0:=dt h1;refine jA 11 Y<|lP (ι:=Nat) [0,1,6,7,8,9,10,11,12] [] (λk=>⟨[(13,aA k)],[],k<=a.length /\ decide (a=b) = decide (a.drop k=b.drop k),a.length-k⟩) 0 ⟨Nat.zero_le _,rfl⟩<|λk ⟨hk1,hk2⟩=>kM 6 (λh2=>?_) (λh2=>?_);have p1:=dt h2;refine jA 11 Y<|aN [0,1,2,3,4,5] 9 mixd<|kE [0,1] 7 ?_;have⟨c0,hc0⟩:=getE (xs:=a) (m:=k) qX;refine vq 2 (qidx A_ k Y Y Y hc0 Y Y Y Y) Y Y λw0=>kE [3,4,5] 3 ?_;have⟨c1,hc1⟩:=getE (xs:=b) (m:=k) qX;refine vq 6 (qidx A_ k Y Y Y hc1 Y Y Y Y) Y Y λw1=>jE [7] 1 Y<|vq 8 (sane Y Y eqg298 (veq298 c0 c1)) Y Y λw2=>vD<|kM 1 (λh3=>?_) (λh3=>?_);exact yY;exact yX;exact xE
theorem head_Same{a:List Pair}{b:List Pair}:aC 284 [.sl Pair.pc a, .sl Pair.pc b] (.bool (decide (a=b))):=by
 refine jG func284 ntmps284 Y λw N H hG=>kL 9 eq_Pair Y Y Y λw0=>kR 4 ?_;rfl
theorem idxF_Pair{s:List Pair}{f:FuncId}{f_fst f_cap:List PV}(f_p:Pair->Bool)(f_h:∀ x,aC f (argsP.apL f_fst ((x.ag)::f_cap)) (.bool (f_p x))):aC 336 [.sl Pair.pc s, .fn f f_fst f_cap] (aA (idxP f_p s)):=by
 refine kG func336 ntmps336 λw N H hG=>?_;have s_l:s.length<=140737488355328:=w.1.1;refine jA 14 Y<|lP (ι:=Nat) [0,1,6,7] [] (λk=>⟨[(8,aA k)],[],k<=s.length/\idxP f_p s=idxF f_p k (s.drop k),s.length-k⟩) 0 ⟨Nat.zero_le _,rfl⟩<|λk ⟨hk1,hk2⟩=>kM 6 (λh0=>?_) (λh0=>?_);have p0:=dt h0;have⟨c0,hc0⟩:=getE (xs:=s) (m:=k) qX;refine jA 15 Y<|jI k hc0 Y Y Y λw0=>kL 1 (f_h c0) Y Y Y λw1=>kM 2 (λh1=>?_) (λh1=>?_);exact vW;exact vO;exact xC
theorem head_Find1(p:Pair)(key:Bs):aC 337 [p.ag, .el [.str key] 0] (.bool (decide (p.key=key))):=by
 exact jG func337 ntmps337 Y λw N H hG=>jB 16 [0] Y λB0=>uG
theorem head_Find{h:List Pair}{key:Bs}:aC 285 [.sl Pair.pc h, .str key] (.tup [.agg (Pair.pc ((K7_ h key).getD Pair.zero)), .bool ((K7_ h key).isSome)]):=by
 refine jG func285 ntmps285 Y λw N H hG=>jB 10 [0,1] Y λB0=>freeze (i:=0) (t:=3) Y Y Y Y<|kL 1 (idxF_Pair (λz_4:Pair=>decide (z_4.key=key)) (λz_4=>head_Find1 z_4 key)) Y Y Y λw0=>have hix5:=Jj_ (λz_4:Pair=>decide (z_4.key=key)) h;kN 10 (λp0=>?_) λp1=>?_;refine jB 9 [] Y λ_=>rt2 Y Y<|ple ?_;have e:=Ph_ pA;have e0:K7_ h key=none:=by unfold K7_;rw[<- e];congr 1;funext x;exact Ye_ _ _
 rw[e0];rfl;have⟨c0,hc0⟩:=getE (xs:=h) (m:=(idxP (λz_4:Pair=>decide (z_4.key=key)) h).toNat) qX;refine jA 6 Y<|q1 (qidx A_ (idxP (λz_4:Pair=>decide (z_4.key=key)) h).toNat Y Y qX hc0 Y Y Y Y) Y λw1=>jB 6 [] Y λ_=>rt2 Y Y<|ple ?_;have e:=(idxP_get pA hc0).2;have e0:K7_ h key=some c0:=by unfold K7_;rw[<- e];congr 1;funext x;exact Ye_ _ _
 rw[e0];rfl
theorem Xp_{p:Pair}{ahead:List Pair}:aC 210 [p.ag, .sl Pair.pc ahead] (aA (Du_ p ahead)):=by
 refine jG func210 ntmps210 Y λw N H hG=>jB 11 [0] Y λB0=>call Fd_ Y Y λw0=>kM 9 (λh0=>?_) (λh0=>?_);have h1:=D4_ h0;exact vZ;have h1:=D0_ h0;have p0:=dt h1;refine kL 7 head_Find Y Y Y λw1=>jB 18 [1] Y λB1=>cnd Y (λh2=>have p1:=dt h2;vZ) λh2=>have p1:=df h2;jC 14 Y<|cnd Y (λh3=>have h4:=bl h3;have h5:=br h3;vZ) λh3=>jC 18 Y<|cnd Y (λh4=>have h5:=bl h4;have h6:=bl h5;have p2:=dt h6;have h7:=br h5;have h8:=D4_ h7;have h9:=br h4;have h10:=D4_ h9;vZ) λh4=>jC 14 Y<|cnd Y (λh5=>have h6:=bl h5;have p2:=dt h6;have h7:=br h5;have h8:=D4_ h7;jA 2 Y<|cndT Y h5<|vZ) λh5=>jC 12 Y<|cnd Y (λh6=>have h7:=bl h6;have h8:=D4_ h7;have h9:=br h6;have h10:=D4_ h9;vZ) λh6=>kM 6 (λh7=>?_) (λh7=>?_);exact vZ;refine kR 9 ?_;refine congrArg (PV.int .i64) ?_;simp only[bl1] at *;unfold Du_;exact zA
theorem Mx_{h:List Pair}:aC 112 [.sl Pair.pc h] (aA (Dz_ h)):=by
 refine jG func112 ntmps112 Y λw N H hG=>kN 13 (λp0=>?_) λp1=>?_;refine kR 7 ?_;simp[Dz_, *];refine jA 11 Y<|lP (ι:=Nat) [0,6,7,8,9,10] [] (λk=>⟨[(11,aA k)],[],k<=h.length/\Iv_ [] h=Iv_ (h.take k) (h.drop k),h.length-k⟩) 0 ⟨Nat.zero_le _,rfl⟩<|λk ⟨hk1,hk2⟩=>kN 6 (λp2=>?_) λp3=>?_;have⟨c0,hc0⟩:=getE (xs:=h) (m:=k) qX;refine jA 7 Y<|jI k hc0 Y Y Y λw0=>jB 7 [0] Y λB0=>aN [1,2,3,4,5,6] 6 mixd<|jE [0,1,2] 3 Y<|vq 3 (lshi A_ k Y Y Y Y Y (λ_=>rfl) Y) Y Y λw1=>vC 4 Y Xp_ Y λw2=>have :=Q1_ c0 (h.take k);jE [5] 0 Y<|vD<|kM 7 (λh0=>?_) (λh0=>?_);exact yU;exact yS;refine kR 11 ?_;unfold Dz_;exact tV
theorem deed_sameBind{a:R_}{b:R_}:aC 207 [a.ag,b.ag] (.bool (decide (a=b))):=by
 exact jG func207 ntmps207 Y λw N H hG=>jD 40 [0,1] Y λB0=>Ha_ Y (λhc=>(head_Same)) Y Y Y λ_=>jC 12 Y<|uF
theorem Wr_{yes:Bool}:aC 361 [.bool yes] (aB (bitN yes)):=by
 refine jG func361 ntmps361 Y λw N H hG=>kM 11 (λh0=>?_) (λh0=>?_);refine kR 7 ?_;simp only[bitN, *];rfl;refine kR 8 ?_;simp only[bitN, *];rfl
theorem Fn_(i:In){bytes:Int}:Fm prog gb 71 [aA bytes] 302 (In.pc i) (aB (((Ah_ i bytes)).1)) (In.pc (((Ah_ i bytes)).2)):=by
 refine Vg_ A_ func71 Y ntmps71 Y (At_ func71) Y Y Y Y λw wp b N H hG=>have hb0:=Xs_ i (min bytes 8);jA 16 Y<|ef (A3_ (in_Raw (min bytes 8)) Y Y Y Y Y λw0 w1p=>ef (ss2b A_ Y Y Y Y Y Y Y qX Y<|jA 5 Y<|lP (ι:=Nat) [0,1,4,8,9,10,11,12,13] [0] (λk=>⟨[(5,aB (beN ((F6_ i (min bytes 8)).1.take k):Int)),(14,aA k)],[],k<=(F6_ i (min bytes 8)).1.length,(F6_ i (min bytes 8)).1.length-k⟩) 0 ?_ ?_));exact B5 _;rintro k hp0;refine kN 6 (λp0=>?_) λp1=>?_;have⟨c0,hc0⟩:=getE (xs:=(F6_ i (min bytes 8)).1) (m:=k) qX;refine jA 6 Y<|jI k hc0 Y Y Y λw1=>have :=Fv_ ((AC (AO .u64) (A0 .u64 ((beN ((F6_ i (min bytes 8)).1.take k):Int)*2 ^ (min (8:Int).toNat (AO .u64)))) |||AC (AO .u64) ((c0).toNat:Int)).toNat);jC 18 Y<|nN (k+1) ?_ (hA:=⟨(congrArg (PV.int .u64) (num_step hc0 qX)),rfl,trivial⟩);omega;refine jA 12 Y<|rm1 Y Y ?_ Y Y Y ?_;refine ple ?_;simp only[Ah_];rw[List.take_of_length_le qX];exact ples Y
theorem I3_{i:In}{most:Int}:Fm prog gb 167 [aA most] 302 (In.pc i) (.str (((Ag_ i most)).1)) (In.pc (((Ag_ i most)).2)):=by
 refine Vg_ A_ func167 Y ntmps167 Y (At_ func167) Y Y Y Y λw wp b N H hG=>jA 8 Y<|ef (A3_ (Fn_ _) Y Y Y Y Y λw0 w1p=>have :=B9_ i 2;q1 (H0_ A_ Y Y Y Y Wa_) Y λw1=>kN 11 (λp0=>?_) λp1=>?_);refine jA 2 Y<|ef (A3_ Jm_ Y Y Y Y Y λw2 w5p=>jA 6 Y<|ef (A3_ (in_Raw _) Y Y Y Y Y λw3 w6p=>jA 4 Y<|rm1 Y Y ?_ Y Y Y ?_));exact ple (by simp[Ag_, *]);exact ples (by simp[Ag_,In.pc, *]);refine jA 6 Y<|ef (A3_ (in_Raw _) Y Y Y Y Y λw2 w8p=>jA 4 Y<|rm1 Y Y ?_ Y Y Y ?_);exact ple (by simp[Ag_, *]);exact ples (by simp[Ag_,In.pc, *])
theorem in_Left{i:In}:Fm prog gb 173 [] 302 (In.pc i) (aA (i.s.length:Int)) (In.pc i):=by
 refine Vg_ A_ func173 Y ntmps173 Y (At_ func173) Y Y Y Y λw wp b N H hG=>jA 9 Y<|q1 (qpeq underlying175 Y Y) Y λw1=>jA 16 Y<|rm1 Y Y ?_ Y Y Y ?_;exact ple Y;exact ples Y
theorem I2_{i:In}:Fm prog gb 166 [] 302 (In.pc i) (aA i.err) (In.pc i):=by
 refine Vg_ A_ func166 Y ntmps166 Y (At_ func166) Y Y Y Y λw wp b N H hG=>jA 9 Y<|q1 (qpeq underlying175 Y Y) Y λw1=>jA 15 Y<|rm1 Y Y ?_ Y Y Y ?_;exact ple Y;exact ples Y
theorem in_End{i:In}:Fm prog gb 73 [] 302 (In.pc i) (aA (inEnd i)) (In.pc i):=by
 refine Vg_ A_ func73 Y ntmps73 Y (At_ func73) Y Y Y Y λw wp b N H hG=>jA 9 Y<|ef (A3_ I2_ Y Y Y Y Y λw0 w1p=>jA 3 Y<|V0_ Y (λhc=>(in_Left)) Y Y Y Y Y Y λ_=>jC 4 Y<|cnd Y (λh0=>?_) (λh0=>?_));have h1:=bl h0;have p0:=dt h1;have h2:=br h0;have p1:=dt h2;refine jA 7 Y<|rm1 Y Y ?_ Y Y Y ?_;exact qW;exact ples Y;refine jA 5 Y<|ef (A3_ I2_ Y Y Y Y Y λw1 w7p=>jA 4 Y<|rm1 Y Y ?_ Y Y Y ?_);exact qW;exact ples Y
theorem Mw_{pattern:Bs}{key:Bs}(hp:pattern.length<4294967281:=by first|omega|(simp;done)|decide)(hk:key.length<4294967281:=by first|omega|(simp;done)|decide):aC 339 [.str pattern, .str key] (.bool (mt (C0_ pattern) (C0_ key))):=by
 refine jG func339 ntmps339 Y λw N H hG=>kL 8 Tq_ Y Y Y λw0=>kL 1 Tq_ Y Y Y λw1=>jA 18 Y<|lP (ι:=Nat×Nat×Int×Nat) [0,1,5,6,11,12,13,14] [] (λ⟨i,j,b,f⟩=>⟨[(7,aA i),(8,aA j),(9,aA b),(10,aA f)],[],MI (C0_ pattern) (C0_ key) i j b f,mmu (C0_ pattern) (C0_ key) j b f⟩) ⟨0,0,(-1),0⟩ ?_ ?_;exact MI.start _ _;rintro⟨i,j,b,f⟩ hp0;have hmi:=hp0;have hwp:=U7_ pattern;have hwk:=U7_ key;have :=hmi.hi;have :=hmi.hj;have :=hmi.hf;have :=hmi.hb;have :=hmi.hbi;refine kM 9 (λh0=>?_) (λh0=>?_);have p0:=dt h0;have⟨c0,hc0⟩:=getJ (C0_ pattern) i;refine jA 13 Y<|q1g [25,26] Y (λhc=>qidx A_ i Y Y Y (hc0 pF) Y Y Y Y) Y Y Y λ_=>jC 6 Y<|cnd Y (λh1=>?_) (λh1=>?_);have h2:=bl h1;have p1:=dt h2;have h3:=br h1;have p2:=dt h3;refine kC 15 ?_;have⟨c1,hc1⟩:=getE (xs:=C0_ key) (m:=j) qX;refine next ⟨(i+1),j,((i:Int)+1),j⟩ Y Y ⟨(congrArg (PV.int .i64) qX),rfl,rfl,rfl,trivial⟩ Z ?_ ?_;exact mmu_hash hmi qX;exact MI.hash hmi nU;refine jA 1 Y<|aN [0,1,2,3,4,5] 23 mixd<|jE [0,1,2,3,4,5,6] 16 Y<|vqg 7 [41,42] Y Y Y (λhc=>qidx A_ i Y Y Y (hc0 pF) Y Y Y Y) Y λ_=>kF [8,9,10,11,12] 10 ?_;refine vqg 13 [47,48] Y Y Y (λhc=>qidx A_ i Y Y Y (hc0 pF) Y Y Y Y) Y λ_=>kF [14,15,16] 6 ?_;have⟨c1,hc1⟩:=getJ (C0_ key) j;refine vqg 17 [51,52] Y Y Y (λhc=>qidx A_ j Y Y Y (hc1 pF) Y Y Y Y) Y λ_=>kF [18,19,20,21,22] 0 ?_;refine vD<|kM 1 (λh2=>?_) (λh2=>?_)
 . have h3:=bl h2;have p1:=dt h3;refine jC 10 Y<|next ⟨(i+1),(j+1),b,f⟩ Y Y ⟨(congrArg (PV.int .i64) qX),rfl,rfl,rfl,trivial⟩ Z ?_ ?_
   exact mmu_step qX
   first|exact MI.step hmi (hc0 pF) (hc1 pF) pA (by first|exact .inl pA|exact .inr pA)|exact MI.step hmi (hc0 pF) (hc1 pF) (by simp_all) (by first|(left;simp_all;done)|(right;simp_all;done)|grind)
 refine kM 7 (λh3=>?_) (λh3=>?_);have p1:=dt h3;refine kC 15 ?_;have hbad:∀ w,(C0_ pattern)[i]? = some w->w≠[35]/\w≠[42]/\w≠c1:=by
   intro w hw;have⟨hlt,_⟩:=List.getElem?_eq_some_iff.1 hw
   rw[(hc0 pF)] at hw;cases hw
   first|exact⟨by assumption,by assumption,by assumption⟩|(refine⟨?_,?_,?_⟩<;>intro q<;>simp_all)
 refine next ⟨b.toNat,(f+1),b,(f+1)⟩ Y Y ⟨(congrArg (PV.int .i64) qX),rfl,rfl,rfl,trivial⟩ Z ?_ ?_;exact mmu_back hmi.hf qX;exact MI.back hmi (hc1 pF) qX hbad;have p1:=df h3;refine kR 11 ?_;have hbad:∀ w,(C0_ pattern)[i]? = some w->w≠[35]/\w≠[42]/\w≠c1:=by
   intro w hw;have⟨hlt,_⟩:=List.getElem?_eq_some_iff.1 hw
   rw[(hc0 pF)] at hw;cases hw
   first|exact⟨by assumption,by assumption,by assumption⟩|(refine⟨?_,?_,?_⟩<;>intro q<;>simp_all)
 exact congrArg PV.bool (MI.none hmi (hc1 pF) qX hbad).symm;have p0:=df h0;refine jA 7 Y<|lP (ι:=Nat) [0,1,5,6,8,9,10,11,12,13,14,15,16,17,18] [] (λq=>⟨[(7,aA q)],[],q<=(C0_ pattern).length/\mt (C0_ pattern) (C0_ key)=mt ((C0_ pattern).drop q) [],(C0_ pattern).length-q⟩) i ⟨by omega,hmi.fin qX⟩<|λq ⟨hq1,hq2⟩=>have⟨c0,hc0⟩:=getJ (C0_ pattern) q;jA 10 Y<|q1g [74,75] Y (λhc=>qidx A_ q Y Y Y (hc0 pF) Y Y Y Y) Y Y Y λ_=>jC 5 Y<|cnd Y (λh1=>have h2:=bl h1;have p1:=dt h2;have h3:=br h1;have p2:=dt h3;jC 9 Y<|nN (q+1) ⟨by omega,mt_end hq2 nU⟩) λh1=>kR 15 ?_;refine congrArg PV.bool ?_;rw[hq2];by_cases hql:q<(C0_ pattern).length;rw[mt_endN (hc0 pF) (by first|assumption|simp_all)];rw[decide_eq_false_iff_not];omega;have hqe:q=(C0_ pattern).length:=by omega
 subst hqe;rw[List.drop_length];simp[mt]
theorem words_Pattern{s:Bs}:aC 310 [.str s] (aA (keyE patB s)):=by
 refine jG func310 ntmps310 Y λw N H hG=>jA 8 Y<|ef (bsl 0 strc [[42],[35]] A_ Y Y Y Y Y (λ_=>rfl) Y Y λu0=>ef (W5_ 0 Y (words_key _) Y Y Y λw0=>kR 4 ?_));rfl
theorem Oq_(h:List Pair):aC 61 [.sl Pair.pc h] (.tup [.str (Bv_ h),aA (Dz_ h)]):=by
 refine kG func61 ntmps61 λw N H hG=>?_;have h_l:h.length<=140737488355328:=w.1.1;refine kL 10 Mx_ Y Y Y λw0=>kM 9 (λh0=>?_) (λh0=>?_);have h1:=D4_ h0;have p0:=df h1;refine jA 9 Y<|rt2 Y Y<|ple ?_;unfold Bv_;rw[if_neg qX];have h1:=D0_ h0;have p0:=dt h1;refine jA 7 Y<|q1 (H0_ A_ Y Y Y Y Hy_) Y λw1=>call (out_Num aE _ _ pE) Y Y λw2=>have :=Ad_ aE (h.length:Int) 1;jB 13 [0] Y λB0=>lP (ι:=Nat×Out) [0,2,3,4,5,8,9,10,11,13,14,15,16,17,18,19] [] (λ⟨k,o⟩=>⟨[(20,aA k)],[(0, .box (B0 0) 167 [.str o.s,aA o.err])],k<=h.length/\h.foldl Is_ (D_ ⟨[],0⟩ h.length 1)=(h.drop k).foldl Is_ o/\o.s.length<=8+110*k,h.length-k⟩) ⟨0,(D_ aE (h.length:Int) 1)⟩ ⟨Nat.zero_le _,rfl,by simp at *;omega⟩<|λ⟨k,o⟩ ⟨hk1,hk2,hk3⟩=>have hok:=Mm_ (h:=h) pA;kN 6 (λp1=>?_) λp2=>?_
 . have⟨c0,hc0⟩:=getE (xs:=h) (m:=k) qX;have hpk:=hok.2 c0 (A1 hc0);refine jA 6 Y<|jI k hc0 Y Y Y λw3=>jB 6 [1] Y λB1=>aN [2,3,4,5,6,7] 9 mixd<|jE [0,1,2] 6 Y<|vC 3 Y (Ek_ _) Y λw4=>have :=Be_ o c0.key;jE [4,5,6] 2 Y<|vC 7 Y (out_Num _ _ _ pE) Y λw5=>have :=Ad_ (O_ o c0.key) c0.kind 1;vT 8 Y (sA A_ ?_);refine vD<|kN 14 (λp3=>?_) λp4=>?_
   . refine jA 5 Y<|call (out_Num _ _ _ pE) Y Y λw6=>have :=Ad_ (D_ (O_ o c0.key) c0.kind 1) (A0 .u64 c0.num) 8;jD 9 [] Y λ_=>next ⟨(k+1),(D_ (D_ (O_ o c0.key) c0.kind 1) (A0 .u64 c0.num) 8)⟩ Y Y ⟨Y,Z⟩ ⟨Y,Z⟩ ?_ ?_
     exact sS
     have e:(D_ (D_ (O_ o c0.key) c0.kind 1) (A0 .u64 c0.num) 8)=Is_ o c0:=by unfold Is_;first|(rw[if_pos qX];done)|(rw[if_neg qX,if_pos qX];done)|(rw[if_neg qX,if_neg qX,if_pos qX];done)|(rw[if_neg qX,if_neg qX,if_neg qX];done)
     exact sT
   refine kN 6 (λp5=>?_) λp6=>?_
   . refine kL 4 (Ek_ _) Y Y Y λw6=>have :=Be_ (D_ (O_ o c0.key) c0.kind 1) c0.text;jD 9 [] Y λ_=>next ⟨(k+1),(O_ (D_ (O_ o c0.key) c0.kind 1) c0.text)⟩ Y Y ⟨Y,Z⟩ ⟨Y,Z⟩ ?_ ?_
     exact sS
     have e:(O_ (D_ (O_ o c0.key) c0.kind 1) c0.text)=Is_ o c0:=by unfold Is_;first|(rw[if_pos qX];done)|(rw[if_neg qX,if_pos qX];done)|(rw[if_neg qX,if_neg qX,if_pos qX];done)|(rw[if_neg qX,if_neg qX,if_neg qX];done)
     exact sT
   refine kN 6 (λp7=>?_) λp8=>?_
   . refine jA 5 Y<|call (out_Num _ _ _ pE) Y Y λw6=>have :=Ad_ (D_ (O_ o c0.key) c0.kind 1) (A0 .u64 c0.num) 1;jD 9 [] Y λ_=>next ⟨(k+1),(D_ (D_ (O_ o c0.key) c0.kind 1) (A0 .u64 c0.num) 1)⟩ Y Y ⟨Y,Z⟩ ⟨Y,Z⟩ ?_ ?_
     exact sS
     have e:(D_ (D_ (O_ o c0.key) c0.kind 1) (A0 .u64 c0.num) 1)=Is_ o c0:=by unfold Is_;first|(rw[if_pos qX];done)|(rw[if_neg qX,if_pos qX];done)|(rw[if_neg qX,if_neg qX,if_pos qX];done)|(rw[if_neg qX,if_neg qX,if_neg qX];done)
     exact sT
   refine jC 8 Y<|next ⟨(k+1),(D_ (O_ o c0.key) c0.kind 1)⟩ Y Y ⟨Y,Z⟩ ⟨Y,Z⟩ ?_ ?_
   exact sS
   have e:(D_ (O_ o c0.key) c0.kind 1)=Is_ o c0:=by unfold Is_;first|(rw[if_pos qX];done)|(rw[if_neg qX,if_pos qX];done)|(rw[if_neg qX,if_neg qX,if_pos qX];done)|(rw[if_neg qX,if_neg qX,if_neg qX];done)
   exact sT
 refine kL 8 (Ee_ _) Y Y Y λw3=>jA 5 Y<|rt2 Y Y<|ple ?_;unfold Bv_;rw[if_pos pA];rw[A9 qX,List.foldl_nil] at hk2;rw[show Xo_ h=o from hk2];have e0:Dz_ h=0:=by assumption
 rw[e0]
theorem head_one{i:In}:Fm prog gb 263 [] 302 (In.pc i) (.agg (Pair.pc (((Bx_ i)).1))) (In.pc (((Bx_ i)).2)):=by
 refine Vg_ A_ func263 Y ntmps263 Y (At_ func263) Y Y Y Y λw wp b N H hG=>jB 8 [1] Y λB0=>ef (A3_ I3_ Y Y Y Y Y λw0 w3p=>?_);have :=C7_ i 16;generalize hg0:Ag_ i 16=g0 at *;refine jA 1 Y<|ef (A3_ (Fn_ _) Y Y Y Y Y λw1 w6p=>?_);have :=B9_ ((g0).2) 1;generalize hg1:Ah_ ((g0).2) 1=g1 at *;refine q1 (H0_ A_ Y Y Y Y rg_u8) Y λw2=>jB 19 [2] Y λB1=>cn Y (λp0=>?_) λp1=>?_
 . refine jA 2 Y<|ef (A3_ (Fn_ _) Y Y Y Y Y λw3 w14p=>?_);have :=B9_ ((g1).2) 8;generalize hg2:Ah_ ((g1).2) 8=g2 at *;refine jB 13 [] Y λ_=>rm1 Y Y ?_ Y Y Y ?_;have e:Bx_ i=((⟨(g0).1,(g1).1,(A0 .i64 ((g2).1)),[]⟩:Pair),((g2).2)):=by unfold Bx_;simp only;(repeat first|simp only[hg0,hg1,hg2]|rw[if_pos qX]|rw[if_neg qX]);all_goals first|rfl|(rw[Gb_];done)|(simp[*];done)|(rw[Gb_];simp[*];done)
   exact zM
   have e:Bx_ i=((⟨(g0).1,(g1).1,(A0 .i64 ((g2).1)),[]⟩:Pair),((g2).2)):=by unfold Bx_;simp only;(repeat first|simp only[hg0,hg1,hg2]|rw[if_pos qX]|rw[if_neg qX]);all_goals first|rfl|(rw[Gb_];done)|(simp[*];done)|(rw[Gb_];simp[*];done)
   exact zO
 refine kN 6 (λp2=>?_) λp3=>?_
 . refine jA 2 Y<|ef (A3_ I3_ Y Y Y Y Y λw3 w21p=>?_);have :=C7_ ((g1).2) 64;generalize hg2:Ag_ ((g1).2) 64=g2 at *;refine jB 12 [] Y λ_=>rm1 Y Y ?_ Y Y Y ?_;have e:Bx_ i=((⟨(g0).1,(g1).1,0,(g2).1⟩:Pair),((g2).2)):=by unfold Bx_;simp only;(repeat first|simp only[hg0,hg1,hg2]|rw[if_pos qX]|rw[if_neg qX]);all_goals first|rfl|(rw[Gb_];done)|(simp[*];done)|(rw[Gb_];simp[*];done)
   exact zM
   have e:Bx_ i=((⟨(g0).1,(g1).1,0,(g2).1⟩:Pair),((g2).2)):=by unfold Bx_;simp only;(repeat first|simp only[hg0,hg1,hg2]|rw[if_pos qX]|rw[if_neg qX]);all_goals first|rfl|(rw[Gb_];done)|(simp[*];done)|(rw[Gb_];simp[*];done)
   exact zO
 refine kN 6 (λp4=>?_) λp5=>?_
 . refine jA 2 Y<|ef (A3_ (Fn_ _) Y Y Y Y Y λw3 w28p=>?_);have :=B9_ ((g1).2) 1;generalize hg2:Ah_ ((g1).2) 1=g2 at *;refine q1 (H0_ A_ Y Y Y Y Wa_) Y λw4=>jB 12 [] Y λ_=>rm1 Y Y ?_ Y Y Y ?_;have e:Bx_ i=((⟨(g0).1,(g1).1,(g2).1,[]⟩:Pair),((g2).2)):=by unfold Bx_;simp only;(repeat first|simp only[hg0,hg1,hg2]|rw[if_pos qX]|rw[if_neg qX]);all_goals first|rfl|(rw[Gb_];done)|(simp[*];done)|(rw[Gb_];simp[*];done)
   exact zM
   have e:Bx_ i=((⟨(g0).1,(g1).1,(g2).1,[]⟩:Pair),((g2).2)):=by unfold Bx_;simp only;(repeat first|simp only[hg0,hg1,hg2]|rw[if_pos qX]|rw[if_neg qX]);all_goals first|rfl|(rw[Gb_];done)|(simp[*];done)|(rw[Gb_];simp[*];done)
   exact zO
 refine jA 2 Y<|ef (A3_ Jm_ Y Y Y Y Y λw3 w34p=>jB 10 [] Y λ_=>rm1 Y Y ?_ Y Y Y ?_);have e:Bx_ i=((⟨(g0).1,(g1).1,0,[]⟩:Pair),(B1_ ((g1).2) 8)):=by unfold Bx_;simp only;(repeat first|simp only[hg0,hg1]|rw[if_pos qX]|rw[if_neg qX]);all_goals first|rfl|(rw[Gb_];done)|(simp[*];done)|(rw[Gb_];simp[*];done)
 exact zM;have e:Bx_ i=((⟨(g0).1,(g1).1,0,[]⟩:Pair),(B1_ ((g1).2) 8)):=by unfold Bx_;simp only;(repeat first|simp only[hg0,hg1]|rw[if_pos qX]|rw[if_neg qX]);all_goals first|rfl|(rw[Gb_];done)|(simp[*];done)|(rw[Gb_];simp[*];done)
 exact zO
theorem head_Read{i:In}:Fm prog gb 168 [] 302 (In.pc i) (.sl Pair.pc (((Cd_ i)).1)) (In.pc (((Cd_ i)).2)):=by
 refine Vg_ A_ func168 Y ntmps168 Y (At_ func168) Y Y Y Y λw wp b N H hG=>jA 8 Y<|ef (A3_ (Fn_ _) Y Y Y Y Y λw0 w1p=>?_);have :=B9_ i 1;generalize hg0:Ah_ i 1=g0 at *;refine q1 (H0_ A_ Y Y Y Y Wa_) Y λw1=>kN 10 (λp0=>?_) λp1=>?_
 . refine jA 2 Y<|ef (A3_ Jm_ Y Y Y Y Y λw2 w7p=>jA 15 Y<|Ga_ (t:=4) (k:=4) (e:=298) 1 Pair.pc Y Y<|lP (ι:=Nat×(List Pair)×Value×In) [0,3,6,7,8,9,10,11,13] [] (λ⟨k,h,u_h,j⟩=>⟨[(4, .osl 1),(14,aA k)],[(1, .arr u_h 4 298 Pair.pc h),(0, .box b 302 [.str j.s,aA j.err])],k<=((g0).1).toNat/\Cd_ i=Iy_ (((g0).1).toNat-k) j h/\h.length<=k,((g0).1).toNat-k⟩) ⟨0,[],(.slice none 0 0),(B1_ ((g0).2) 6)⟩ ⟨Nat.zero_le _,by unfold Cd_;(repeat first|simp only[hg0]|rw[if_pos qX]|rw[if_neg qX]);all_goals rfl,B5 _⟩<|λ⟨k,h,u_h,j⟩ ⟨hk1,hk2,hk3⟩=>kN 6 (λp2=>?_) λp3=>?_)
   refine jA 7 Y<|ef (A3_ head_one Y Y Y Y Y λw3 w11p=>?_);generalize hg1:Bx_ j=g1 at *;refine jB 8 [2] Y λB0=>ef (A3_ I2_ Y Y Y Y Y λw4 w16p=>kM 3 (λh0=>?_) (λh0=>?_))
   have p4:=dt h0;refine jA 4 Y<|ef (W5_ 1 Y Xp_ Y Y Y λw5=>?_);have :=Q1_ ((g1).1) h;generalize hg2:Du_ ((g1).1) h=g2 at *;refine ef (A3_ Jm_ Y Y Y Y Y λw6 w22p=>jA 6 Y<|ef (A3_ I2_ Y Y Y Y Y λw7 w23p=>kM 3 (λh1=>?_) (λh1=>?_)))
   have h2:=D4_ h1;have p5:=df h2;refine jA 12 Y<|rm1 Y Y ?_ Y Y Y ?_
   have e:Cd_ i=([],(B1_ ((g1).2) g2)):=by
     exact tS
   exact Kr_ pP
   have e:Cd_ i=([],(B1_ ((g1).2) g2)):=by
     exact tS
   exact zO
   have h2:=D0_ h1;have p5:=dt h2;refine jA 5 Y<|ef (bsl 3 Pair.pc [((g1).1)] A_ Y Y Y Y Y (λ_=>rfl) Y Y λu0=>ef (app A_ [((g1).1)] Y Y Y Y Y Y Y Y Y (Hc_ Y Y) Y λu1=>jC 8 Y<|next ⟨(k+1),(h++[((g1).1)]),(u1),(B1_ ((g1).2) g2)⟩ Y Y ⟨Y,Y,Z⟩ ⟨Y,Y,Z⟩ ?_ ?_))
   exact sS
   exact uX
   have p4:=df h0;refine jA 6 Y<|ef (A3_ I2_ Y Y Y Y Y λw5 w32p=>jA 3 Y<|cndT Y (by rw[h0]<;>rfl)<|jA 12 Y<|rm1 Y Y ?_ Y Y Y ?_)
   have e:Cd_ i=([],((g1).2)):=by
     exact tR
   exact Kr_ pP
   have e:Cd_ i=([],((g1).2)):=by
     exact tR
   exact zO
   refine jA 11 Y<|Je_ 1 Y<|jA 1 Y<|rm1 Y Y ?_ Y Y Y ?_
   have e:Cd_ i=(h,j):=by
     exact tT
   exact ple pP
   have e:Cd_ i=(h,j):=by
     exact tT
   exact zO
 refine jA 15 Y<|Ga_ (t:=4) (k:=4) (e:=298) 1 Pair.pc Y Y<|lP (ι:=Nat×(List Pair)×Value×In) [0,3,6,7,8,9,10,13] [] (λ⟨k,h,u_h,j⟩=>⟨[(4, .osl 1),(14,aA k)],[(1, .arr u_h 4 298 Pair.pc h),(0, .box b 302 [.str j.s,aA j.err])],k<=((g0).1).toNat/\Cd_ i=Iy_ (((g0).1).toNat-k) j h/\h.length<=k,((g0).1).toNat-k⟩) ⟨0,[],(.slice none 0 0),((g0).2)⟩ ⟨Nat.zero_le _,by unfold Cd_;(repeat first|simp only[hg0]|rw[if_pos qX]|rw[if_neg qX]);all_goals rfl,B5 _⟩<|λ⟨k,h,u_h,j⟩ ⟨hk1,hk2,hk3⟩=>kN 6 (λp2=>?_) λp3=>?_;refine jA 7 Y<|ef (A3_ head_one Y Y Y Y Y λw2 w38p=>?_);generalize hg1:Bx_ j=g1 at *;refine jB 8 [2] Y λB0=>ef (A3_ I2_ Y Y Y Y Y λw3 w43p=>kM 3 (λh0=>?_) (λh0=>?_));have p4:=dt h0;refine jA 4 Y<|ef (W5_ 1 Y Xp_ Y Y Y λw4=>?_);have :=Q1_ ((g1).1) h;generalize hg2:Du_ ((g1).1) h=g2 at *;refine ef (A3_ Jm_ Y Y Y Y Y λw5 w49p=>jA 6 Y<|ef (A3_ I2_ Y Y Y Y Y λw6 w50p=>kM 3 (λh1=>?_) (λh1=>?_)));have h2:=D4_ h1;have p5:=df h2;refine jA 12 Y<|rm1 Y Y ?_ Y Y Y ?_;have e:Cd_ i=([],(B1_ ((g1).2) g2)):=by
   exact tS
 exact Kr_ pP;have e:Cd_ i=([],(B1_ ((g1).2) g2)):=by
   exact tS
 exact zO;have h2:=D0_ h1;have p5:=dt h2;refine jA 5 Y<|ef (bsl 3 Pair.pc [((g1).1)] A_ Y Y Y Y Y (λ_=>rfl) Y Y λu0=>ef (app A_ [((g1).1)] Y Y Y Y Y Y Y Y Y (Hc_ Y Y) Y λu1=>jC 8 Y<|next ⟨(k+1),(h++[((g1).1)]),(u1),(B1_ ((g1).2) g2)⟩ Y Y ⟨Y,Y,Z⟩ ⟨Y,Y,Z⟩ ?_ ?_));exact sS;exact uX;have p4:=df h0;refine jA 6 Y<|ef (A3_ I2_ Y Y Y Y Y λw4 w59p=>jA 3 Y<|cndT Y (by rw[h0]<;>rfl)<|jA 12 Y<|rm1 Y Y ?_ Y Y Y ?_);have e:Cd_ i=([],((g1).2)):=by
   exact tR
 exact Kr_ pP;have e:Cd_ i=([],((g1).2)):=by
   exact tR
 exact zO;refine jA 11 Y<|Je_ 1 Y<|jA 1 Y<|rm1 Y Y ?_ Y Y Y ?_;have e:Cd_ i=(h,j):=by
   exact tT
 exact ple pP;have e:Cd_ i=(h,j):=by
   exact tT
 exact zO
theorem ag36:Ag prog 36 false:=λw=>by kernel_rfl
theorem eqg80:prog.eqGuardType prog.depth 80=false:=by kernel_rfl
theorem eqg82:prog.eqGuardType prog.depth 82=false:=by kernel_rfl
theorem veq80(p q:X_):∀ (H:Hp) (vs us:List Value),Sims H (X_.pc p) vs->Sims H (X_.pc q) us->EqV prog 10000 80 (.agg vs.toArray) (.agg us.toArray) (decide (p=q)):=by
 intro H vs us hv hu;obtain⟨_,_,rfl,v0,v_0⟩:=hv.inv_cons;obtain⟨_,_,rfl,v1,v_1⟩:=v_0.inv_cons;obtain⟨_,_,rfl,v2,v_2⟩:=v_1.inv_cons
 cases v_2.inv_nil
 cases v0.inv_str.1;cases v1.inv_int.1;cases v2.inv_str.1
 obtain⟨_,_,rfl,u0,u_0⟩:=hu.inv_cons;obtain⟨_,_,rfl,u1,u_1⟩:=u_0.inv_cons;obtain⟨_,_,rfl,u2,u_2⟩:=u_1.inv_cons
 cases u_2.inv_nil
 cases u0.inv_str.1;cases u1.inv_int.1;cases u2.inv_str.1
 exact EqV.to' (J1_ underlying80 (H9_ ag9 Y Y (M4_ underlying9) (H9_ ag5 Y Y (De_ underlying5) (H9_ ag9 Y Y (M4_ underlying9) J0_)))) nR
theorem veq82(p q:Aa_):∀ (H:Hp) (vs us:List Value),Sims H (Aa_.pc p) vs->Sims H (Aa_.pc q) us->EqV prog 10000 82 (.agg vs.toArray) (.agg us.toArray) (decide (p=q)):=by
 intro H vs us hv hu;obtain⟨_,_,rfl,v0,v_0⟩:=hv.inv_cons;obtain⟨_,_,rfl,v1,v_1⟩:=v_0.inv_cons;obtain⟨_,_,rfl,v2,v_2⟩:=v_1.inv_cons;obtain⟨_,_,rfl,v3,v_3⟩:=v_2.inv_cons
 cases v_3.inv_nil
 cases v0.inv_str.1;cases v1.inv_int.1;cases v2.inv_int.1;cases v3.inv_str.1
 obtain⟨_,_,rfl,u0,u_0⟩:=hu.inv_cons;obtain⟨_,_,rfl,u1,u_1⟩:=u_0.inv_cons;obtain⟨_,_,rfl,u2,u_2⟩:=u_1.inv_cons;obtain⟨_,_,rfl,u3,u_3⟩:=u_2.inv_cons
 cases u_3.inv_nil
 cases u0.inv_str.1;cases u1.inv_int.1;cases u2.inv_int.1;cases u3.inv_str.1
 exact EqV.to' (J1_ underlying82 (H9_ ag9 Y Y (M4_ underlying9) (H9_ ag36 Y Y (De_ underlying36) (H9_ ag36 Y Y (De_ underlying36) (H9_ ag9 Y Y (M4_ underlying9) J0_))))) nL
theorem Lg_(m:Mail):aC 113 [m.ag] (aA (D6_ m)):=by
 refine jG func113 ntmps113 Y λw N H hG=>jB 11 [0] Y λB0=>call Fd_ Y Y λw0=>kM 9 (λh0=>?_) (λh0=>?_);have h1:=D4_ h0;exact qS;have h1:=D0_ h0;have p0:=dt h1;refine kL 7 words_Key Y Y Y λw1=>kM 9 (λh2=>?_) (λh2=>?_);have h3:=D4_ h2;exact qS;have h3:=D0_ h2;have p1:=dt h3;refine kL 7 Mx_ Y Y Y λw2=>kM 11 (λh4=>?_) (λh4=>?_);have h5:=D4_ h4;refine kR 9 ?_;exact xS;have h5:=D0_ h4;have p2:=dt h5;refine kM 9 (λh6=>?_) (λh6=>?_);have p3:=dt h6;exact qS;have p3:=df h6;refine kM 8 (λh7=>?_) (λh7=>?_);have p4:=dt h7;exact qS;have p4:=df h7;refine kR 9 ?_;exact xS
theorem O0_(m:Mail):aC 162 [m.ag] (.tup [.str (Br_ m),aA (D6_ m)]):=by
 refine kG func162 ntmps162 λw N H hG=>?_;have m_w:=Mail.pwf w.1;have m_w':=m_w;simp only[Mail.wf] at m_w';refine kB 11 [0] λB0=>?_;refine call (Lg_ _) Y Y λw0=>?_;have :=Kk_ m;have hmo3:=λh=>Ix_ (m:=m) h;refine kM 9 (λh0=>?_) (λh0=>?_);have h1:=D4_ h0;have p0:=df h1;refine kA 9 ?_;refine rt2 Y Y ?_;refine ple ?_;simp[Br_,Yp_, *];have h1:=D0_ h0;have p0:=dt h1;refine kL 6 (Oq_ _) Y Y Y λw1=>?_;have :=Gm_ m.head;refine kA 8 ?_;refine aN [1,2,3,4,5,6] 17 mixd<|kE [0,1,2] 14 ?_;refine vC 3 Y (out_Num aE _ _ pE) Y λw2=>?_;have nl0:aE.s.length=0:=rfl;have :=Ad_ aE m.id 8;refine kE [4,5] 11 ?_;refine vC 6 Y (Ek_ _) Y λw3=>?_;have :=Be_ (D_ aE m.id 8) m.Al_;refine kE [7,8] 8 ?_;refine vC 9 Y (Ek_ _) Y λw4=>?_;have :=Be_ (O_ (D_ aE m.id 8) m.Al_) m.key;refine kE [10] 6 ?_;refine vC 11 Y (Li_ _) Y λw5=>?_;have :=Ew_ (O_ (O_ (D_ aE m.id 8) m.Al_) m.key) (Bv_ m.head);refine kE [12,13] 3 ?_;refine vC 14 Y (Ek_ _) Y λw6=>?_;have :=Be_ (A5_ (O_ (O_ (D_ aE m.id 8) m.Al_) m.key) (Bv_ m.head)) m.body;refine vE 15 Y (aL A_ 1 λb0=>?_);refine vT 16 Y (sA A_ ?_);refine vD<|kA 2 ?_;refine aN [2,3,4,5,6,7] 11 mixd<|kE [0,1,2] 8 ?_;refine vC 3 Y (out_Num _ _ _ pE) Y λw7=>?_;have :=Ad_ (O_ (A5_ (O_ (O_ (D_ aE m.id 8) m.Al_) m.key) (Bv_ m.head)) m.body) m.due 8;refine kE [4,5,6] 4 ?_;refine vC 7 Y (out_Num _ _ _ pE) Y λw8=>?_;have :=Ad_ (D_ (O_ (A5_ (O_ (O_ (D_ aE m.id 8) m.Al_) m.key) (Bv_ m.head)) m.body) m.due 8) m.hops 1;refine vC 8 Y (Ee_ _) Y λw9=>kE [9,10] 0 ?_;refine vD<|kA 2 ?_;refine rt2 Y Y ?_;refine ple ?_;simp[Br_,Yp_, *]
theorem deed_maybe{s:Bs}:aC 111 [.str s] (aA (Kl_ s)):=by
 refine jG func111 ntmps111 Y λw N H hG=>kN 12 (λp0=>?_) λp1=>?_;refine kR 7 ?_;simp[Kl_, *];refine kL 5 Fd_ Y Y Y λw0=>kR 4 ?_;simp[Kl_, *]
theorem On_{b:Bool}{e:Int}:aC 110 [.bool b,aA e] (aA (Dd_ b e)):=by
 refine jG func110 ntmps110 Y λw N H hG=>kM 11 (λh0=>?_) (λh0=>?_);refine kR 8 ?_;simp[Dd_, *];refine kR 8 ?_;simp[Dd_, *]
theorem Yr_{a:Mail}{b:Mail}:aC 208 [a.ag,b.ag] (.bool (decide (a=b))):=by
 exact jG func208 ntmps208 Y λw N H hG=>jD 33 [0,1] Y λB0=>Ha_ Y (λhc=>(head_Same)) Y Y Y λ_=>vK
theorem deed_Same{a:T_}{b:T_}:aC 106 [a.ag,b.ag] (.bool (decide (a=b))):=by
 exact jG func106 ntmps106 Y λw N H hG=>jD 26 [0,1] Y λB0=>q1g [19,21] Y (λhc=>saeq Y Y eqg80 (veq80 a.Al_ b.Al_)) Y Y Y λ_=>jC 6 Y<|q1g [26,28] Y (λhc=>saeq Y Y eqg82 (veq82 a.queue b.queue)) Y Y Y λ_=>jC 6 Y<|Ha_ Y (λhc=>(deed_sameBind)) Y Y Y λ_=>jC 48 Y<|Ha_ Y (λhc=>(Yr_)) Y Y Y λ_=>jC 12 Y<|rt1 Y Y (ple<|congrArg PV.bool (by rw[AU];first|(simp[T_.eq_iff,and_assoc];done)|(simp[T_.eq_iff];grind)))
theorem deed_told{d:T_}:aC 107 [d.ag] (.agg (T_.pc (Ht_ d))):=by
 refine jG func107 ntmps107 Y λw N H hG=>jB 31 [0,1,2] Y λB0=>cn Y (λp0=>?_) λp1=>?_;refine jB 15 [] Y λ_=>rt1 Y Y (ple ?_);have e:Ht_ d=(⟨d.kind,d.tick,d.Al_,aO,aS,[],0,0,0,0,0,aK,[]⟩:T_):=by
   exact rP
 rw[e];rfl;refine kN 6 (λp2=>?_) λp3=>?_;refine jB 15 [] Y λ_=>rt1 Y Y (ple ?_);have e:Ht_ d=(⟨d.kind,d.tick,aR,d.queue,aS,[],0,0,0,0,0,aK,[]⟩:T_):=by
   exact rP
 rw[e];rfl;refine kM 7 (λh0=>?_) (λh0=>?_);have p4:=dt h0;refine jA 2 Y<|cndT Y h0<|jB 15 [] Y λ_=>rt1 Y Y (ple ?_);have e:Ht_ d=(⟨d.kind,d.tick,aR,aO,d.bind,[],0,0,0,0,0,aK,[]⟩:T_):=by
   exact rP
 rw[e];rfl;have p4:=df h0;refine kN 5 (λp5=>?_) λp6=>?_;refine jB 15 [] Y λ_=>rt1 Y Y (ple ?_);have e:Ht_ d=(⟨d.kind,d.tick,aR,aO,d.bind,[],0,0,0,0,0,aK,[]⟩:T_):=by
   exact rP
 rw[e];rfl;refine kN 6 (λp7=>?_) λp8=>?_;refine jB 15 [] Y λ_=>rt1 Y Y (ple ?_);have e:Ht_ d=(⟨d.kind,d.tick,aR,aO,aS,[],0,0,0,0,0,d.P_,[]⟩:T_):=by
   exact rP
 rw[e];rfl;refine kM 7 (λh1=>?_) (λh1=>?_);have p9:=dt h1;refine jA 2 Y<|cndT Y h1<|jB 15 [] Y λ_=>rt1 Y Y (ple ?_);have e:Ht_ d=(⟨d.kind,d.tick,aR,aO,aS,d.name,0,0,0,0,0,aK,[]⟩:T_):=by
   exact rP
 rw[e];rfl;have p9:=df h1;refine kM 6 (λh2=>?_) (λh2=>?_);have p10:=dt h2;refine jA 2 Y<|cndT Y h2<|jB 15 [] Y λ_=>rt1 Y Y (ple ?_);have e:Ht_ d=(⟨d.kind,d.tick,aR,aO,aS,d.name,0,0,0,0,0,aK,[]⟩:T_):=by
   exact rP
 rw[e];rfl;have p10:=df h2;refine kN 5 (λp11=>?_) λp12=>?_;refine jB 15 [] Y λ_=>rt1 Y Y (ple ?_);have e:Ht_ d=(⟨d.kind,d.tick,aR,aO,aS,d.name,0,0,0,0,0,aK,[]⟩:T_):=by
   exact rP
 rw[e];rfl;refine kN 6 (λp13=>?_) λp14=>?_;refine aN [2,3,4,5,6,7,8] 12 mixd<|jE [0,1,2,3,4,5,6] 5 Y<|vE 7 Y (sO A_ ?_);refine jE [8] 3 Y<|vE 9 Y (sO A_ ?_);refine jE [10] 1 Y<|vT 11 Y (sO A_ ?_);refine vD<|jB 9 [] Y λ_=>rt1 Y Y (ple ?_);have e:Ht_ d=(⟨d.kind,d.tick,aR,aO,aS,d.name,d.id,d.how,0,0,0,aK,[]⟩:T_):=by
   exact rP
 rw[e];rfl;refine kN 6 (λp15=>?_) λp16=>?_;refine aN [2,3,4,5,6,7,8] 12 mixd<|jE [0,1,2,3,4,5,6] 5 Y<|vE 7 Y (sO A_ ?_);refine jE [8] 3 Y<|vE 9 Y (sO A_ ?_);refine jE [10] 1 Y<|vT 11 Y (sA A_ ?_);refine vD<|jB 9 [] Y λ_=>rt1 Y Y (ple ?_);have e:Ht_ d=(⟨d.kind,d.tick,aR,aO,aS,[],0,0,d.frm,0,d.number,d.P_,[]⟩:T_):=by
   exact rP
 rw[e];rfl;refine kN 6 (λp17=>?_) λp18=>?_;refine aN [2,3,4,5,6,7,8] 8 mixd<|jE [0,1,2,3,4] 3 Y<|vE 5 Y (sO A_ ?_);refine jE [6] 1 Y<|vT 7 Y (sO A_ ?_);refine vD<|jB 9 [] Y λ_=>rt1 Y Y (ple ?_);have e:Ht_ d=(⟨d.kind,d.tick,aR,aO,aS,[],0,0,0,d.code,0,aK,d.text⟩:T_):=by
   exact rP
 rw[e];rfl;refine jB 10 [] Y λ_=>rt1 Y Y (ple ?_);have e:Ht_ d=(⟨d.kind,d.tick,aR,aO,aS,[],0,0,0,0,0,aK,[]⟩:T_):=by
   exact rP
 rw[e];rfl
theorem Oo_{l:List Int}:aC 108 [.sl i64c l] (aA (Do_ l)):=by
 refine kG func108 ntmps108 λw N H hG=>?_;have l_l:l.length<=140737488355328:=w.1.1;refine jA 14 Y<|lP (ι:=Nat) [0,5,6] [] (λk=>⟨[(7,aA k)],[],k<=l.length/\Do_ l=Do_ (l.drop k),l.length-k⟩) 0 ⟨Nat.zero_le _,rfl⟩<|λk ⟨hk1,hk2⟩=>kN 6 (λp0=>?_) λp1=>?_
 . have⟨c0,hc0⟩:=getE (xs:=l) (m:=k) qX;refine jA 6 Y<|jI k hc0 Y Y Y λw0=>kM 10 (λh0=>?_) (λh0=>?_)
   have h1:=D4_ h0;have p2:=df h1;refine kR 12 ?_;refine congrArg (PV.int .i64) ?_
   rw[hk2,D9_ hc0]
   unfold Do_
   rw[if_pos pA]
   have h1:=D0_ h0;have p2:=dt h1;refine jC 7 Y<|nN (k+1) ?_;refine⟨by omega,?_⟩
   rw[hk2,D9_ hc0]
   conv=>lhs;unfold Do_
   rw[if_neg qX]
 refine kR 11 ?_;refine congrArg (PV.int .i64) ?_;rw[hk2,A9 qX];rfl
theorem deed_Check{d:T_}:aC 31 [d.ag] (aA (Dl_ d)):=by
 refine jG func31 ntmps31 Y λw N H hG=>jB 16 [0] Y λB0=>cn Y (λp0=>?_) λp1=>?_;exact qT;refine jA 1 Y<|aN [1,2,3,4,5,6] 6 mixd<|jE [0,1] 4 Y<|vE 2 Y (eC deed_told Y λw0=>vC 3 Y deed_Same Y λw1=>jE [4,5] 0 Y<|vD<|kM 1 (λh0=>?_) (λh0=>?_));have h1:=D4_ h0;have p2:=df h1;exact qT;have h1:=D0_ h0;have p2:=dt h1;refine kN 17 (λp3=>?_) λp4=>?_;refine jA 1 Y<|aN [1,2,3,4,5,6] 16 mixd<|jE [0,1,2] 13 Y<|vC 3 Y Fd_ Y λw2=>jE [4,5,6,7] 8 Y<|vC 8 Y On_ Y λw3=>jE [9,10,11] 4 Y<|vC 12 Y deed_maybe Y λw4=>have :=Pq_ d.Al_.to';vE 13 Y (bsl 1 i64c [C6_ d.Al_.name,Dd_ (decide (4<d.Al_.sort)) 8,Kl_ d.Al_.to'] A_ Y Y Y Y Y (λ_=>rfl) Y Y λu0=>vE 14 Y (W5_ 1 Y Oo_ Y Y Y λw5=>jE [15] 0 Y<|vD<|kR 4 ?_));exact xU;refine kN 6 (λp5=>?_) λp6=>?_;refine jA 1 Y<|aN [1,2,3,4,5,6] 11 mixd<|jE [0,1,2] 8 Y<|vC 3 Y Fd_ Y λw2=>jE [4,5,6] 4 Y<|vC 7 Y deed_maybe Y λw3=>have :=Pq_ d.queue.dead;vE 8 Y (bsl 1 i64c [C6_ d.queue.name,Kl_ d.queue.dead] A_ Y Y Y Y Y (λ_=>rfl) Y Y λu0=>vE 9 Y (W5_ 1 Y Oo_ Y Y Y λw4=>jE [10] 0 Y<|vD<|kR 4 ?_));exact xU;refine kM 7 (λh2=>?_) (λh2=>?_);have p7:=dt h2;exact jA 2 Y<|cndT Y h2<|qM;have p7:=df h2;refine kN 5 (λp8=>?_) λp9=>?_;exact qM;refine kM 7 (λh3=>?_) (λh3=>?_);have p10:=dt h3;exact jA 2 Y<|cndT Y h3<|qP;have p10:=df h3;refine kN 5 (λp11=>?_) λp12=>?_;exact qP;refine kM 7 (λh4=>?_) (λh4=>?_);have p13:=dt h4;exact jA 2 Y<|cndT Y h4<|qT;have p13:=df h4;refine kN 5 (λp14=>?_) λp15=>?_;exact qT;refine kN 6 (λp16=>?_) λp17=>?_;refine kL 6 On_ Y Y Y λw2=>kR 6 ?_;exact xU;refine jA 4 Y<|aN [1,2,3,4,5,6] 10 mixd<|jE [0,1] 8 Y<|vC 2 Y Fd_ Y λw2=>jE [3,4,5] 4 Y<|vC 6 Y On_ Y λw3=>vE 7 Y (bsl 1 i64c [C6_ d.name,Dd_ (decide (2<d.how)) 7] A_ Y Y Y Y Y (λ_=>rfl) Y Y λu0=>vE 8 Y (W5_ 1 Y Oo_ Y Y Y λw4=>jE [9] 0 Y<|vD<|kR 2 ?_));exact xU
theorem deed_Bytes(d:T_):aC 331 [d.ag] (.tup [.str (Cw_ d),aA (Dl_ d)]):=by
 refine kG func331 ntmps331 λw N H hG=>?_;have d_w:=T_.pwf w.1;have d_w':=d_w;simp only[T_.wf,X_.wf,Aa_.wf,R_.wf,Mail.wf] at d_w';refine jB 11 [0] Y λB0=>call deed_Check Y Y λw0=>have :=deedE_r d;kM 9 (λh0=>?_) (λh0=>?_)
 . have h1:=D4_ h0;have p0:=df h1;refine jA 9 Y<|rt2 Y Y<|ple ?_;have e:Cw_ d=[]:=by
     unfold Cw_
     first
       |(rw[if_neg pA];done)
       |(rw[if_pos pA];unfold Jl_;(repeat (first|rw[if_pos qX]|rw[if_neg qX]|rw[if_pos pA]|rw[if_neg pA]|rw[if_neg (not_not_intro pA)]));first|done|rfl)
   exact tL
 have h1:=D0_ h0;have p0:=dt h1;have hdk:=deedE_ok (d:=d) qX p0;have⟨dk1,dk2,dk3,dk4,dk5,dk6,dk7,dk8,dk9,dk10,dk11,dk12,dk13,dk14,dk15,dk16,dk17,dk18,dk19⟩:=hdk;refine jA 3 Y<|aN [1,2,3,4,5,6] 10 mixd<|jE [0,1,2,3] 6 Y<|vC 4 Y (out_Num aE _ _ pE) Y λw1=>?_;have nl0:aE.s.length=0:=rfl;have :=Ad_ aE d.kind 1;refine jE [5,6] 3 Y<|vC 7 Y (out_Num _ _ _ pE) Y λw2=>have :=Ad_ (D_ aE d.kind 1) d.tick 8;vE 8 Y (aL A_ 1 λb0=>?_);refine vT 9 Y (sA A_ ?_);refine vD<|kL 5 (O0_ _) Y Y Y λw3=>have :=F0_ d.P_;kN 21 (λp1=>?_) λp2=>?_
 . refine aN [2,3,4,5,6,7] 15 mixd<|jE [0,1,2,3] 11 Y<|vC 4 Y (Ek_ _) Y λw4=>have :=Be_ (D_ (D_ aE d.kind 1) d.tick 8) d.Al_.name;jE [5,6,7,8] 6 Y<|vC 9 Y (out_Num _ _ _ pE) Y λw5=>have :=Ad_ (O_ (D_ (D_ aE d.kind 1) d.tick 8) d.Al_.name) d.Al_.sort 1;jE [10,11,12] 2 Y<|vC 13 Y (Ek_ _) Y λw6=>have :=Be_ (D_ (O_ (D_ (D_ aE d.kind 1) d.tick 8) d.Al_.name) d.Al_.sort 1) d.Al_.to';vT 14 Y (sA A_ ?_);refine vD<|kL 5 (Ee_ _) Y Y Y λw7=>jA 5 Y<|rt2 Y Y<|ple ?_;have e:Cw_ d=(O_ (D_ (O_ (D_ (D_ aE d.kind 1) d.tick 8) d.Al_.name) d.Al_.sort 1) d.Al_.to').s:=by
     unfold Cw_
     first
       |(rw[if_neg pA];done)
       |(rw[if_pos pA];unfold Jl_;(repeat (first|rw[if_pos qX]|rw[if_neg qX]|rw[if_pos pA]|rw[if_neg pA]|rw[if_neg (not_not_intro pA)]));first|done|rfl)
   exact tL
 refine kN 6 (λp3=>?_) λp4=>?_
 . refine aN [2,3,4,5,6,7] 18 mixd<|jE [0,1,2,3] 14 Y<|vC 4 Y (Ek_ _) Y λw4=>have :=Be_ (D_ (D_ aE d.kind 1) d.tick 8) d.queue.name;jE [5,6,7] 10 Y<|vC 8 Y (out_Num _ _ _ pE) Y λw5=>have :=Ad_ (O_ (D_ (D_ aE d.kind 1) d.tick 8) d.queue.name) d.queue.most 8;jE [9,10,11] 6 Y<|vC 12 Y (out_Num _ _ _ pE) Y λw6=>have :=Ad_ (D_ (O_ (D_ (D_ aE d.kind 1) d.tick 8) d.queue.name) d.queue.most 8) d.queue.life 8;jE [13,14,15] 2 Y<|vC 16 Y (Ek_ _) Y λw7=>have :=Be_ (D_ (D_ (O_ (D_ (D_ aE d.kind 1) d.tick 8) d.queue.name) d.queue.most 8) d.queue.life 8) d.queue.dead;vT 17 Y (sA A_ ?_);refine vD<|kL 5 (Ee_ _) Y Y Y λw8=>jA 5 Y<|rt2 Y Y<|ple ?_;have e:Cw_ d=(O_ (D_ (D_ (O_ (D_ (D_ aE d.kind 1) d.tick 8) d.queue.name) d.queue.most 8) d.queue.life 8) d.queue.dead).s:=by
     unfold Cw_
     first
       |(rw[if_neg pA];done)
       |(rw[if_pos pA];unfold Jl_;(repeat (first|rw[if_pos qX]|rw[if_neg qX]|rw[if_pos pA]|rw[if_neg pA]|rw[if_neg (not_not_intro pA)]));first|done|rfl)
   exact tL
 refine kM 7 (λh2=>?_) (λh2=>?_)
 . have p5:=dt h2;refine jA 2 Y<|cndT Y h2<|jB 12 [2] Y λB1=>call (Oq_ _) Y Y λw4=>have :=Gm_ d.bind.want;jA 7 Y<|aN [3,4,5,6,7,8] 21 mixd<|jE [0,1,2] 18 Y<|vC 3 Y (Ek_ _) Y λw5=>have :=Be_ (D_ (D_ aE d.kind 1) d.tick 8) d.bind.Al_;jE [4,5] 15 Y<|vC 6 Y (Ek_ _) Y λw6=>have :=Be_ (O_ (D_ (D_ aE d.kind 1) d.tick 8) d.bind.Al_) d.bind.to';jE [7,8] 12 Y<|vC 9 Y Wr_ Y λw7=>vC 10 Y (out_Num _ _ _ pE) Y λw8=>have :=Ad_ (O_ (O_ (D_ (D_ aE d.kind 1) d.tick 8) d.bind.Al_) d.bind.to') (bitN d.bind.up) 1;jE [11,12] 8 Y<|vC 13 Y (Ek_ _) Y λw9=>have :=Be_ (D_ (O_ (O_ (D_ (D_ aE d.kind 1) d.tick 8) d.bind.Al_) d.bind.to') (bitN d.bind.up) 1) d.bind.key;jE [14] 6 Y<|vC 15 Y (Li_ _) Y λw10=>have :=Ew_ (O_ (D_ (O_ (O_ (D_ (D_ aE d.kind 1) d.tick 8) d.bind.Al_) d.bind.to') (bitN d.bind.up) 1) d.bind.key) (Bv_ d.bind.want);jE [16,17] 3 Y<|vC 18 Y Wr_ Y λw11=>vC 19 Y (out_Num _ _ _ pE) Y λw12=>have :=Ad_ (A5_ (O_ (D_ (O_ (O_ (D_ (D_ aE d.kind 1) d.tick 8) d.bind.Al_) d.bind.to') (bitN d.bind.up) 1) d.bind.key) (Bv_ d.bind.want)) (bitN d.bind.all) 1;vT 20 Y (sA A_ ?_);refine vD<|kL 5 (Ee_ _) Y Y Y λw13=>jA 5 Y<|rt2 Y Y<|ple ?_;have e:Cw_ d=(D_ (A5_ (O_ (D_ (O_ (O_ (D_ (D_ aE d.kind 1) d.tick 8) d.bind.Al_) d.bind.to') (bitN d.bind.up) 1) d.bind.key) (Bv_ d.bind.want)) (bitN d.bind.all) 1).s:=by
     unfold Cw_
     first
       |(rw[if_neg pA];done)
       |(rw[if_pos pA];unfold Jl_;(repeat (first|rw[if_pos qX]|rw[if_neg qX]|rw[if_pos pA]|rw[if_neg pA]|rw[if_neg (not_not_intro pA)]));first|done|rfl)
   exact tL
 have p5:=df h2;refine kN 5 (λp6=>?_) λp7=>?_
 . refine jB 12 [2] Y λB1=>call (Oq_ _) Y Y λw4=>have :=Gm_ d.bind.want;jA 7 Y<|aN [3,4,5,6,7,8] 21 mixd<|jE [0,1,2] 18 Y<|vC 3 Y (Ek_ _) Y λw5=>have :=Be_ (D_ (D_ aE d.kind 1) d.tick 8) d.bind.Al_;jE [4,5] 15 Y<|vC 6 Y (Ek_ _) Y λw6=>have :=Be_ (O_ (D_ (D_ aE d.kind 1) d.tick 8) d.bind.Al_) d.bind.to';jE [7,8] 12 Y<|vC 9 Y Wr_ Y λw7=>vC 10 Y (out_Num _ _ _ pE) Y λw8=>have :=Ad_ (O_ (O_ (D_ (D_ aE d.kind 1) d.tick 8) d.bind.Al_) d.bind.to') (bitN d.bind.up) 1;jE [11,12] 8 Y<|vC 13 Y (Ek_ _) Y λw9=>have :=Be_ (D_ (O_ (O_ (D_ (D_ aE d.kind 1) d.tick 8) d.bind.Al_) d.bind.to') (bitN d.bind.up) 1) d.bind.key;jE [14] 6 Y<|vC 15 Y (Li_ _) Y λw10=>have :=Ew_ (O_ (D_ (O_ (O_ (D_ (D_ aE d.kind 1) d.tick 8) d.bind.Al_) d.bind.to') (bitN d.bind.up) 1) d.bind.key) (Bv_ d.bind.want);jE [16,17] 3 Y<|vC 18 Y Wr_ Y λw11=>vC 19 Y (out_Num _ _ _ pE) Y λw12=>have :=Ad_ (A5_ (O_ (D_ (O_ (O_ (D_ (D_ aE d.kind 1) d.tick 8) d.bind.Al_) d.bind.to') (bitN d.bind.up) 1) d.bind.key) (Bv_ d.bind.want)) (bitN d.bind.all) 1;vT 20 Y (sA A_ ?_);refine vD<|kL 5 (Ee_ _) Y Y Y λw13=>jA 5 Y<|rt2 Y Y<|ple ?_;have e:Cw_ d=(D_ (A5_ (O_ (D_ (O_ (O_ (D_ (D_ aE d.kind 1) d.tick 8) d.bind.Al_) d.bind.to') (bitN d.bind.up) 1) d.bind.key) (Bv_ d.bind.want)) (bitN d.bind.all) 1).s:=by
     unfold Cw_
     first
       |(rw[if_neg pA];done)
       |(rw[if_pos pA];unfold Jl_;(repeat (first|rw[if_pos qX]|rw[if_neg qX]|rw[if_pos pA]|rw[if_neg pA]|rw[if_neg (not_not_intro pA)]));first|done|rfl)
   exact tL
 refine kN 6 (λp8=>?_) λp9=>?_
 . refine kL 3 (Li_ _) Y Y Y λw4=>have :=Ew_ (D_ (D_ aE d.kind 1) d.tick 8) (Br_ d.P_);jB 7 [] Y λ_=>call (Ee_ _) Y Y λw5=>jA 5 Y<|rt2 Y Y<|ple ?_;have e:Cw_ d=(A5_ (D_ (D_ aE d.kind 1) d.tick 8) (Br_ d.P_)).s:=by
     unfold Cw_
     first
       |(rw[if_neg pA];done)
       |(rw[if_pos pA];unfold Jl_;(repeat (first|rw[if_pos qX]|rw[if_neg qX]|rw[if_pos pA]|rw[if_neg pA]|rw[if_neg (not_not_intro pA)]));first|done|rfl)
   exact tL
 refine kM 7 (λh3=>?_) (λh3=>?_)
 . have p10:=dt h3;refine jA 2 Y<|cndT Y h3<|kL 4 (Ek_ _) Y Y Y λw4=>have :=Be_ (D_ (D_ aE d.kind 1) d.tick 8) d.name;jB 7 [] Y λ_=>call (Ee_ _) Y Y λw5=>jA 5 Y<|rt2 Y Y<|ple ?_;have e:Cw_ d=(O_ (D_ (D_ aE d.kind 1) d.tick 8) d.name).s:=by
     unfold Cw_
     first
       |(rw[if_neg pA];done)
       |(rw[if_pos pA];unfold Jl_;(repeat (first|rw[if_pos qX]|rw[if_neg qX]|rw[if_pos pA]|rw[if_neg pA]|rw[if_neg (not_not_intro pA)]));first|done|rfl)
   exact tL
 have p10:=df h3;refine kM 6 (λh4=>?_) (λh4=>?_)
 . have p11:=dt h4;refine jA 2 Y<|cndT Y h4<|kL 4 (Ek_ _) Y Y Y λw4=>have :=Be_ (D_ (D_ aE d.kind 1) d.tick 8) d.name;jB 7 [] Y λ_=>call (Ee_ _) Y Y λw5=>jA 5 Y<|rt2 Y Y<|ple ?_;have e:Cw_ d=(O_ (D_ (D_ aE d.kind 1) d.tick 8) d.name).s:=by
     unfold Cw_
     first
       |(rw[if_neg pA];done)
       |(rw[if_pos pA];unfold Jl_;(repeat (first|rw[if_pos qX]|rw[if_neg qX]|rw[if_pos pA]|rw[if_neg pA]|rw[if_neg (not_not_intro pA)]));first|done|rfl)
   exact tL
 have p11:=df h4;refine kN 5 (λp12=>?_) λp13=>?_
 . refine kL 4 (Ek_ _) Y Y Y λw4=>have :=Be_ (D_ (D_ aE d.kind 1) d.tick 8) d.name;jB 7 [] Y λ_=>call (Ee_ _) Y Y λw5=>jA 5 Y<|rt2 Y Y<|ple ?_;have e:Cw_ d=(O_ (D_ (D_ aE d.kind 1) d.tick 8) d.name).s:=by
     unfold Cw_
     first
       |(rw[if_neg pA];done)
       |(rw[if_pos pA];unfold Jl_;(repeat (first|rw[if_pos qX]|rw[if_neg qX]|rw[if_pos pA]|rw[if_neg pA]|rw[if_neg (not_not_intro pA)]));first|done|rfl)
   exact tL
 refine kN 6 (λp14=>?_) λp15=>?_
 . refine aN [2,3,4,5,6,7] 12 mixd<|jE [0,1,2] 9 Y<|vC 3 Y (Ek_ _) Y λw4=>have :=Be_ (D_ (D_ aE d.kind 1) d.tick 8) d.name;jE [4,5] 6 Y<|vC 6 Y (out_Num _ _ _ pE) Y λw5=>have :=Ad_ (O_ (D_ (D_ aE d.kind 1) d.tick 8) d.name) d.id 8;jE [7,8,9] 2 Y<|vC 10 Y (out_Num _ _ _ pE) Y λw6=>have :=Ad_ (D_ (O_ (D_ (D_ aE d.kind 1) d.tick 8) d.name) d.id 8) d.how 1;vT 11 Y (sA A_ ?_);refine vD<|kL 5 (Ee_ _) Y Y Y λw7=>jA 5 Y<|rt2 Y Y<|ple ?_;have e:Cw_ d=(D_ (D_ (O_ (D_ (D_ aE d.kind 1) d.tick 8) d.name) d.id 8) d.how 1).s:=by
     unfold Cw_
     first
       |(rw[if_neg pA];done)
       |(rw[if_pos pA];unfold Jl_;(repeat (first|rw[if_pos qX]|rw[if_neg qX]|rw[if_pos pA]|rw[if_neg pA]|rw[if_neg (not_not_intro pA)]));first|done|rfl)
   exact tL
 refine kN 6 (λp16=>?_) λp17=>?_
 . refine aN [2,3,4,5,6,7] 11 mixd<|jE [0,1,2,3] 7 Y<|vC 4 Y (out_Num _ _ _ pE) Y λw4=>have :=Ad_ (D_ (D_ aE d.kind 1) d.tick 8) d.frm 1;jE [5,6] 4 Y<|vC 7 Y (out_Num _ _ _ pE) Y λw5=>have :=Ad_ (D_ (D_ (D_ aE d.kind 1) d.tick 8) d.frm 1) d.number 8;jE [8] 2 Y<|vC 9 Y (Li_ _) Y λw6=>have :=Ew_ (D_ (D_ (D_ (D_ aE d.kind 1) d.tick 8) d.frm 1) d.number 8) (Br_ d.P_);vT 10 Y (sA A_ ?_);refine vD<|kL 5 (Ee_ _) Y Y Y λw7=>jA 5 Y<|rt2 Y Y<|ple ?_;have e:Cw_ d=(A5_ (D_ (D_ (D_ (D_ aE d.kind 1) d.tick 8) d.frm 1) d.number 8) (Br_ d.P_)).s:=by
     unfold Cw_
     first
       |(rw[if_neg pA];done)
       |(rw[if_pos pA];unfold Jl_;(repeat (first|rw[if_pos qX]|rw[if_neg qX]|rw[if_pos pA]|rw[if_neg pA]|rw[if_neg (not_not_intro pA)]));first|done|rfl)
   exact tL
 refine kN 6 (λp18=>?_) λp19=>?_
 . refine aN [2,3,4,5,6,7] 9 mixd<|jE [0,1,2,3] 5 Y<|vC 4 Y (out_Num _ _ _ pE) Y λw4=>have :=Ad_ (D_ (D_ aE d.kind 1) d.tick 8) d.code 1;jE [5,6] 2 Y<|vC 7 Y (Ek_ _) Y λw5=>have :=Be_ (D_ (D_ (D_ aE d.kind 1) d.tick 8) d.code 1) d.text;vT 8 Y (sA A_ ?_);refine vD<|kL 5 (Ee_ _) Y Y Y λw6=>jA 5 Y<|rt2 Y Y<|ple ?_;have e:Cw_ d=(O_ (D_ (D_ (D_ aE d.kind 1) d.tick 8) d.code 1) d.text).s:=by
     unfold Cw_
     first
       |(rw[if_neg pA];done)
       |(rw[if_pos pA];unfold Jl_;(repeat (first|rw[if_pos qX]|rw[if_neg qX]|rw[if_pos pA]|rw[if_neg pA]|rw[if_neg (not_not_intro pA)]));first|done|rfl)
   exact tL
 refine kL 6 (Ee_ _) Y Y Y λw4=>jA 5 Y<|rt2 Y Y<|ple ?_;have e:Cw_ d=(D_ (D_ aE d.kind 1) d.tick 8).s:=by
   unfold Cw_
   first
     |(rw[if_neg pA];done)
     |(rw[if_pos pA];unfold Jl_;(repeat (first|rw[if_pos qX]|rw[if_neg qX]|rw[if_pos pA]|rw[if_neg pA]|rw[if_neg (not_not_intro pA)]));first|done|rfl)
 exact tL
theorem mail_Read{i:In}:Fm prog gb 264 [] 302 (In.pc i) (.agg (Mail.pc (((Em_ i)).1))) (In.pc (((Em_ i)).2)):=by
 refine Vg_ A_ func264 Y ntmps264 Y (At_ func264) Y Y Y Y λw wp b N H hG=>jB 8 [1] Y λB0=>ef (A3_ (Fn_ _) Y Y Y Y Y λw0 w3p=>?_);have :=B9_ i 8;generalize hg0:Ah_ i 8=g0 at *;refine jB 8 [2] Y λB1=>ef (A3_ I3_ Y Y Y Y Y λw1 w8p=>?_);have :=C7_ ((g0).2) 16;generalize hg1:Ag_ ((g0).2) 16=g1 at *;refine jB 7 [] Y λ_=>ef (A3_ I3_ Y Y Y Y Y λw2 w12p=>?_);have :=C7_ ((g1).2) 64;generalize hg2:Ag_ ((g1).2) 64=g2 at *;refine jB 7 [] Y λ_=>ef (A3_ head_Read Y Y Y Y Y λw3 w16p=>?_);have :=Qs_ ((g2).2);generalize hg3:Cd_ ((g2).2)=g3 at *;refine jB 7 [] Y λ_=>ef (A3_ I3_ Y Y Y Y Y λw4 w20p=>?_);have :=C7_ ((g3).2) 256;generalize hg4:Ag_ ((g3).2) 256=g4 at *;refine jB 7 [] Y λ_=>ef (A3_ (Fn_ _) Y Y Y Y Y λw5 w24p=>?_);have :=B9_ ((g4).2) 8;generalize hg5:Ah_ ((g4).2) 8=g5 at *;refine jB 7 [] Y λ_=>ef (A3_ (Fn_ _) Y Y Y Y Y λw6 w28p=>?_);have :=B9_ ((g5).2) 1;generalize hg6:Ah_ ((g5).2) 1=g6 at *;refine q1 (H0_ A_ Y Y Y Y rg_u8) Y λw7=>jB 8 [] Y λ_=>ef (A3_ I2_ Y Y Y Y Y λw8 w33p=>kM 3 (λh0=>?_) (λh0=>?_))
 . have p0:=dt h0;refine kL 3 (Lg_ (⟨(g0).1,(g1).1,(g2).1,(g3).1,(g4).1,(g5).1,(g6).1⟩:Mail)) Y Y Y λw9=>have :=Kk_ (⟨(g0).1,(g1).1,(g2).1,(g3).1,(g4).1,(g5).1,(g6).1⟩:Mail);ef (A3_ Jm_ Y Y Y Y Y λw10 w37p=>jA 6 Y<|ef (A3_ I2_ Y Y Y Y Y λw11 w38p=>kM 3 (λh1=>?_) (λh1=>?_)))
   . have h2:=D4_ h1;have p1:=df h2;refine jB 8 [] Y λ_=>rm1 Y Y ?_ Y Y Y ?_
     . have e:Em_ i=(aK,(B1_ ((g6).2) (D6_ (⟨(g0).1,(g1).1,(g2).1,(g3).1,(g4).1,(g5).1,(g6).1⟩:Mail)))):=by unfold Em_;simp only;(repeat first|simp only[hg0,hg1,hg2,hg3,hg4,hg5,hg6]|rw[if_pos qX]|rw[if_neg qX]);all_goals first|rfl|(simp[*];done)|(simp[*];rfl)
       exact zM
     have e:Em_ i=(aK,(B1_ ((g6).2) (D6_ (⟨(g0).1,(g1).1,(g2).1,(g3).1,(g4).1,(g5).1,(g6).1⟩:Mail)))):=by unfold Em_;simp only;(repeat first|simp only[hg0,hg1,hg2,hg3,hg4,hg5,hg6]|rw[if_pos qX]|rw[if_neg qX]);all_goals first|rfl|(simp[*];done)|(simp[*];rfl)
     exact zO
   have h2:=D0_ h1;have p1:=dt h2;refine jB 9 [] Y λ_=>rm1 Y Y ?_ Y Y Y ?_
   . have e:Em_ i=((⟨(g0).1,(g1).1,(g2).1,(g3).1,(g4).1,(g5).1,(g6).1⟩:Mail),(B1_ ((g6).2) (D6_ (⟨(g0).1,(g1).1,(g2).1,(g3).1,(g4).1,(g5).1,(g6).1⟩:Mail)))):=by unfold Em_;simp only;(repeat first|simp only[hg0,hg1,hg2,hg3,hg4,hg5,hg6]|rw[if_pos qX]|rw[if_neg qX]);all_goals first|rfl|(simp[*];done)|(simp[*];rfl)
     exact zM
   have e:Em_ i=((⟨(g0).1,(g1).1,(g2).1,(g3).1,(g4).1,(g5).1,(g6).1⟩:Mail),(B1_ ((g6).2) (D6_ (⟨(g0).1,(g1).1,(g2).1,(g3).1,(g4).1,(g5).1,(g6).1⟩:Mail)))):=by unfold Em_;simp only;(repeat first|simp only[hg0,hg1,hg2,hg3,hg4,hg5,hg6]|rw[if_pos qX]|rw[if_neg qX]);all_goals first|rfl|(simp[*];done)|(simp[*];rfl)
   exact zO
 have p0:=df h0;refine jA 6 Y<|ef (A3_ I2_ Y Y Y Y Y λw9 w47p=>jA 3 Y<|cndT Y (by rw[h0]<;>rfl)<|jB 8 [] Y λ_=>rm1 Y Y ?_ Y Y Y ?_)
 . have e:Em_ i=(aK,((g6).2)):=by unfold Em_;simp only;(repeat first|simp only[hg0,hg1,hg2,hg3,hg4,hg5,hg6]|rw[if_pos qX]|rw[if_neg qX]);all_goals first|rfl|(simp[*];done)|(simp[*];rfl)
   exact zM
 have e:Em_ i=(aK,((g6).2)):=by unfold Em_;simp only;(repeat first|simp only[hg0,hg1,hg2,hg3,hg4,hg5,hg6]|rw[if_pos qX]|rw[if_neg qX]);all_goals first|rfl|(simp[*];done)|(simp[*];rfl)
 exact zO
theorem K2_{s:Bs}:aC 99 [.str s] (aA (C6_ s)):=by
 refine jG func99 ntmps99 Y λw N H hG=>kN 13 (λp0=>?_) λp1=>?_;refine kR 7 ?_;have :s=[]:=DX qX;subst this;rfl;refine kN 10 (λp2=>?_) λp3=>?_;refine kR 7 ?_;have hne:¬s=[]:=λq=>by subst q;simp at *
 unfold C6_;rw[if_neg hne,if_pos qX];refine jA 9 Y<|lP (ι:=Nat) [0,4,5,6,7,8,9] [] (λk=>⟨[(3,aA k)],[],k<=s.length/\(s.drop k).all (λc=>letter c.toNat)=plain s,s.length-k⟩) 0 ⟨by omega,rfl⟩<|λk ⟨hk1,hk2⟩=>kN 9 (λp4=>?_) λp5=>?_;have :=u8r (s.getD k 0);refine jA 8 Y<|q1 (sidx A_ k Y Y Y Y Y qX) Y λw0=>call r4_letter Y Y λw1=>kM 3 (λh0=>?_) (λh0=>?_);have h1:=D4_ h0;refine kR 11 ?_;have hne:¬s=[]:=λq=>by subst q;simp at *
 unfold C6_;rw[if_neg hne,if_neg qX,<- hk2,Vk_ (k:=k) qX];simp only[*,B6,CT,if_false];have h1:=D0_ h0;refine jC 8 Y<|nN (k+1) ?_;refine⟨by omega,?_⟩;rw[<- hk2,Vk_ (k:=k) qX];simp only[*,AW];refine kR 11 ?_;have hne:¬s=[]:=λq=>by subst q;simp at *
 unfold C6_;rw[if_neg hne,if_neg qX,<- hk2,A9 qX];rfl
theorem r4_Split{s:Bs}(hs:s.length<=1000000:=by first|omega|(simp;done)|decide):aC 312 [.str s] (.sl strc (C0_ s)):=by
 refine jG func312 ntmps312 Y λw N H hG=>kN 13 (λp0=>?_) λp1=>?_;refine jA 7 Y<|rt1 Y Y<|Kr_ ?_;unfold C0_;rw[if_pos (DX qX)];refine jA 19 Y<|Ga_ (t:=3) (k:=1) (e:=9) 0 strc Y Y<|lP (ι:=Nat×Nat×(List Bs)×Value) [0,2,6,7,8] [] (λ⟨f,k,out,u_out⟩=>⟨[(3, .osl 0),(4,aA f),(5,aA k)],[(0, .arr u_out 1 9 strc out)],f<=k/\k<=s.length/\dots s=out++dots (s.drop f)/\noDot s f k/\out.length<=k,s.length-k⟩) ⟨0,0,[],(.slice none 0 0)⟩ ⟨Nat.le_refl _,B5 _,rfl,noDot_nil,B5 _⟩<|λ⟨f,k,out,u_out⟩ ⟨hk1,hk2,hk3,hk4,hk5⟩=>kN 9 (λp2=>?_) λp3=>?_;have :=u8r (s.getD k 0);refine jA 8 Y<|q1 (sidx A_ k Y Y Y Y Y qX) Y λw0=>kN 3 (λp4=>?_) λp5=>?_;refine jA 6 Y<|q1 (ssl A_ f k Y Y Y Y Y Y Y qX qX) Y λw1=>ef (bsl 1 strc [((s.drop f).take (k-f))] A_ Y Y Y Y Y (λ_=>rfl) Y Y λu0=>ef (app A_ [((s.drop f).take (k-f))] Y Y Y Y Y Y Y Y Y (Hc_ Y Y) Y λu1=>jC 15 Y<|nN ⟨(k+1),(k+1),(out++[((s.drop f).take (k-f))]),(u1)⟩ ?_))
 (try simp only[])
 refine⟨by omega,by omega,split_hit hk3 hk4 qX qX (byteEq (n:=46) qX qX),noDot_nil,by simp;omega⟩;exact jC 8 Y<|nN ⟨f,(k+1),out,(u_out)⟩ ⟨by omega,by omega,hk3,noDot_step hk4 (byteNe (n:=46) qX qX),by omega⟩;refine jA 10 Y<|q1 (sslo A_ f Y Y Y Y Y qX) Y λw0=>ef (bsl 1 strc [(s.drop f)] A_ Y Y Y Y Y (λ_=>rfl) Y Y λu0=>ef (app A_ [(s.drop f)] Y Y Y Y Y Y Y Y Y (Hc_ Y Y) Y λu1=>jA 3 Y<|Je_ 0 Y<|kR 1 ?_));have hne:¬s=[]:=λq=>by subst q;simp at *
 have e:C0_ s=(out++[(s.drop f)]):=by unfold C0_;rw[if_neg hne];exact split_end hk3 hk4 qX
 first|(rw[e];done)|(rw[e];rfl)
theorem r4_Key{s:Bs}{pattern:Bool}:aC 249 [.str s, .bool pattern] (aA (keyE (E1_ pattern) s)):=by
 refine jG func249 ntmps249 Y λw N H hG=>kM 13 (λh0=>?_) (λh0=>?_);have p0:=dt h0;refine kR 7 ?_;unfold keyE;rw[if_pos qX];have p0:=df h0;refine kL 6 r4_Split Y Y Y λw0=>jA 5 Y<|lP (ι:=Nat) [0,1,9,10,11,12,13,14] [] (λk=>⟨[(15,aA k)],[],k<=(C0_ s).length/\(C0_ s).any (S5_ (E1_ pattern))=((C0_ s).drop k).any (S5_ (E1_ pattern)),(C0_ s).length-k⟩) 0 ⟨Nat.zero_le _,by simp⟩<|λk ⟨hk1,hk2⟩=>have hwl:=U7_ s;kM 6 (λh1=>?_) (λh1=>?_)
 . have p1:=dt h1;have⟨c8,hc0⟩:=getE (xs:=C0_ s) (m:=k) qX;have c8_l:c8.length<=9223372036854775807:=(w0.2 c8 (A1 hc0)).1;refine jA 6 Y<|jI k hc0 Y Y Y λw1=>jA 19 Y<|lP (ι:=Nat×Bool) [0,1,6,9,10,11,12,13,14,15,16,17,18,19,20,21] [] (λ⟨j,b⟩=>⟨[(7, .bool b),(8,aA j)],[],j<=c8.length/\(decide ((c8.length:Int)=0)||!plain c8)=(b||!((c8.drop j).all (λc=>letter c.toNat))),c8.length-j⟩) ⟨0,(decide ((c8.length:Int)=0))⟩ ⟨Nat.zero_le _,rfl⟩<|λ⟨j,b⟩ ⟨hj1,hj2⟩=>kM 9 (λh2=>?_) (λh2=>?_)
   have p2:=dt h2;have :=u8r (c8.getD j 0);refine jA 9 Y<|q1g [30,31] Y (λhc=>sidx A_ j Y Y Y Y Y pF) Y Y Y λ_=>Ha_ Y (λhc=>(r4_letter)) Y Y Y λ_=>jC 11 Y<|nN ⟨(j+1),(b||(!(letter ((c8.getD j 0).toNat:Int))))⟩ ?_
   refine⟨by omega,?_⟩
   rw[hj2,Vk_ (k:=j) qX]
   simp only[*,Bool.true_or,Bool.false_or,Bool.not_and,A5,Bool.not_false,B6,AW,Bool.or_assoc]
   have p2:=df h2;refine jC 22 Y<|cnd Y (λh3=>?_) (λh3=>?_)
   . have h4:=bl h3;have h5:=br h3;have h6:=D4_ h5;refine kR 11 ?_
     rw[A9 qX] at hj2
     have hX:=hj2
     simp only[GI,A5,CE] at hX
     have hb:S5_ (E1_ pattern) c8=true:=by rw[isBad_doc hX];first|(simp[*];done)|(simp_all;done)|(cases pattern<;>simp_all;done)|grind
     exact rV
   refine jC 7 Y<|nN (k+1) ?_;refine⟨by omega,?_⟩
   rw[A9 qX] at hj2
   have hX:=hj2
   simp only[GI,A5,CE] at hX
   have hb:S5_ (E1_ pattern) c8=false:=by rw[isBad_doc hX];first|(simp[*];done)|(simp_all;done)|(cases pattern<;>simp_all;done)|grind
   rw[hk2,D9_ hc0,EI,hb]
   simp
 have p1:=df h1;refine kR 11 ?_;unfold keyE;exact tV
theorem r9_Pair{p:Pair}{ahead:List Pair}:aC 311 [p.ag, .sl Pair.pc ahead] (aA (Du_ p ahead)):=by
 refine kG func311 ntmps311 λw N H hG=>?_;have ahead_l:ahead.length<=140737488355328:=w.2.1.1;refine jB 10 [0] Y λB0=>call K2_ Y Y λw0=>kM 10 (λh0=>?_) (λh0=>?_);have h1:=D4_ h0;have p0:=df h1;refine kR 8 ?_;exact xR;have h1:=D0_ h0;have p0:=dt h1;refine kM 10 (λh2=>?_) (λh2=>?_);have p1:=dt h2;exact qR;have p1:=df h2;refine jC 16 Y<|cnd Y (λh3=>have h4:=bl h3;have p2:=dt h4;have h5:=br h3;have p3:=dt h5;qR) λh3=>jC 20 Y<|cnd Y (λh4=>have h5:=bl h4;have p2:=dt h5;qR) λh4=>jC 25 Y<|cnd Y (λh5=>qR) λh5=>have h6:=orl h5;have h7:=orr h5;jA 11 Y<|lP (ι:=Nat) [0,1,2,5,8,9,10,11,12,14,15,16,17,18,19,20,21,22,23,24,25,26,27,28,29,30,31,32,33,34,35,36,37,38,39,40,41,42,43,44,45,46,47,48,49,50,51,52,53,54,55,56,57,58] [0] (λk=>⟨[(59,aA k)],[],k<=ahead.length/\K7_ ahead p.key=K7_ (ahead.drop k) p.key,ahead.length-k⟩) 0 ⟨Nat.zero_le _,rfl⟩<|λk ⟨hk1,hk2⟩=>kM 6 (λh8=>?_) (λh8=>?_);have p2:=dt h8;have⟨c0,hc0⟩:=getE (xs:=ahead) (m:=k) qX;refine jA 6 Y<|jI k hc0 Y Y Y λw1=>jB 14 [1] Y λB1=>cnd Y (λh9=>?_) (λh9=>?_);have p3:=dt h9;refine kR 11 ?_;have e0:=findP_hit hk2 (D9_ hc0) pA;clear hk2;exact xR;have p3:=df h9;exact jC 7 Y<|nN (k+1) ⟨by omega,findP_miss hk2 (D9_ hc0) pA⟩;have p2:=df h8;refine kR 11 ?_;have e0:K7_ ahead p.key=none:=by rw[hk2,A9 qX];rfl
 clear hk2;exact xR
theorem r9_Check{h:List Pair}:aC 248 [.sl Pair.pc h] (aA (Dz_ h)):=by
 refine jG func248 ntmps248 Y λw N H hG=>kN 13 (λp0=>?_) λp1=>?_;refine kR 7 ?_;simp[Dz_, *];refine jA 11 Y<|lP (ι:=Nat) [0,6,7,8,9,10] [] (λk=>⟨[(11,aA k)],[],k<=h.length/\Iv_ [] h=Iv_ (h.take k) (h.drop k),h.length-k⟩) 0 ⟨Nat.zero_le _,rfl⟩<|λk ⟨hk1,hk2⟩=>kN 6 (λp2=>?_) λp3=>?_;have⟨c0,hc0⟩:=getE (xs:=h) (m:=k) qX;refine jA 7 Y<|jI k hc0 Y Y Y λw0=>jB 7 [0] Y λB0=>aN [1,2,3,4,5,6] 6 mixd<|jE [0,1,2] 3 Y<|vq 3 (lshi A_ k Y Y Y Y Y (λ_=>rfl) Y) Y Y λw1=>vC 4 Y r9_Pair Y λw2=>have :=Q1_ c0 (h.take k);jE [5] 0 Y<|vD<|kM 7 (λh0=>?_) (λh0=>?_);exact yU;exact yS;refine kR 11 ?_;unfold Dz_;exact tV
theorem r9_Same{a:List Pair}{b:List Pair}:aC 274 [.sl Pair.pc a, .sl Pair.pc b] (.bool (decide (a=b))):=by
 refine kG func274 ntmps274 λw N H hG=>?_;have a_l:a.length<=140737488355328:=w.1.1;refine kM 15 (λh0=>?_) (λh0=>?_);exact yT;have h1:=D0_ h0;have p0:=dt h1;refine jA 11 Y<|lP (ι:=Nat) [0,1,6,7,8,9,10,11,12] [] (λk=>⟨[(13,aA k)],[],k<=a.length /\ decide (a=b) = decide (a.drop k=b.drop k),a.length-k⟩) 0 ⟨Nat.zero_le _,rfl⟩<|λk ⟨hk1,hk2⟩=>kM 6 (λh2=>?_) (λh2=>?_);have p1:=dt h2;refine jA 11 Y<|aN [0,1,2,3,4,5] 9 mixd<|kE [0,1] 7 ?_;have⟨c0,hc0⟩:=getE (xs:=a) (m:=k) qX;refine vq 2 (qidx A_ k Y Y Y hc0 Y Y Y Y) Y Y λw0=>kE [3,4,5] 3 ?_;have⟨c1,hc1⟩:=getE (xs:=b) (m:=k) qX;refine vq 6 (qidx A_ k Y Y Y hc1 Y Y Y Y) Y Y λw1=>jE [7] 1 Y<|vq 8 (sane Y Y eqg298 (veq298 c0 c1)) Y Y λw2=>vD<|kM 1 (λh3=>?_) (λh3=>?_);exact yY;exact yX;exact xE
theorem l09_Light{h:List Pair}:aC 101 [.sl Pair.pc h] (.bool (P8_ h)):=by
 refine jG func101 ntmps101 Y λw N H hG=>kN 13 (λp0=>?_) λp1=>?_;refine kR 7 ?_;exact congrArg PV.bool (by simp[P8_];omega);refine jA 11 Y<|lP (ι:=Nat) [0,5,6,7,8,9] [] (λk=>⟨[(10,aA k)],[],k<=h.length/\h.all lightP=(h.drop k).all lightP,h.length-k⟩) 0 ⟨Nat.zero_le _,rfl⟩<|λk ⟨hk1,hk2⟩=>kN 6 (λp2=>?_) λp3=>?_;have⟨c0,hc0⟩:=getE (xs:=h) (m:=k) qX;refine jA 6 Y<|jI k hc0 Y Y Y λw0=>jD 19 [0] Y λB0=>cnd Y (λh0=>?_) (λh0=>?_);refine kR 11 ?_;exact congrArg PV.bool (by unfold P8_;rw[all_miss hk2 (D9_ hc0) (by simp[lightP];first|omega|grind)];simp);have h1:=orl h0;have p4:=df h1;have h2:=orr h0;have p5:=df h2;exact jC 7 Y<|nN (k+1) ⟨by omega,all_step hk2 (D9_ hc0) (by simp[lightP];omega)⟩;refine kR 11 ?_;exact congrArg PV.bool (by unfold P8_;rw[all_end hk2 qX];simp;omega)
theorem l13_Light{m:Mail}:aC 102 [m.ag] (.bool (Vl_ m)):=by
 refine kG func102 ntmps102 λw N H hG=>?_;have m_w:=Mail.pwf w.1;have m_w':=m_w;simp only[Mail.wf] at m_w';refine jD 21 [0] Y λB0=>Ha_ Y (λhc=>(l09_Light)) Y Y Y λ_=>jC 11 Y<|rt1 Y Y (ple<|congrArg PV.bool ?_);unfold Vl_;exact yK
theorem l22_Light{d:T_}:aC 27 [d.ag] (.bool (Ud_ d)):=by
 refine kG func27 ntmps27 λw N H hG=>?_;have d_w:=T_.pwf w.1;have d_w':=d_w;simp only[T_.wf,X_.wf,Aa_.wf,R_.wf,Mail.wf] at d_w';refine jB 35 [0] Y λB0=>q1 (qmaxN (z:=(d.Al_.name.length:Int)) (r:=(max (max (max (max (max (max (d.Al_.name.length:Int) (d.Al_.to'.length:Int)) (d.queue.name.length:Int)) (d.queue.dead.length:Int)) (d.bind.Al_.length:Int)) (d.bind.to'.length:Int)) (d.name.length:Int))) [(d.Al_.to'.length:Int),(d.queue.name.length:Int),(d.queue.dead.length:Int),(d.bind.Al_.length:Int),(d.bind.to'.length:Int),(d.name.length:Int)] Y Y Wa_) Y λw0=>jC 22 Y<|Ha_ Y (λhc=>(l09_Light)) Y Y Y λ_=>jC 4 Y<|Ha_ Y (λhc=>(l13_Light)) Y Y Y λ_=>jC 5 Y<|rt1 Y Y (ple<|congrArg PV.bool ?_);unfold Ud_;exact yK
theorem l14_To{x:R_}(hl:x.want.length<=1000000:=by first|omega|(have :=lightD_len d pA;omega)):aC 56 [x.ag] (x.ag):=by
 refine jG func56 ntmps56 Y λw N H hG=>jB 15 [0,1,2] Y λB0=>ef (bsl 3 Pair.pc [] A_ Y Y Y Y Y (λ_=>rfl) Y Y λu0=>jA 2 Y<|ef (app A_ x.want Y Y Y Y Y Y Y Y Y (Nl_ Y (λ_=>rfl)) Y λu1=>jA 1 Y<|give 3 Y<|ef (sO A_ ?_)));exact jB 9 [] Y λ_=>uG
theorem l22_To(d:T_)(hl:d.bind.want.length<=1000000):aC 14 [d.ag] (d.ag):=by
 refine jG func14 ntmps14 Y λw N H hG=>jB 7 [0,1] Y λB0=>aN [1,2,3,4,5,6,7] 29 mixd<|jE [0,1,2,3,4,5,6,7,8,9,11,12,13,14,15,16,17,18,19,20,21,22,23,24,25,26] 3 Y<|vE 10 Y (eC l14_To Y λw0=>jE [27] 1 Y<|vT 28 Y (sA A_ ?_));refine vD<|kR 2 ?_;rfl
theorem eqg102:prog.eqGuardType prog.depth 102=false:=by kernel_rfl
theorem eqg103:prog.eqGuardType prog.depth 103=false:=by kernel_rfl
theorem veq102(p q:X_):∀ (H:Hp) (vs us:List Value),Sims H (X_.pc p) vs->Sims H (X_.pc q) us->EqV prog 10000 102 (.agg vs.toArray) (.agg us.toArray) (decide (p=q)):=by
 intro H vs us hv hu;obtain⟨_,_,rfl,v0,v_0⟩:=hv.inv_cons;obtain⟨_,_,rfl,v1,v_1⟩:=v_0.inv_cons;obtain⟨_,_,rfl,v2,v_2⟩:=v_1.inv_cons
 cases v_2.inv_nil
 cases v0.inv_str.1;cases v1.inv_int.1;cases v2.inv_str.1
 obtain⟨_,_,rfl,u0,u_0⟩:=hu.inv_cons;obtain⟨_,_,rfl,u1,u_1⟩:=u_0.inv_cons;obtain⟨_,_,rfl,u2,u_2⟩:=u_1.inv_cons
 cases u_2.inv_nil
 cases u0.inv_str.1;cases u1.inv_int.1;cases u2.inv_str.1
 exact EqV.to' (J1_ underlying102 (H9_ ag9 Y Y (M4_ underlying9) (H9_ ag5 Y Y (De_ underlying5) (H9_ ag9 Y Y (M4_ underlying9) J0_)))) nR
theorem veq103(p q:Aa_):∀ (H:Hp) (vs us:List Value),Sims H (Aa_.pc p) vs->Sims H (Aa_.pc q) us->EqV prog 10000 103 (.agg vs.toArray) (.agg us.toArray) (decide (p=q)):=by
 intro H vs us hv hu;obtain⟨_,_,rfl,v0,v_0⟩:=hv.inv_cons;obtain⟨_,_,rfl,v1,v_1⟩:=v_0.inv_cons;obtain⟨_,_,rfl,v2,v_2⟩:=v_1.inv_cons;obtain⟨_,_,rfl,v3,v_3⟩:=v_2.inv_cons
 cases v_3.inv_nil
 cases v0.inv_str.1;cases v1.inv_int.1;cases v2.inv_int.1;cases v3.inv_str.1
 obtain⟨_,_,rfl,u0,u_0⟩:=hu.inv_cons;obtain⟨_,_,rfl,u1,u_1⟩:=u_0.inv_cons;obtain⟨_,_,rfl,u2,u_2⟩:=u_1.inv_cons;obtain⟨_,_,rfl,u3,u_3⟩:=u_2.inv_cons
 cases u_3.inv_nil
 cases u0.inv_str.1;cases u1.inv_int.1;cases u2.inv_int.1;cases u3.inv_str.1
 exact EqV.to' (J1_ underlying103 (H9_ ag9 Y Y (M4_ underlying9) (H9_ ag36 Y Y (De_ underlying36) (H9_ ag36 Y Y (De_ underlying36) (H9_ ag9 Y Y (M4_ underlying9) J0_))))) nL
theorem r13_Same{a:Mail}(b:Mail):aC 247 [a.ag,b.ag] (.bool (decide (a=b))):=by
 exact jG func247 ntmps247 Y λw N H hG=>jD 33 [0,1] Y λB0=>Ha_ Y (λhc=>(r9_Same)) Y Y Y λ_=>vK
theorem Q5_{a:R_}(b:R_):aC 190 [a.ag,b.ag] (.bool (decide (a=b))):=by
 exact jG func190 ntmps190 Y λw N H hG=>jD 47 [0,1] Y λB0=>Ha_ Y (λhc=>(r9_Same)) Y Y Y λ_=>jC 5 Y<|uF
theorem Hx_{k:Int}:aC 139 [.int .u8 k] (.bool (decide (k=1\/k=3\/k=7\/k=8))):=by
 refine jG func139 ntmps139 Y λw N H hG=>jC 25 Y<|rt1 Y Y (ple<|congrArg PV.bool ?_)
 first|(rw[AU];simp only[decide_eq_true_eq,CT,false_iff,true_iff];omega)|(rw[AU];simp[or_assoc];done)|(rw[AU];simp;omega)|(rw[AU];simp;grind)
theorem r22_maybe{s:Bs}:aC 136 [.str s] (aA (Kl_ s)):=by
 refine jG func136 ntmps136 Y λw N H hG=>kN 12 (λp0=>?_) λp1=>?_;refine kR 7 ?_;simp[Kl_, *];refine kL 5 K2_ Y Y Y λw0=>kR 4 ?_;simp[Kl_, *]
theorem r22_spare{d:T_}:aC 135 [d.ag] (.bool (!decide (d=Ht_ d))):=by
 refine jG func135 ntmps135 Y λw N H hG=>jD 22 [0] Y λB0=>q1g [10,11] Y (λhc=>sane Y Y eqg102 (veq102 d.Al_ aR)) Y Y Y λ_=>jC 8 Y<|q1g [19,20] Y (λhc=>sane Y Y eqg103 (veq103 d.queue aO)) Y Y Y λ_=>jC 4 Y<|cnd Y (λh0=>vY) λh0=>have h1:=orl h0;jC 15 Y<|Ha_ Y (λhc=>(Q5_ aS)) Y Y Y λ_=>jC 4 Y<|cnd Y (λh2=>have h3:=bl h2;have h4:=bl h3;have h5:=D4_ h4;have p0:=df h5;have h6:=br h3;have h7:=D4_ h6;have p1:=df h7;have h8:=br h2;have h9:=D4_ h8;have p2:=df h9;vY) λh2=>kL 6 Hx_ Y Y Y λw0=>jC 22 Y<|cnd Y (λh3=>vY) λh3=>have h4:=orl h3;jC 33 Y<|cnd Y (λh5=>vY) λh5=>have h6:=orl h5;jC 14 Y<|Ha_ Y (λhc=>(r13_Same aK)) Y Y Y λ_=>jC 6 Y<|rt1 Y Y (ple<|congrArg PV.bool ?_);rw[AU];simp only[Bool.or_eq_false_iff,Bool.and_eq_false_iff,Bool.not_eq_false',Bool.not_eq_true',Bool.and_eq_true,decide_eq_true_eq,decide_eq_false_iff_not] at *;constructor;intro hm hh;have⟨_,_,_,_,_,_,_,_,_,_,t11⟩:=P6_.1 hh;exact hm.2 (t11 hm.1.1 hm.1.2);intro hn;refine Classical.byContradiction λq=>hn (P6_.2 ⟨?_,?_,?_,?_,?_,?_,?_,?_,?_,?_,?_⟩)<;>clear hn<;>grind
theorem Uw_{b:R_}:aC 137 [b.ag] (aA (Do_ [C6_ b.Al_,C6_ b.to',Dd_ (decide ((64:Int)<b.key.length)) 5,Dz_ b.want])):=by
 refine jG func137 ntmps137 Y λw N H hG=>jB 10 [0] Y λB0=>call K2_ Y Y λw0=>kM 10 (λh0=>?_) (λh0=>?_);have p0:=dt h0;refine kL 3 K2_ Y Y Y λw1=>jC 16 Y<|cnd Y (λh1=>yV) λh1=>kN 9 (λp1=>?_) λp2=>?_
 . refine kL 3 r9_Check Y Y Y λw2=>kR 10 ?_;refine congrArg (PV.int .i64) ?_
   (try simp only[bl1] at *)
   simp only[Do_,Dd_,decide_eq_true_eq]
   (repeat' split)<;>first|rfl|omega|grind
 exact uB;have p0:=df h0;exact jC 15 Y<|cnd Y (λh1=>yV) λh1=>jA 9 Y<|cndF Y h0<|uB
theorem O5_{m:Mail}:aC 138 [m.ag] (aA (D6_ m)):=by
 refine jG func138 ntmps138 Y λw N H hG=>jB 10 [0] Y λB0=>call K2_ Y Y λw0=>kM 10 (λh0=>?_) (λh0=>?_);have p0:=dt h0;refine kL 3 r4_Key Y Y Y λw1=>kM 10 (λh1=>?_) (λh1=>?_);have p1:=dt h1;exact kL 3 r9_Check Y Y Y λw2=>jC 16 Y<|cnd Y (λh2=>have h3:=bl h2;have p2:=dt h3;have h4:=br h2;jC 16 Y<|cnd Y (λh5=>rY) λh5=>qV) λh2=>jC 14 Y<|cnd Y (λh3=>rX) λh3=>qV;have p1:=df h1;exact jC 15 Y<|cnd Y (λh2=>have h3:=bl h2;have p2:=dt h3;have h4:=br h2;jC 16 Y<|cnd Y (λh5=>rY) λh5=>qV) λh2=>jC 14 Y<|cnd Y (λh3=>rX) λh3=>qV;have p0:=df h0;refine jA 9 Y<|cndF Y h0<|jC 15 Y<|cnd Y (λh1=>?_) (λh1=>?_);have h2:=bl h1;have p1:=dt h2;have h3:=br h1;refine jC 16 Y<|cnd Y (λh4=>?_) (λh4=>?_);have h5:=bl h4;have p2:=dt h5;have h6:=br h4;refine kR 11 ?_;exact yZ;exact qV;refine jC 14 Y<|cnd Y (λh2=>?_) (λh2=>?_);have h3:=bl h2;have p1:=dt h3;have h4:=br h2;refine kR 11 ?_;exact yZ;exact qV
theorem r22_Check{d:T_}:aC 42 [d.ag] (aA (Dl_ d)):=by
 refine kG func42 ntmps42 λw N H hG=>?_;have d_w:=T_.pwf w.1;have d_w':=d_w;simp only[T_.wf,X_.wf,Aa_.wf,R_.wf,Mail.wf] at d_w';refine jB 14 [0] Y λB0=>cn Y (λp0=>?_) λp1=>?_;refine kR 7 ?_;exact xP;refine kL 6 r22_spare Y Y Y λw0=>kM 2 (λh0=>?_) (λh0=>?_);have h1:=D4_ h0;refine kR 7 ?_;exact xP;have h1:=D0_ h0;have p2:=dt h1;have⟨t1,t2,t3,t4,t5,t6,t7,t8,t9,t10,t11⟩:=P6_.1 p2;refine kN 21 (λp3=>?_) λp4=>?_;refine kL 5 K2_ Y Y Y λw1=>jC 16 Y<|cnd Y (λh2=>have h3:=bl h2;have p5:=dt h3;have h4:=br h2;have p6:=dt h4;jA 10 Y<|cndF Y qZ<|kL 8 Hx_ Y Y Y λw2=>jA 2 Y<|cndF Y (fd qX)<|jC 14 Y<|cnd Y (λh5=>have h6:=bl h5;have p7:=dt h6;have h7:=br h5;qQ) λh5=>qU) λh2=>kN 8 (λp5=>?_) λp6=>?_;exact kL 4 r22_maybe Y Y Y λw2=>have :=Pq_ d.Al_.to';kL 9 Hx_ Y Y Y λw3=>jA 2 Y<|cndF Y (fd qX)<|jC 14 Y<|cnd Y (λh3=>have h4:=bl h3;have h5:=br h3;have p7:=dt h5;qQ) λh3=>qU;exact kL 8 Hx_ Y Y Y λw2=>jA 2 Y<|cndF Y (fd qX)<|jC 14 Y<|cnd Y (λh3=>have h4:=bl h3;have p7:=dt h4;have h5:=br h3;qQ) λh3=>qU;refine kN 6 (λp5=>?_) λp6=>?_;refine kL 5 K2_ Y Y Y λw1=>kN 9 (λp7=>?_) λp8=>?_;exact kL 4 r22_maybe Y Y Y λw2=>have :=Pq_ d.queue.dead;kL 9 Hx_ Y Y Y λw3=>jA 2 Y<|cndF Y (fd qX)<|jC 14 Y<|cnd Y (λh2=>have h3:=bl h2;have h4:=br h2;have p9:=dt h4;qQ) λh2=>qU;exact kL 8 Hx_ Y Y Y λw2=>jA 2 Y<|cndF Y (fd qX)<|jC 14 Y<|cnd Y (λh2=>have h3:=bl h2;have p9:=dt h3;have h4:=br h2;qQ) λh2=>qU;refine kM 7 (λh2=>?_) (λh2=>?_);have p7:=dt h2;exact jA 2 Y<|cndT Y h2<|kL 3 Uw_ Y Y Y λw1=>have :=bindE_r d.bind;kL 9 Hx_ Y Y Y λw2=>jA 2 Y<|cndF Y (fd qX)<|jC 14 Y<|cnd Y (λh3=>have h4:=bl h3;have h5:=br h3;have p8:=dt h5;qQ) λh3=>qU;have p7:=df h2;refine kN 5 (λp8=>?_) λp9=>?_;exact kL 3 Uw_ Y Y Y λw1=>have :=bindE_r d.bind;kL 9 Hx_ Y Y Y λw2=>jA 2 Y<|cndF Y (fd qX)<|jC 14 Y<|cnd Y (λh3=>have h4:=bl h3;have h5:=br h3;have p10:=dt h5;qQ) λh3=>qU;refine kM 7 (λh3=>?_) (λh3=>?_);have p10:=dt h3;exact jA 2 Y<|cndT Y h3<|kL 3 O5_ Y Y Y λw1=>have :=Kk_ d.P_;kL 9 Hx_ Y Y Y λw2=>jA 2 Y<|cndF Y (fd qX)<|jC 14 Y<|cnd Y (λh4=>have h5:=bl h4;have h6:=br h4;have p11:=dt h6;qQ) λh4=>qU;have p10:=df h3;refine kN 5 (λp11=>?_) λp12=>?_;exact kL 3 O5_ Y Y Y λw1=>have :=Kk_ d.P_;kL 9 Hx_ Y Y Y λw2=>jA 2 Y<|cndF Y (fd qX)<|jC 14 Y<|cnd Y (λh4=>have h5:=bl h4;have h6:=br h4;have p13:=dt h6;qQ) λh4=>qU;refine kN 6 (λp13=>?_) λp14=>?_;refine kN 8 (λp15=>?_) λp16=>?_;exact kL 10 Hx_ Y Y Y λw1=>jA 2 Y<|cndF Y (fd qX)<|jC 14 Y<|cnd Y (λh4=>have h5:=bl h4;have p17:=dt h5;have h6:=br h4;qQ) λh4=>qU;exact kL 8 Hx_ Y Y Y λw1=>jA 2 Y<|cndF Y (fd qX)<|jC 14 Y<|cnd Y (λh4=>have h5:=bl h4;have h6:=br h4;have p17:=dt h6;qQ) λh4=>qU;refine kL 8 Hx_ Y Y Y λw1=>kN 2 (λp15=>?_) λp16=>?_;exact kL 3 K2_ Y Y Y λw2=>jC 15 Y<|cnd Y (λh4=>have h5:=bl h4;have p17:=dt h5;have h6:=br h4;have p18:=dt h6;qQ) λh4=>qU;exact jC 14 Y<|cnd Y (λh4=>have h5:=bl h4;have h6:=br h4;have p17:=dt h6;qQ) λh4=>qU
theorem rule_Check(r:Rule):aC 246 [r.ag] (aA (Qk_ r)):=by
 refine kG func246 ntmps246 λw N H hG=>?_;have r_w:=Rule.pwf w.1;have r_w':=r_w;simp only[Rule.wf] at r_w';refine jB 21 [0] Y λB0=>cn Y (λp0=>?_) λp1=>?_;refine kR 8 ?_;exact xQ;refine kN 8 (λp2=>?_) λp3=>?_;refine kL 3 words_Key Y Y Y λw0=>kM 11 (λh0=>?_) (λh0=>?_);have h1:=D4_ h0;refine kR 8 ?_;exact xQ;exact rW;refine kL 3 words_Pattern Y Y Y λw0=>kM 11 (λh0=>?_) (λh0=>?_);have h1:=D4_ h0;refine kR 8 ?_;exact xQ;exact rW
theorem rule_heads{r:Rule}{h:List Pair}:aC 340 [r.ag, .sl Pair.pc h] (.bool (Ki_ r.all h r.want)):=by
 refine kG func340 ntmps340 λw N H hG=>?_;have r_want_l:r.want.length<=140737488355328:=w.1.2.2.1.1;refine jB 20 [0] Y λB0=>lP (ι:=Nat) [0,1,2,10,11,12] [0] (λk=>⟨[(13,aA k)],[],k<=r.want.length/\Ki_ r.all h r.want=Ki_ r.all h (r.want.drop k),r.want.length-k⟩) 0 ⟨Nat.zero_le _,rfl⟩<|λk ⟨hk1,hk2⟩=>kN 6 (λp0=>?_) λp1=>?_;have⟨c0,hc0⟩:=getE (xs:=r.want) (m:=k) qX;refine jA 6 Y<|jI k hc0 Y Y Y λw0=>jB 10 [1] Y λB1=>call head_Find Y Y λw1=>jB 14 [2] Y λB2=>q1g [26,27] Y (λhc=>saeq Y Y eqg298 (veq298 ((K7_ h c0.key).getD Pair.zero) c0)) Y Y Y λ_=>jC 15 Y<|cnd Y (λh0=>have h1:=bl h0;have h2:=bl h1;have h3:=br h1;have p2:=dt h3;have h4:=br h0;qN) λh0=>kM 6 (λh1=>?_) (λh1=>?_);have h2:=bl h1;have h3:=br h1;have p2:=dt h3;refine kR 13 ?_;refine congrArg PV.bool ?_;exact tQ;refine kM 7 (λh2=>?_) (λh2=>?_);refine kR 13 ?_;refine congrArg PV.bool ?_;exact tQ;exact qN;refine kR 14 ?_;refine congrArg PV.bool ?_;rw[hk2,A9 qX];rfl
theorem Zl_(r:Rule)(key:Bs)(h:List Pair)(hrk:r.key.length<4294967281:=by first|omega|(simp;done)|decide)(hk:key.length<4294967281:=by first|omega|(simp;done)|decide):aC 290 [r.ag, .str key, .sl Pair.pc h] (.bool (Qr_ r key h)):=by
 refine jG func290 ntmps290 Y λw N H hG=>jB 20 [0] Y λB0=>cn Y (λp0=>?_) λp1=>?_;refine kR 12 ?_;exact xW;refine kN 6 (λp2=>?_) λp3=>?_;refine kL 5 Mw_ Y Y Y λw0=>kR 6 ?_;exact xW;refine kN 6 (λp4=>?_) λp5=>?_;refine kL 4 rule_heads Y Y Y λw0=>kR 6 ?_;exact xW;refine kR 9 ?_;exact xW
theorem match_Same{a:Rule}{b:Rule}:aC 266 [a.ag,b.ag] (.bool (decide (a=b))):=by
 exact jG func266 ntmps266 Y λw N H hG=>jD 33 [0,1] Y λB0=>Ha_ Y (λhc=>(eq_Pair)) Y Y Y λ_=>jC 5 Y<|rt1 Y Y (ple<|congrArg PV.bool (by rw[AU];first|(simp[Rule.eq_iff,and_assoc];done)|(simp[Rule.eq_iff];grind)))
theorem eq_Str{a:List Bs}{b:List Bs}:aC 383 [.sl strc a, .sl strc b] (.bool (decide (a=b))):=by
 refine kG func383 ntmps383 λw N H hG=>?_;have a_l:a.length<=140737488355328:=w.1.1;refine kM 15 (λh0=>?_) (λh0=>?_);exact yT;have h1:=D0_ h0;have p0:=dt h1;refine jA 11 Y<|lP (ι:=Nat) [0,1,6,7,8,9,10,11,12] [] (λk=>⟨[(13,aA k)],[],k<=a.length /\ decide (a=b) = decide (a.drop k=b.drop k),a.length-k⟩) 0 ⟨Nat.zero_le _,rfl⟩<|λk ⟨hk1,hk2⟩=>kM 6 (λh2=>?_) (λh2=>?_);have p1:=dt h2;refine jA 11 Y<|aN [0,1,2,3,4,5] 9 mixd<|kE [0,1] 7 ?_;have⟨c0,hc0⟩:=getE (xs:=a) (m:=k) qX;refine vq 2 (qidx A_ k Y Y Y hc0 Y Y Y Y) Y Y λw0=>kE [3,4,5] 3 ?_;have⟨c1,hc1⟩:=getE (xs:=b) (m:=k) qX;refine vq 6 (qidx A_ k Y Y Y hc1 Y Y Y Y) Y Y λw1=>jE [7,8] 0 Y<|vD<|kM 1 (λh3=>?_) (λh3=>?_);exact yY;exact yX;exact xE
theorem index_Str{l:List Bs}{x:Bs}:aC 365 [.sl strc l, .str x] (aA (idxP (λy=>decide (x=y)) l)):=by
 refine kG func365 ntmps365 λw N H hG=>?_;have l_l:l.length<=140737488355328:=w.1.1;refine jA 14 Y<|lP (ι:=Nat) [0,1,6,7] [] (λk=>⟨[(8,aA k)],[],k<=l.length/\idxP (λy=>decide (x=y)) l=idxF (λy=>decide (x=y)) k (l.drop k),l.length-k⟩) 0 ⟨Nat.zero_le _,rfl⟩<|λk ⟨hik1,hik2⟩=>kM 6 (λh0=>?_) (λh0=>?_);have p0:=dt h0;have⟨c0,hc0⟩:=getE (xs:=l) (m:=k) qX;refine jA 15 Y<|jI k hc0 Y Y Y λw0=>kM 4 (λh1=>?_) (λh1=>?_);have p1:=dt h1;exact vV;have p1:=df h1;exact jC 7 Y<|nN (k+1) ⟨by omega,Mn_ hik2 (D9_ hc0) pA⟩;have p0:=df h0;exact vU
theorem contains_Str{l:List Bs}{x:Bs}:aC 341 [.sl strc l, .str x] (.bool (decide (x∈l))):=by
 refine jG func341 ntmps341 Y λw N H hG=>kL 9 index_Str Y Y Y λw0=>have :=idxP_r (λy=>decide (x=y)) l;kR 5 ?_;refine congrArg PV.bool ?_;rw[AU,decide_eq_true_eq,decide_eq_true_eq,idxP_any];simp
theorem shop_check{x:X_}:aC 238 [x.ag] (aA (Kh_ x)):=by
 refine jG func238 ntmps238 Y λw N H hG=>jB 11 [0] Y λB0=>call Fd_ Y Y λw0=>kM 9 (λh0=>?_) (λh0=>?_);have h1:=D4_ h0;refine kR 8 ?_;exact xT;have h1:=D0_ h0;have p0:=dt h1;refine kM 12 (λh2=>?_) (λh2=>?_);have p1:=dt h2;refine kR 8 ?_;exact xT;have p1:=df h2;refine kM 8 (λh3=>?_) (λh3=>?_);have p2:=dt h3;refine kL 4 Fd_ Y Y Y λw1=>kR 6 ?_;exact xT;have p2:=df h3;refine kM 8 (λh4=>?_) (λh4=>?_);have h5:=D4_ h4;refine kR 8 ?_;exact xT;have h5:=D0_ h4;refine kR 9 ?_;exact xT
theorem Tt_{b:Ai_}{name:Bs}:aC 218 [b.ag, .str name] (.tup [.agg (X_.pc ((D7_ b.Ae_ name).getD X_.zero)), .bool ((D7_ b.Ae_ name).isSome)]):=by
 refine kG func218 ntmps218 λw N H hG=>?_;have b_shops_l:b.Ae_.length<=140737488355328:=w.1.1.1;refine jB 17 [0,1] Y λB0=>lP (ι:=Nat) [0,1,2,4,8,9,10] [0,1] (λk=>⟨[(11,aA k)],[],k<=b.Ae_.length/\D7_ b.Ae_ name=D7_ (b.Ae_.drop k) name,b.Ae_.length-k⟩) 0 ⟨Nat.zero_le _,rfl⟩<|λk ⟨hk1,hk2⟩=>kM 6 (λh0=>?_) (λh0=>?_);have p0:=dt h0;have⟨c0,hc0⟩:=getE (xs:=b.Ae_) (m:=k) qX;refine jA 6 Y<|jI k hc0 Y Y Y λw0=>jB 13 [2] Y λB1=>cnd Y (λh1=>?_) (λh1=>?_);have p1:=dt h1;refine jB 13 [] Y λ_=>rt2 Y Y<|ple ?_;have e:=shopOf_hit hk2 (D9_ hc0) pA;rw[e];rfl;have p1:=df h1;exact jC 7 Y<|nN (k+1) ⟨by omega,shopOf_miss hk2 (D9_ hc0) pA⟩;have p0:=df h0;refine jB 13 [] Y λ_=>rt2 Y Y<|ple ?_;rw[A9 qX] at hk2;rw[hk2];rfl
theorem Ts_{x:R_}{sort:Int}:aC 245 [x.ag, .int .u8 sort] (.agg (Rule.pc (Hd_ x sort))):=by
 exact jG func245 ntmps245 Y λw N H hG=>jB 20 [0,1] Y λB0=>uG
theorem bind_same(x:R_)(y:R_):aC 178 [x.ag,y.ag] (.bool (decide (x=y))):=by
 refine jG func178 ntmps178 Y λw N H hG=>jB 8 [0,1] Y λB0=>aN [2,3,4,5,6,7] 27 mixd<|kF [0,1,2,3,4,5,6,7,8,9,10,11,12,13,14,15,16,17,18,19,20,22] 5 ?_;refine vE 21 Y (ecallg Y (λhc=>(Ts_)) Y Y Y λ_=>vE 23 Y (ecallg Y (λhc=>(Ts_)) Y Y Y λ_=>U6_ 24 Y Y (λhc=>(match_Same)) Y Y Y λ_=>kF [25,26] 0 ?_));refine vD<|kR 2 ?_;exact congrArg PV.bool (by rw[AU];first|(simp[R_.eq_iff,Hd_,and_assoc];done)|(simp[R_.eq_iff,Hd_];grind))
theorem Z9_{s:List Pair}(hl:s.length<=1000000:=by first|omega|(simp;done)|(simp;omega)):aC 223 [.sl Pair.pc s] (.sl Pair.pc s):=by
 refine jG func223 ntmps223 Y λw N H hG=>jA 9 Y<|ef (lnil A_ Y Y Y Y Y λb0 hb2=>kM 2 (λh0=>?_) (λh0=>?_));exact wQ;exact jA 4 Y<|ef (bsl 0 Pair.pc [] A_ Y Y Y Y Y (λ_=>rfl) Y Y λu0=>wE)
theorem Z6_{x:R_}(hl:x.want.length<=1000000:=by first|omega|(simp;done)|decide):aC 157 [x.ag] (x.ag):=by
 exact jG func157 ntmps157 Y λw N H hG=>jB 10 [0,1] Y λB0=>call Z9_ Y Y λw0=>jB 11 [] Y λ_=>uG
theorem idxF_Bind{s:List R_}{f:FuncId}{f_fst f_cap:List PV}(f_p:R_->Bool)(f_h:∀ x,aC f (argsP.apL f_fst ((x.ag)::f_cap)) (.bool (f_p x))):aC 308 [.sl R_.pc s, .fn f f_fst f_cap] (aA (idxP f_p s)):=by
 refine kG func308 ntmps308 λw N H hG=>?_;have s_l:s.length<=140737488355328:=w.1.1;refine jA 14 Y<|lP (ι:=Nat) [0,1,6,7] [] (λk=>⟨[(8,aA k)],[],k<=s.length/\idxP f_p s=idxF f_p k (s.drop k),s.length-k⟩) 0 ⟨Nat.zero_le _,rfl⟩<|λk ⟨hk1,hk2⟩=>kM 6 (λh0=>?_) (λh0=>?_);have p0:=dt h0;have⟨c0,hc0⟩:=getE (xs:=s) (m:=k) qX;refine jA 15 Y<|jI k hc0 Y Y Y λw0=>kL 1 (f_h c0) Y Y Y λw1=>kM 2 (λh1=>?_) (λh1=>?_);exact vW;exact vO;exact xC
theorem u8row{z:Int}(h:0<=z/\z<=255):((UInt8.ofNat z.toNat).toNat:Int)=z:=by
 rw[UInt8.toNat_ofNat'];omega
theorem G3_{n:Int}{bytes:Int}:aC 76 [aB n,aA bytes] (.str (numB (numK bytes) n.toNat)):=by
 refine kG func76 ntmps76 λw N H hG=>?_;have n_r:0<=n/\n<=18446744073709551615:=w.1;have bytes_r:-9223372036854775808<=bytes/\bytes<=9223372036854775807:=w.2.1;refine kN 12 (λp0=>?_) λp1=>?_
 . refine jA 11 Y<|cndF Y qZ<|jA 3 Y<|aN [0,1,2,3,4,5] 12 mixd<|kF [0,1,2,3] 8 ?_;refine vC 4 Y G3_ Y λw0=>have :=V_ (numK (8-1)) ((n/256)).toNat;have :=E8_ (8-1);kF [5,6] 5 ?_;refine vE 7 Y (eqy (H0_ A_ Y Y Y Y rg_u8) Y λw1=>vE 8 Y (bsl 0 u8c [D6 ((n%256)).toNat] A_ Y Y Y Y nY (λ_=>rfl) Y Y λu0=>?_))
   refine vE 9 Y (sb2s A_ Y Y Y Y Y Y Y Y Y pC rfl<|gov A_ [10,11] 0 Y qY Y Y ⟨pM,trivial⟩<|vD<|kR 2 ?_)
   first
     |(rw[Vs_ n_r.1 qX qX];done)
     |(rw[show numK bytes=numK 8 by unfold numK;omega,Vs_ (b:=8) n_r.1 qX qX];done)
     |(rw[show numK bytes=0 by unfold numK;omega];rfl)
 refine kN 9 (λp2=>?_) λp3=>?_
 . refine kR 7 ?_
   first
     |(rw[Vs_ n_r.1 qX qX];done)
     |(rw[show numK bytes=numK 8 by unfold numK;omega,Vs_ (b:=8) n_r.1 qX qX];done)
     |(rw[show numK bytes=0 by unfold numK;omega];rfl)
 refine jA 3 Y<|aN [0,1,2,3,4,5] 12 mixd<|kF [0,1,2,3] 8 ?_;refine vC 4 Y G3_ Y λw0=>have :=V_ (numK (bytes-1)) ((n/256)).toNat;have :=E8_ (bytes-1);kF [5,6] 5 ?_;refine vE 7 Y (eqy (H0_ A_ Y Y Y Y rg_u8) Y λw1=>vE 8 Y (bsl 0 u8c [D6 ((n%256)).toNat] A_ Y Y Y Y nY (λ_=>rfl) Y Y λu0=>?_))
 refine vE 9 Y (sb2s A_ Y Y Y Y Y Y Y Y Y pC rfl<|gov A_ [10,11] 0 Y qY Y Y ⟨pM,trivial⟩<|vD<|kR 2 ?_)
 first
   |(rw[Vs_ n_r.1 qX qX];done)
   |(rw[show numK bytes=numK 8 by unfold numK;omega,Vs_ (b:=8) n_r.1 qX qX];done)
   |(rw[show numK bytes=0 by unfold numK;omega];rfl)
termination_by numK bytes
decreasing_by all_goals (unfold numK;omega)
theorem Lo_{s:Bs}(hs:s.length<=4611686018427387904:=by first|omega|(simp;done)|(simp;omega)):aC 77 [.str s] (.str (txtB s)):=by
 refine jG func77 ntmps77 Y λw N H hG=>jA 9 Y<|q1 (H0_ A_ Y Y Y Y Hy_) Y λw0=>call G3_ Y Y λw1=>?_;have :=V_ (numK 2) ((s.length:Int)).toNat;have :=E8_ 2;have :numK 2=2:=by decide
 refine go A_ 6 Y Y ⟨pM,trivial⟩<|rt1 Y Y (ple ?_);unfold txtB;rw[show numK 2=2 by decide,A7]
theorem r9_Bytes{h:List Pair}(hs:Zn_ h:=by first|assumption|exact P3_ pA|exact Ob_ pA|exact Pb_ oG):aC 79 [.sl Pair.pc h] (.str (r9B h)):=by
 refine kG func79 ntmps79 λw N H hG=>?_;have h_l:h.length<=140737488355328:=w.1.1;have hs1:=hs.1;refine jA 9 Y<|q1 (H0_ A_ Y Y Y Y Hy_) Y λw0=>call G3_ Y Y λw1=>?_;have :=V_ (numK 1) ((h.length:Int)).toNat;have :=E8_ 1;have :numK 1=1:=by decide
 refine jA 12 Y<|lP (ι:=Nat×Bs) [0,2,6,7,8,9,10,11] [] (λ⟨k,acc⟩=>⟨[(3, .str acc),(12,aA k)],[],k<=h.length/\r9B h=acc++(h.drop k).flatMap Jo_/\acc.length<=1+2100*k,h.length-k⟩) ⟨0,(numB (numK 1) (h.length:Int).toNat)⟩ ⟨Nat.zero_le _,by unfold r9B;rw[show numK 1=1 by decide,A7];simp,by omega⟩<|λ⟨k,acc⟩ ⟨hk1,hk2,hk3⟩=>kN 6 (λp0=>?_) λp1=>?_;have⟨c0,hc0⟩:=getE (xs:=h) (m:=k) qX;have hsm0:=hs.2 c0 (A1 hc0);refine jA 6 Y<|jI k hc0 Y Y Y λw2=>jB 6 [0] Y λB0=>aN [1,2,3,4,5,6] 11 mixd<|jE [0,1,2] 8 Y<|vC 3 Y Lo_ Y λw3=>have :=Ii_ c0.key;gov A_ [4,5,6,7] 3 Y qY Y Y ⟨pM,trivial⟩<|vC 8 Y G3_ Y λw4=>?_;have :=V_ (numK 1) (c0.kind).toNat;have :=E8_ 1;have :numK 1=1:=by decide
 refine gov A_ [9,10] 0 Y qY Y Y ⟨pM,trivial⟩<|vD<|kN 8 (λp2=>?_) λp3=>?_;refine kL 5 G3_ Y Y Y λw5=>?_;have :=V_ (numK 8) ((A0 .u64 c0.num)).toNat;have :=E8_ 8;have :numK 8=8:=by decide
 refine go A_ 9 Y Y ⟨pM,qX,trivial⟩<|nN ⟨(k+1),(((acc++(txtB c0.key))++(numB (numK 1) c0.kind.toNat))++(numB (numK 8) (A0 .u64 c0.num).toNat))⟩ ?_;have hsm:=hs.2 c0 (A1 hc0);have hpl:=Un_ hsm;have e:(((acc++(txtB c0.key))++(numB (numK 1) c0.kind.toNat))++(numB (numK 8) (A0 .u64 c0.num).toNat))=acc++Jo_ c0:=by
   exact rQ
 exact sU;refine kN 7 (λp4=>?_) λp5=>?_;refine kL 4 Lo_ Y Y Y λw5=>have :=Ii_ c0.text;go A_ 9 Y Y ⟨pM,qX,trivial⟩<|nN ⟨(k+1),(((acc++(txtB c0.key))++(numB (numK 1) c0.kind.toNat))++(txtB c0.text))⟩ ?_;have hsm:=hs.2 c0 (A1 hc0);have hpl:=Un_ hsm;have e:(((acc++(txtB c0.key))++(numB (numK 1) c0.kind.toNat))++(txtB c0.text))=acc++Jo_ c0:=by
   exact rQ
 exact sU;refine kL 5 G3_ Y Y Y λw5=>?_;have :=V_ (numK 1) ((A0 .u64 c0.num)).toNat;have :=E8_ 1;have :numK 1=1:=by decide
 refine go A_ 9 Y Y ⟨pM,qX,trivial⟩<|nN ⟨(k+1),(((acc++(txtB c0.key))++(numB (numK 1) c0.kind.toNat))++(numB (numK 1) (A0 .u64 c0.num).toNat))⟩ ?_;have hsm:=hs.2 c0 (A1 hc0);have hpl:=Un_ hsm;have e:(((acc++(txtB c0.key))++(numB (numK 1) c0.kind.toNat))++(numB (numK 1) (A0 .u64 c0.num).toNat))=acc++Jo_ c0:=by
   exact rQ
 exact sU;refine kR 12 ?_;rw[hk2,A9 qX];simp
theorem Y5_(m:Mail)(hE:D6_ m=0:=by first|assumption|omega):aC 174 [m.ag] (.str (Qg_ m)):=by
 refine kG func174 ntmps174 λw N H hG=>?_;have m_w:=Mail.pwf w.1;have m_w':=m_w;simp only[Mail.wf] at m_w';have m_head_k:=Mail.kd3 w.1;have⟨mk1,mk2,mk3,mk4,mk5⟩:=Ix_ hE;have hsx:=Pb_ mk3;have hrl:=r9B_le mk3 m_head_k;refine jB 7 [0] Y λB0=>aN [1,2,3,4,5,6] 29 mixd<|jE [0,1] 27 Y<|vC 2 Y G3_ Y λw0=>?_;have :=V_ (numK 8) (m.id).toNat;have :=E8_ 8;have :numK 8=8:=by decide
 refine jE [3,4] 24 Y<|vC 5 Y Lo_ Y λw1=>have :=Ii_ m.Al_;gov A_ [6,7,8] 20 Y qY Y Y ⟨pM,trivial⟩<|vC 9 Y Lo_ Y λw2=>have :=Ii_ m.key;gov A_ [10,11,12] 16 Y qY Y Y ⟨pM,trivial⟩<|vC 13 Y r9_Bytes Y λw3=>?_;have hsmx6:Zn_ m.head:=by first|assumption|exact P3_ pA|exact Ob_ pA|exact Pb_ oG
 have :=r9B_len hsmx6;have :=hsmx6.1;refine gov A_ [14,15,16] 12 Y qY Y Y ⟨pM,trivial⟩<|vC 17 Y Lo_ Y λw4=>have :=Ii_ m.body;gov A_ [18,19,20] 8 Y qY Y Y ⟨pM,trivial⟩<|vC 21 Y G3_ Y λw5=>?_;have :=V_ (numK 8) (m.due).toNat;have :=E8_ 8;have :numK 8=8:=by decide
 refine gov A_ [22,23,24,25] 3 Y qY Y Y ⟨pM,trivial⟩<|vC 26 Y G3_ Y λw6=>?_;have :=V_ (numK 1) (m.hops).toNat;have :=E8_ 1;have :numK 1=1:=by decide
 refine gov A_ [27,28] 0 Y qY Y Y ⟨pM,trivial⟩<|vD<|kR 2 ?_;have k0:numK 1=1:=by decide
 have k1:numK 8=8:=by decide
 simp only[k0,k1,List.append_assoc]
 try rfl
theorem Ur_(b:Ai_)(n:Bs):-1<=Gc_ b n/\Gc_ b n<b.Ae_.length:=by
 have :Gc_ b n=idxP (λs:X_=>decide (s.name=n)) b.Ae_:=Sx_ _ (J5_ n) (λ_=>rfl) (λ_ _ _=>rfl) b.Ae_ 0;rw[this];exact Jj_ _ _
theorem Y9_(l:List Bs)(s:Bs):∀ (f v:Nat),l.length-v<f->v<=l.length->(Ke_ l s f v).length<=l.length+1
 |0,v,h,_=>by omega
 |f+1,v,h,hv=>by
   unfold Ke_
   let Q:List Bs->Prop:=λr=>r.length<=l.length+1
   refine bt (P:=Q) (λe=>?_) λ_=>?_
   . simp only[decide_eq_true_eq] at e
     exact bt (P:=Q) (λ_=>Nat.le_succ _) λ_=>Y9_ l s f (v+1) qX qX
   . show (l++[s]).length<=l.length+1
     simp
theorem r14put_len(l:List Bs)(s:Bs):(Oh_ l s).length<=l.length+1:=Y9_ l s _ 0 qX qX
theorem Nf_(s:Ac_)(n:Bs):-1<=Dk_ s n/\Dk_ s n<s.rows.length:=by
 have :Dk_ s n=idxP (λx:G9_=>decide (x.q.name=n)) s.rows:=Sx_ _ (J6_ n) (λ_=>rfl) (λ_ _ _=>rfl) s.rows 0;rw[this];exact Jj_ _ _
theorem rkwith0(s:Ac_)(k:Int)(l:List F_)(hl:l.length<=64):∀ (t:List G9_) (i:Nat) (out:List G9_),(∀ r∈t,r.l.length<=64/\r.q.name.length<=16/\r.q.dead.length<=16)->(∀ r∈out,r.l.length<=64/\r.q.name.length<=16/\r.q.dead.length<=16) ->
   (Fj_ s k l t i out).rises=s.rises/\(Fj_ s k l t i out).rows.length=out.length+t.length/\∀ r∈(Fj_ s k l t i out).rows,r.l.length<=64/\r.q.name.length<=16/\r.q.dead.length<=16
 |[],i,out,_,ho=>by rw[Fj_];exact⟨rfl,by simp,ho⟩
 |x::t,i,out,ht,ho=>by
   rw[Fj_]
   let Q:Ac_->Prop:=λz=>z.rises=s.rises/\z.rows.length=out.length+(x::t).length/\∀ r∈z.rows,r.l.length<=64/\r.q.name.length<=16/\r.q.dead.length<=16
   have hx:=ht x pC
   refine bt (P:=Q) (λ_=>?_) λ_=>?_
   . have⟨h1,h2,h3⟩:=rkwith0 s k l hl t (i+1) (out++[⟨x.q,l⟩]) (λr hr=>ht r (by simp [hr])) (λr hr=>by
       rcases List.mem_append.1 hr with q|q
       . exact ho r q
       . rw[List.mem_singleton.1 q];exact⟨hl,hx.2⟩)
     exact⟨h1,by rw[h2];simp;omega,h3⟩
   . have⟨h1,h2,h3⟩:=rkwith0 s k l hl t (i+1) (out++[x]) (λr hr=>ht r (by simp [hr])) (λr hr=>by
       rcases List.mem_append.1 hr with q|q
       . exact ho r q
       . rw[List.mem_singleton.1 q];exact hx)
     exact⟨h1,by rw[h2];simp;omega,h3⟩
theorem rkwith{s:Ac_}{k:Int}{l:List F_}(h:RkOk s)(hl:l.length<=64):RkOk (Ex_ s k l):=by
 have⟨h1,h2,h3⟩:=rkwith0 s k l hl s.rows 0 [] h.2.1 (λ_ h=>by cases h)
 refine⟨?_,h3,λi hi=>?_⟩;have :(Ex_ s k l).rows.length=0+s.rows.length:=h2;have :=h.1;omega;have :(Ex_ s k l).rises=s.rises:=h1;rw[this];exact h.2.2 i hi
theorem rkwith_len(s:Ac_)(k:Int)(l:List F_)(h:RkOk s)(hl:l.length<=64):(Ex_ s k l).rows.length=s.rows.length:=by
 have :=(rkwith0 s k l hl s.rows 0 [] h.2.1 (λ_ h=>by cases h)).2.1
 have h2:(Ex_ s k l).rows.length=0+s.rows.length:=this;omega
theorem r20put_len{x:Az_}{m:Mail}(h:x.kept.length<=16):(Kz_ x m).1.kept.length<=16:=by
 unfold Kz_ lt1;let Q:Az_×Int->Prop:=λr=>r.1.kept.length<=16;refine bt (P:=Q) (λ_=>h) λ_=>bt (P:=Q) (λ_=>?_) λe=>?_;show ((x.kept++[m]).drop 1).length<=16;simp;exact h;simp only[decide_eq_false_iff_not] at e;show (x.kept++[m]).length<=16;omega
theorem rkrises{s:Ac_}(h:RkOk s){x:Az_}(hx:x.kept.length<=16){i:Nat}(hi:i<16):RkOk ⟨s.next,s.most,s.rows,A16.set s.rises x i⟩:=by
 refine⟨h.1,h.2.1,λj hj=>?_⟩;show (A16.get (A16.set s.rises x i) j).kept.length<=16;rw[A16.get_set _ _ _ _ hi hj];by_cases q:j=i;rw[if_pos q];exact hx;rw[if_neg q];exact h.2.2 j hj
end Go.SW.V
namespace Go.Proofs
open Go.Shelf
def Tryz.lays229_ren:Go.Shelf.Ren:=⟨λ|229=>368|n=>n,λ|9=>9|40=>479|31=>340|152=>490|3=>3|0=>0|4=>4|21=>21|154=>492|n=>n,λ|n=>n⟩
theorem Tryz.lays229:Go.Proofs.Lays.n229 prog Tryz.lays229_ren:={
 mixed:=by kernel_rfl
 f229:=func368.trans (congrArg some qY)
 t0:=underlying0
 a0:=isAgg0
 z0:=sizeOf0
 v0:=zeroValue0
 t3:=underlying3
 a3:=isAgg3
 z3:=sizeOf3
 v3:=zeroValue3
 t4:=underlying4
 a4:=isAgg4
 z4:=sizeOf4
 v4:=zeroValue4
 t9:=underlying9
 a9:=isAgg9
 z9:=sizeOf9
 v9:=zeroValue9
 t21:=underlying21
 a21:=isAgg21
 z21:=sizeOf21
 v21:=zeroValue21
 t31:=underlying340
 a31:=isAgg340
 z31:=sizeOf340
 v31:=zeroValue340
 t40:=underlying479
 a40:=isAgg479
 z40:=sizeOf479
 v40:=zeroValue479
 t152:=underlying490
 a152:=isAgg490
 z152:=sizeOf490
 v152:=zeroValue490
 t154:=underlying492
 a154:=isAgg492
 z154:=sizeOf492
 v154:=zeroValue492}
open Go.RowKit Go.Lib in
theorem Tryz.strings_FieldsFunc(g:Nat)(lb:Array Value)(eg:∀ args w,(callFunc g args).run prog w = .ok (.enter g args) w)(p:Nat->Bool)(s:ByteArray)(w:World)(hs:s.size<=4294967296)(hp:PredAt prog g lb encR p w) :
   Calls prog 368 #[.string s, .func (.func g) #[] lb] w λe w'=>∃ A,e = .returned (.slice (some ⟨A,0,none⟩) (Lib.goFieldsP p s).length (Lib.goFieldsP p s).length)/\w.heap.size<=A /\
     w'.ownsRow w.heap.size 9 1 (.slice (some ⟨A,0,none⟩) (Lib.goFieldsP p s).length (Lib.goFieldsP p s).length) (Lib.goFieldsP p s).length ((Lib.goFieldsP p s).map Value.string)/\Below w.heap.size w w':=Any.strings_FieldsFunc Tryz.lays229 g lb eg p s w hs hp qY qY
def Tryz.laysPu14_ren:Go.Shelf.Ren:=⟨λ|14=>399|16=>410|17=>411|19=>414|20=>415|21=>416|22=>417|23=>418|24=>419|25=>420|27=>422|26=>421|28=>423|29=>424|30=>425|31=>426|32=>427|33=>428|35=>430|34=>429|36=>431|37=>432|38=>433|39=>434|40=>435|n=>n,λ|9=>9|3=>3|22=>36|24=>295|25=>504|4=>4|34=>517|5=>5|36=>307|37=>291|0=>0|39=>519|21=>21|44=>523|47=>396|50=>527|48=>525|2=>2|52=>529|55=>531|59=>534|60=>120|20=>20|61=>535|65=>538|66=>539|67=>173|n=>n,λ|0=>3|1=>4|2=>5|3=>6|4=>7|n=>n⟩
theorem Tryz.laysPu14:Go.Proofs.LaysPu.n14 prog Tryz.laysPu14_ren:={
 mixed:=by kernel_rfl
 f14:=func399.trans (congrArg some qY)
 f16:=func410.trans (congrArg some qY)
 f17:=func411.trans (congrArg some qY)
 f19:=func414.trans (congrArg some qY)
 f20:=func415.trans (congrArg some qY)
 f21:=func416.trans (congrArg some qY)
 f22:=func417.trans (congrArg some qY)
 f23:=func418.trans (congrArg some qY)
 f24:=func419.trans (congrArg some qY)
 f25:=func420.trans (congrArg some qY)
 f26:=func421.trans (congrArg some qY)
 f27:=func422.trans (congrArg some qY)
 f28:=func423.trans (congrArg some qY)
 f29:=func424.trans (congrArg some qY)
 f30:=func425.trans (congrArg some qY)
 f31:=func426.trans (congrArg some qY)
 f32:=func427.trans (congrArg some qY)
 f33:=func428.trans (congrArg some qY)
 f34:=func429.trans (congrArg some qY)
 f35:=func430.trans (congrArg some qY)
 f36:=func431.trans (congrArg some qY)
 f37:=func432.trans (congrArg some qY)
 f38:=func433.trans (congrArg some qY)
 f39:=func434.trans (congrArg some qY)
 f40:=func435.trans (congrArg some qY)
 t0:=underlying0
 a0:=isAgg0
 z0:=sizeOf0
 v0:=zeroValue0
 i0:=by kernel_rfl
 t2:=underlying2
 a2:=isAgg2
 z2:=sizeOf2
 v2:=zeroValue2
 i2:=by kernel_rfl
 t3:=underlying3
 a3:=isAgg3
 z3:=sizeOf3
 v3:=zeroValue3
 i3:=by kernel_rfl
 t4:=underlying4
 a4:=isAgg4
 z4:=sizeOf4
 v4:=zeroValue4
 i4:=by kernel_rfl
 t5:=underlying5
 a5:=isAgg5
 z5:=sizeOf5
 v5:=zeroValue5
 i5:=by kernel_rfl
 t9:=underlying9
 a9:=isAgg9
 z9:=sizeOf9
 v9:=zeroValue9
 i9:=by kernel_rfl
 t20:=underlying20
 a20:=isAgg20
 z20:=sizeOf20
 v20:=zeroValue20
 i20:=by kernel_rfl
 t21:=underlying21
 a21:=isAgg21
 z21:=sizeOf21
 v21:=zeroValue21
 i21:=by kernel_rfl
 t22:=underlying36
 a22:=isAgg36
 z22:=sizeOf36
 v22:=zeroValue36
 i22:=by kernel_rfl
 t24:=underlying295
 a24:=isAgg295
 z24:=sizeOf295
 v24:=zeroValue295
 i24:=by kernel_rfl
 t25:=underlying504
 a25:=isAgg504
 z25:=sizeOf504
 v25:=zeroValue504
 i25:=by kernel_rfl
 t34:=underlying517
 a34:=isAgg517
 z34:=sizeOf517
 v34:=zeroValue517
 i34:=by kernel_rfl
 c34:=by kernel_rfl
 t36:=underlying307
 a36:=isAgg307
 z36:=sizeOf307
 v36:=zeroValue307
 i36:=by kernel_rfl
 t37:=underlying291
 a37:=isAgg291
 z37:=sizeOf291
 v37:=zeroValue291
 i37:=by kernel_rfl
 t39:=underlying519
 a39:=isAgg519
 z39:=sizeOf519
 v39:=zeroValue519
 i39:=by kernel_rfl
 t44:=underlying523
 a44:=isAgg523
 z44:=sizeOf523
 v44:=zeroValue523
 i44:=by kernel_rfl
 t47:=underlying396
 a47:=isAgg396
 z47:=sizeOf396
 v47:=zeroValue396
 i47:=by kernel_rfl
 t48:=underlying525
 a48:=isAgg525
 z48:=sizeOf525
 v48:=zeroValue525
 i48:=by kernel_rfl
 t50:=underlying527
 a50:=isAgg527
 z50:=sizeOf527
 v50:=zeroValue527
 i50:=by kernel_rfl
 t52:=underlying529
 a52:=isAgg529
 z52:=sizeOf529
 v52:=zeroValue529
 i52:=by kernel_rfl
 t55:=underlying531
 a55:=isAgg531
 z55:=sizeOf531
 v55:=zeroValue531
 i55:=by kernel_rfl
 t59:=underlying534
 a59:=isAgg534
 z59:=sizeOf534
 v59:=zeroValue534
 i59:=by kernel_rfl
 t60:=underlying120
 a60:=isAgg120
 z60:=sizeOf120
 v60:=zeroValue120
 i60:=by kernel_rfl
 t61:=underlying535
 a61:=isAgg535
 z61:=sizeOf535
 t65:=underlying538
 a65:=isAgg538
 z65:=sizeOf538
 v65:=zeroValue538
 i65:=by kernel_rfl
 t66:=underlying539
 a66:=isAgg539
 z66:=sizeOf539
 v66:=zeroValue539
 i66:=by kernel_rfl
 t67:=underlying173
 a67:=isAgg173
 z67:=sizeOf173
 v67:=zeroValue173
 i67:=by kernel_rfl
 g0:=by kernel_rfl
 m0:=by kernel_rfl
 g1:=by kernel_rfl
 m1:=by kernel_rfl
 g2:=by kernel_rfl
 m2:=by kernel_rfl
 g3:=by kernel_rfl
 m3:=by kernel_rfl
 g4:=by kernel_rfl
 m4:=by kernel_rfl}
open Go.RowKit Go.Lib in
theorem Tryz.strconv_ParseUint_10_at64_ok(s:ByteArray)(hmax:s.size<=9223372036854775806)(u:Nat)(h:Lib.parseUintB 64 s.data.toList = .ok u)(w:World) :
   Calls prog 399 #[.string s,.int .i64 10,.int .i64 64] w λe w'=>e = .returned (.tuple #[.int .u64 u, .nilIface])/\(w'=w\/w'=Lib.bytesWorld w 5 s):=Any.strconv_ParseUint_10_at64_ok Tryz.laysPu14 s hmax u h w
open Go.RowKit Go.Lib in
theorem Tryz.isBlank(w:World):PredAt prog 369 #[] encR (λr=>decide ((r:Int)=32)) w:=λW r _=>by
 unfold FnGives
 go_enter func369,ntmps369
 go_wp2
 go_ret
 exact⟨rfl,0,rfl⟩
end Go.Proofs
namespace Go.SW
open Go.Proofs Go.RowKit
theorem strings_Flds(H:Hp)(s:Bs)(hs:s.length<=65536):Ph prog 368 #[str s, .func (.func 369) #[] #[]] H (λv H'=>∃ (a:Option Addr) (c:Nat),v = .slice a (flds s).length c/\SlH strE 1 H' (.slice a (flds s).length c) (flds s)):=by
 refine ph_rowB (T:=9) (flds_str s) (λw hw=>by have :=flds_piece s w hw;omega) λN L w hm=>?_;have :=Tryz.strings_FieldsFunc 369 #[] (enters_of func369 qY Y) _ ⟨s.toArray⟩ w (by simp[DG];omega) (Tryz.isBlank w);refine this.mono λe w' ⟨A,h1,h2,h3,h4⟩=>⟨A,?_,h2,?_,h4⟩;rw[h1,CL];rw[CL];exact h3
theorem strconv_PU(s:Bs)(hl:s.length<=19)(h0:0<s.length)(hd:I0_ s=true)(w:World):Calls prog 399 #[str s,.int .i64 10,.int .i64 64] w λe w'=>e = .returned (.tuple #[.int .u64 (dec s:Int), .nilIface])/\Below w.heap.size w w':=by
 refine (Tryz.strconv_ParseUint_10_at64_ok ⟨s.toArray⟩ (by simp[DG];omega) (dec s) (dec_ok hl h0 hd).1 w).mono λe w' ⟨he,hw⟩=>⟨he,?_⟩
 rcases hw with rfl|rfl
 exact Below.refl _ _;exact Go.Joins.below_bytesWorld _ _ _ _ (Nat.le_refl _)
end Go.SW
namespace Go.SW.V
open Go.SW Go.Proofs
theorem grow_Shop{n:Int}(hn:0<=n/\n<=100000000:=by omega):Fo prog gb 307 [.val (.slice none 0 0),aA n] (λu=> .val u) 3 80 X_.pc ([]:List X_):=by
 refine fo_cw A_ func307 Y ntmps307 Y (At_ func307) (λ_=>rfl) Y λw N H hG=>kM 12 (λh0=>?_) (λh0=>?_);exact xD;have p0:=df h0;refine jA 7 Y<|q1 (Wl_ A_ Y Y Y) Y λw0=>jA 1 Y<|q1 (Wm_ A_ Y Y Y) Y λw1=>jC 11 Y<|cn Y (λp1=>?_) λp2=>?_;exact jA 3 Y<|q1 (Wl_ A_ Y Y Y) Y λw2=>q1 (qcut0 A_ Y Y Y Y Y) Y λw3=>jA 1 Y<|ef (appz (m:=((n-(0-0))).toNat) 0 A_ Y Y Y Y Y Y Y Y Y Y qX qX pY Y Y λu0=>jA 1 Y<|q1 (Wm_ A_ Y Y Y) Y λw4=>ef (ocut X_.pc A_ Y Y Y Y Y Y Y λu1=>wU));exact jA 8 Y<|Ga_ (t:=4) (k:=3) (e:=80) 0 X_.pc Y Y<|xM
theorem W8_{ls:List (List X_)}(hl:ls.flatten.length<=100000000:=by first|omega|(simp;done)|(simp;omega)|(simp only[List.flatten_cons,List.flatten_nil,List.length_append,List.append_nil];simp;omega)):aC 239 [.sl (slc X_.pc) ls] (.sl X_.pc ls.flatten):=by
 refine kG func239 ntmps239 λw N H hG=>?_;have ls_l:ls.length<=140737488355328:=w.1.1;refine jA 19 Y<|lP (ι:=Nat×Int) [0,2,9,10] [] (λ⟨k,n⟩=>⟨[(3,aA n),(11,aA k)],[],k<=ls.length/\n=((ls.take k).flatten.length:Int),ls.length-k⟩) ⟨0,0⟩ ⟨Nat.zero_le _,by simp⟩<|λ⟨k,n⟩ ⟨hk1,hk2⟩=>have hg0:=El_ ls k;kN 6 (λp0=>?_) λp1=>?_;have⟨c0,hc0⟩:=getE (xs:=ls) (m:=k) qX;exact jA 6 Y<|jI k hc0 Y Y Y λw0=>go A_ 19 Y Y ⟨oC,trivial⟩<|cnd Y (λh0=>xG) λh0=>xF;refine jA 8 Y<|ef (M3_ 0 grow_Shop Y Y λu0 w0=>jA 12 Y<|Zu_ (t:=6) 0 Y Y<|lP (ι:=Nat×(List X_)×Value) [0,2,3,9,10,11,12,23,24,25,26] [] (λ⟨k,out,u_out⟩=>⟨[(6, .osl 0),(27,aA k)],[(0, .arr u_out 3 80 X_.pc out)],k<=ls.length/\out=(ls.take k).flatten,ls.length-k⟩) ⟨0,([]:List X_),(u0)⟩ ⟨Nat.zero_le _,by simp⟩<|λ⟨k,out,u_out⟩ ⟨hk1,hk2⟩=>kN 6 (λp2=>?_) λp3=>?_);exact xJ;exact wG
theorem grow_Bind{n:Int}(hn:0<=n/\n<=100000000:=by omega):Fo prog gb 309 [.val (.slice none 0 0),aA n] (λu=> .val u) 6 85 R_.pc ([]:List R_):=by
 refine fo_cw A_ func309 Y ntmps309 Y (At_ func309) (λ_=>rfl) Y λw N H hG=>kM 12 (λh0=>?_) (λh0=>?_);exact xD;have p0:=df h0;refine jA 7 Y<|q1 (Wl_ A_ Y Y Y) Y λw0=>jA 1 Y<|q1 (Wm_ A_ Y Y Y) Y λw1=>jC 11 Y<|cn Y (λp1=>?_) λp2=>?_;exact jA 3 Y<|q1 (Wl_ A_ Y Y Y) Y λw2=>q1 (qcut0 A_ Y Y Y Y Y) Y λw3=>jA 1 Y<|ef (appz (m:=((n-(0-0))).toNat) 0 A_ Y Y Y Y Y Y Y Y Y Y qX qX pY Y Y λu0=>jA 1 Y<|q1 (Wm_ A_ Y Y Y) Y λw4=>ef (ocut R_.pc A_ Y Y Y Y Y Y Y λu1=>wU));exact jA 8 Y<|Ga_ (t:=4) (k:=6) (e:=85) 0 R_.pc Y Y<|xM
theorem W6_{ls:List (List R_)}(hl:ls.flatten.length<=100000000:=by first|omega|(simp;done)|(simp;omega)|(simp only[List.flatten_cons,List.flatten_nil,List.length_append,List.append_nil];simp;omega)):aC 244 [.sl (slc R_.pc) ls] (.sl R_.pc ls.flatten):=by
 refine kG func244 ntmps244 λw N H hG=>?_;have ls_l:ls.length<=140737488355328:=w.1.1;refine jA 19 Y<|lP (ι:=Nat×Int) [0,2,9,10] [] (λ⟨k,n⟩=>⟨[(3,aA n),(11,aA k)],[],k<=ls.length/\n=((ls.take k).flatten.length:Int),ls.length-k⟩) ⟨0,0⟩ ⟨Nat.zero_le _,by simp⟩<|λ⟨k,n⟩ ⟨hk1,hk2⟩=>have hg0:=El_ ls k;kN 6 (λp0=>?_) λp1=>?_;have⟨c0,hc0⟩:=getE (xs:=ls) (m:=k) qX;exact jA 6 Y<|jI k hc0 Y Y Y λw0=>go A_ 19 Y Y ⟨oC,trivial⟩<|cnd Y (λh0=>xG) λh0=>xF;refine jA 8 Y<|ef (M3_ 0 grow_Bind Y Y λu0 w0=>jA 12 Y<|Zu_ (t:=6) 0 Y Y<|lP (ι:=Nat×(List R_)×Value) [0,2,3,9,10,11,12,23,24,25,26] [] (λ⟨k,out,u_out⟩=>⟨[(6, .osl 0),(27,aA k)],[(0, .arr u_out 6 85 R_.pc out)],k<=ls.length/\out=(ls.take k).flatten,ls.length-k⟩) ⟨0,([]:List R_),(u0)⟩ ⟨Nat.zero_le _,by simp⟩<|λ⟨k,out,u_out⟩ ⟨hk1,hk2⟩=>kN 6 (λp2=>?_) λp3=>?_);exact xJ;exact wG
abbrev R0_:(Ai_×Int)->PV:=λr=> .tup [.agg (Ai_.pc r.1),aA r.2]
theorem Wc_{l:List Bs}{s:Bs}(hl:l.length<=100000:=by first|omega|(simp;omega)|decide +kernel):Fl prog gb 291 [.str s] (λu=> .val u) 1 9 strc l (Hl_ l s):=by
 refine fl_cw A_ func291 Y ntmps291 Y (At_ func291) (λ_=>rfl) Y λw l_l u0 N H hG=>have e0:=Hl_.eq_1 l s;jA 10 Y<|ef (W5_ 0 Y contains_Str Y Y Y λw0=>jA 2 Y<|cD e0 (λp0 e1=>?_) (λp1 e2=>?_));exact jA 6 Y<|Io_ (t:=4) (i:=0) Y Y<|jA 2 Y<|ro1 (j:=0) Y Y Y<|(congrArg (λr:(List Bs)=>r) e1).symm;exact jA 6 Y<|ef (bsl 1 strc [s] A_ Y Y Y Y Y (λ_=>rfl) Y Y λu1=>xX)
theorem N9_(b:Ai_)(x:X_)(hs:b.Ae_.length<=1000:=by first|omega|(simp;omega)|decide +kernel):aC 131 [b.ag,x.ag] (R0_ (B5_ b x)):=by
 exact jF func131 A_ (B5_.eq_1 b x) Y Y λw N H hG z e0=>jB 12 [0,1,2] Y λB0=>call shop_check Y Y λw0=>have :=shopE_r x;jA 9 Y<|cN e0 (λp0 e1=>wV) λp1 e2=>kL 7 Tt_ Y Y Y λw1=>jB 16 [3] Y λB1=>q1g [25,26] Y (λhc=>saeq Y Y eqg80 (veq80 x ((D7_ b.Ae_ x.name).getD X_.zero))) Y Y Y λ_=>jC 4 Y<|cE e2 (λh0 e3=>have h1:=bl h0;have h2:=br h0;wX) λh0 e4=>jA 6 Y<|cE e4 (λh1 e5=>wZ) λh1 e6=>jA 9 Y<|cD e6 (λp2 e7=>vA) λp3 e8=>jA 8 Y<|ef (bsl 4 X_.pc [x] A_ Y Y Y Y Y (λ_=>rfl) Y Y λu0=>give 4 Y<|ef (bsl 4 (slc X_.pc) [b.Ae_,[x]] A_ Y Y Y Y Y (λ_=>rfl) Y Y λu1=>give 4 Y<|call W8_ Y Y λw2=>jB 12 [] Y λ_=>rN))
theorem Nj_{b:Ai_}{x:R_}:aC 243 [b.ag,x.ag] (aA (Am_ b x)):=by
 exact jG func243 ntmps243 Y λw N H hG=>have e0:=Am_.eq_1 b x;jB 13 [0,1] Y λB0=>call (idxF_Bind (λz_4:R_=>decide (x=z_4)) (λz_4=>bind_same x z_4)) Y Y λw0=>jA 4 Y<|zV
abbrev R1_:Int->PV:=λr=>aA r
abbrev R2_:((List Bs)×(List Bs)×Int)->PV:=λr=> .tup [.sl strc r.1, .sl strc r.2.1,aA r.2.2]
theorem K5_{b:Ai_}(x:R_)(hb:b.binds.length<=1000:=by first|omega|(simp;omega)|decide +kernel)(hw:x.want.length<=1000:=by first|omega|(simp;omega)|decide +kernel):aC 134 [b.ag,x.ag] (R0_ (Bh_ b x)):=by
 refine jF func134 A_ (Bh_.eq_1 b x) Y Y λw N H hG z e0=>jB 13 [0,1,2] Y λB0=>call Tt_ Y Y λw0=>jB 17 [3] Y λB1=>cE e0 (λh0 e1=>have h1:=D4_ h0;wV) λh0 e2=>have h1:=D0_ h0;jA 8 Y<|cD e2 (λp0 e3=>wX) λp1 e4=>kL 8 Fd_ Y Y Y λw1=>jA 9 Y<|cN e4 (λp2 e5=>wZ) λp3 e6=>kL 8 Ts_ Y Y Y λw2=>call (rule_Check _) Y Y λw3=>jA 11 Y<|cN e6 (λp4 e7=>jB 11 [] Y λ_=>by subst e7;exact qr2) λp5 e8=>jA 4 Y<|cV e8 R1_ Nj_ Y λr hr0 e9 w4=>jA 4 Y<|cD e9 (λp6 e10=>jB 10 [] Y λ_=>rC) λp7 e11=>jA 9 Y<|cD e11 (λp8 e12=>jB 10 [] Y λ_=>by subst e12;exact qr2) λp9 e13=>jA 4 Y<|aN [4,5,6,7,8,9] 9 mixd<|jE [0,1,2] 6 Y<|vE 3 Y (eC Z6_ Y λw5=>vE 4 Y (bsl 4 R_.pc [x] A_ Y Y Y Y Y (λ_=>rfl) Y Y λu0=>vE 5 Y (Zx_ 4 Y (bsl 4 (slc R_.pc) [b.binds,[x]] A_ Y Y Y Y Y (λ_=>rfl) Y Y λu1=>vE 6 Y (Zx_ 4 Y (eweak (eC W6_ Y λw6=>jE [7] 1 Y<|vT 8 Y (sO A_ ?_))))))));exact vD<|jB 9 [] Y λ_=>(by subst e13;exact qr2)
theorem Ni_(b:Ai_)(Al_:Bs)(key:Bs)(h:List Pair)(hb:b.binds.length<=1000:=by first|omega|(simp;omega)|decide +kernel)(hk:key.length<4294967281:=by first|omega|(simp;omega)|decide +kernel)(hr:∀ y∈b.binds,y.key.length<4294967281:=by first|assumption|decide +kernel):aC 217 [b.ag, .str Al_, .str key, .sl Pair.pc h] (R2_ (By_ b Al_ key h)):=by
 refine jF func217 A_ (By_.eq_1 b Al_ key h) Y Y λw N H hG z e0=>jB 13 [0] Y λB0=>call Tt_ Y Y λw0=>jB 17 [1] Y λB1=>cE e0 (λh0 e1=>have h1:=D4_ h0;jA 11 Y<|by subst e1;exact yA) λh0 e2=>have h1:=D0_ h0;jA 8 Y<|cD e2 (λp0 e3=>jA 1 Y<|aN [2,3,4,5,6,7] 6 mixd<|jE [0,1,3] 3 Y<|vE 2 Y (bsl 2 strc [((D7_ b.Ae_ Al_).getD X_.zero).to'] A_ Y Y Y Y Y (λ_=>rfl) Y Y λu0=>jE [4,5] 0 Y<|vD<|jA 1 Y<|Je_ 2 Y<|jA 4 Y<|(by subst e3;exact zZ))) λp1 e4=>jA 22 Y<|Ga_ (t:=13) (k:=1) (e:=9) 2 strc Y Y<|Ga_ (t:=14) (k:=1) (e:=9) 3 strc Y Y<|lP (ι:=Nat×(List Bs)×(List Bs)×Value×Value) [1,2,3,8,9,10,11,34,35] [0,1] (λ⟨k,queues,places,u_queues,u_places⟩=>⟨[(36,aA k),(13, .osl 2),(14, .osl 3)],[(2, .arr u_queues 1 9 strc queues),(3, .arr u_places 1 9 strc places)],k<=b.binds.length/\z=B4_ b Al_ key h (b.binds.drop k) queues places/\queues.length<=k/\places.length<=k,b.binds.length-k⟩) ⟨0,[],[],(.slice none 0 0),(.slice none 0 0)⟩ ⟨Nat.zero_le _,e4,pD⟩<|λ⟨k,queues,places,u_queues,u_places⟩ ⟨hp17_1,hp17_2,hp17_3⟩=>kN 6 (λp2=>?_) λp3=>?_;have e5:=lsG2 hp17_2 (B4_.eq_2 _ _ _ _ _ _ _ _);have hc0:=getG (xs:=b.binds) (k:=k) qX;have hr_hc21:=hr (gt b.binds k) (A1 hc0);refine jA 6 Y<|jI k hc0 Y Y Y λw1=>jB 7 [4] Y λB2=>have⟨o,e_o,q_o⟩:=Dm_ e5;Fp_ (ι:=Bool) [1,2,3,8,9,10,11,13,14,16,34,35,36] [0,1,2,3,4] (λv=>[(44, .bool v)]) (λv=>[]) (λv=>o=v) ?_ ?_;refine jA 9 Y<|cN e_o (λp4 e6=>?_) (λp5 e7=>?_);refine jA 1 Y<|nX (!decide (((gt b.binds k).Al_)=Al_)) ?_ ⟨Y,Z⟩ Z;exact e6;refine kL 4 Ts_ Y Y Y λw2=>kL 2 (Zl_ _ _ _ (hrk:=by simp only[Hd_];omega)) Y Y Y λw3=>jA 3 Y<|nX (!(Qr_ (Hd_ (gt b.binds k) (((D7_ b.Ae_ Al_).getD X_.zero).sort)) key h)) ?_ ⟨Y,Z⟩ Z;exact e7;rintro v hp0;have e6:=Fq_ q_o hp0;refine jA 1 Y<|cE e6 (λh2 e7=>jC 8 Y<|nJ ⟨(k+1),queues,places,(u_queues),(u_places)⟩ e7) λh2 e8=>jA 7 Y<|cE e8 (λh3 e9=>?_) (λh3 e10=>?_);refine jA 4 Y<|ef (ecallw Wc_ Y Y Y Y Y Y ?_);generalize hr0:Hl_ places ((gt b.binds k).to')=r;intro u0 w2;have e11:=e9.trans (Df_ hr0.symm);have hr0:=hr0.symm;have hA0:=hr0.symm ▸ put_len places ((gt b.binds k).to');exact jC 9 Y<|lj_osl (t:=14) 3 Y Y<|nJ ⟨(k+1),queues,r,(u_queues),(u0)⟩ e11;refine jA 4 Y<|ef (ecallw Wc_ Y Y Y Y Y Y ?_);generalize hr0:Hl_ queues ((gt b.binds k).to')=r0;intro u0 w2;have e11:=e10.trans (Df_ hr0.symm);have hr0:=hr0.symm;have hA0:=hr0.symm ▸ put_len queues ((gt b.binds k).to');exact jC 9 Y<|lj_osl (t:=13) 2 Y Y<|nJ ⟨(k+1),r0,places,(u0),(u_places)⟩ e11;have e5:=lsN2 hp17_2 (B4_.eq_1 _ _ _ _ _ _);exact jA 14 Y<|Je_ 2 Y<|Je_ 3 Y<|jA 2 Y<|rL
abbrev R3_:Bool->PV:=λr=> .bool r
theorem l23_Light_ok{l:List T_}:aC 7 [.sl T_.pc l] (R3_ (Ou_ l)):=by
 refine fD func7 A_ (Ou_.eq_1 l) λw N H hG z e0=>?_;have l_l:l.length<=140737488355328:=w.1.1;refine jA 14 Y<|lP (ι:=Nat) [0,5,6] [] (λk=>⟨[(7,aA k)],[],k<=l.length/\z=Gu_ l (l.drop k),l.length-k⟩) 0 ⟨Nat.zero_le _,e0⟩<|λk ⟨hp1_1,hp1_2⟩=>kN 6 (λp0=>?_) λp1=>?_;have e1:=lsG0 hp1_2 (Gu_.eq_2 _ _ _);refine jA 6 Y<|qJ A_ k λw0=>?_;exact jB 8 [0] Y λB0=>call l22_Light Y Y λw1=>jA 3 Y<|cE e1 (λh0 e2=>have h1:=D4_ h0;jA 11 Y<|rD) λh0 e3=>have h1:=D0_ h0;vM;have e1:=lsN0 hp1_2 (Gu_.eq_1 _);exact jA 14 Y<|(by subst e1;exact qr1)
abbrev R4_:Mail->PV:=λr=>r.ag
theorem In_{n:Int}{least:Int}{most:Int}:aC 305 [aA n,aA least,aA most] (.bool (D3_ n least most)):=by
 exact jG func305 ntmps305 Y λw N H hG=>have e0:=D3_.eq_1 n least most;jC 19 Y<|zR
theorem Ik_{a:Dc_}{b:Dc_}:aC 229 [a.ag,b.ag] (.bool (Gn_ a b)):=by
 exact jG func229 ntmps229 Y λw N H hG=>have e0:=Gn_.eq_1 a b;have :=wr_u32 ((AC (AO .u32) a.Td_ &&& ~~~ AC (AO .u32) b.Td_).toNat);jD 26 [0,1] Y λB0=>zR
theorem Fu_{p:H_}{i:Int}:aC 228 [p.ag,aA i] (.bool (B2_ p i)):=by
 refine kG func228 ntmps228 λw N H hG=>?_;have p_places_l:p.places.length<=140737488355328:=w.1.2.2.1.1;have e0:=B2_.eq_1 p i;exact jD 13 [0] Y λB0=>call In_ Y Y λw0=>jA 4 Y<|zR
theorem Yz_(x:Bn_)(x1:Bs):aC 237 [x.ag, .el [.str x1] 0] (.bool (N0_ x x1)):=by
 exact jG func237 ntmps237 Y λw N H hG=>have e0:=N0_.eq_1 x x1;qL
theorem Wi_(x:Cc_)(x1:Int)(x2:Int):aC 231 [x.ag, .el [aA x1] 0, .el [aA x2] 0] (.bool (Ks_ x x1 x2)):=by
 exact jG func231 ntmps231 Y λw N H hG=>have e0:=Ks_.eq_1 x x1 x2;jD 22 [0] Y λB0=>zR
theorem Sq_{n:Bu_}:aC 198 [n.ag] (aB (Lh_ n)):=by
 exact jG func198 ntmps198 Y λw N H hG=>have e0:=Lh_.eq_1 n;vG
theorem Z2_{p:H_}{tick:Int}(hs:0<p.slots.length:=by omega):aC 295 [p.ag,aB tick] (aB (Gh_ p tick)):=by
 refine kG func295 ntmps295 λw N H hG=>?_;have p_slots_l:p.slots.length<=140737488355328:=w.1.2.2.2.1.1;have tick_r:0<=tick/\tick<=18446744073709551615:=w.2.1;have e0:=Gh_.eq_1 p tick;exact jB 12 [0] Y λB0=>q1 (H0_ A_ Y Y Y Y Hy_) Y λw0=>jC 5 Y<|zW
theorem H1_(m:Mail)(hh:m.head.length<=1000000:=by first|omega|(simp;omega)|decide +kernel):aC 118 [m.ag] (.agg (Mail.pc (K_ m))):=by
 exact jG func118 ntmps118 Y λw N H hG=>have e0:=K_.eq_1 m;jB 10 [0,1] Y λB0=>call Z9_ Y Y λw0=>jB 11 [] Y λ_=>rt1 Y Y (An_ (λr:Mail=>r.ag) e0 (ple Y))
theorem Nx_(m:Mail):aC 293 [m.ag] (aA (Ca_ m)):=by
 exact jG func293 ntmps293 Y λw N H hG=>have e0:=Ca_.eq_1 m;jB 9 [0] Y λB0=>call (O0_ _) Y Y λw0=>have :=F0_ m;jA 15 Y<|zV
theorem Iw_{x:F_}(hh:x.P_.head.length<=1000000:=by omega):aC 262 [x.ag] (.agg (F_.pc (Cm_ x))):=by
 exact jG func262 ntmps262 Y λw N H hG=>have e0:=Cm_.eq_1 x;jB 10 [0,1] Y λB0=>cV e0 R4_ (H1_ _) Y λr hr0 e1 w0=>jB 11 [] Y λ_=>rt1 Y Y (An_ (λr:F_=>r.ag) e1 (ple Y))
theorem line_all_ok{x0:Mail}:aC 298 [x0.ag] (.bool (Ug_ x0)):=by
 exact jG func298 ntmps298 Y λw N H hG=>have e0:=Ug_.eq_1 x0;jB 12 [0] Y λB0=>zR
theorem line_of1_ok(x:F_)(x1:Int):aC 345 [x.ag, .el [aB x1] 0] (.bool (Pn_ x x1)):=by
 exact jG func345 ntmps345 Y λw N H hG=>have e0:=Pn_.eq_1 x x1;jB 17 [0] Y λB0=>zR
theorem Me_(l:Ar_):aC 160 [l.ag] (aA (Ej_ l)):=by
 exact jG func160 ntmps160 Y λw N H hG=>have e0:=Ej_.eq_1 l;jB 15 [0] Y λB0=>zV
theorem line_Late1_ok{m:Mail}{x1:Int}:aC 304 [m.ag, .el [aB x1] 0] (.bool (Rs_ m x1)):=by
 exact jG func304 ntmps304 Y λw N H hG=>have e0:=Rs_.eq_1 m x1;jD 21 [0] Y λB0=>zR
theorem Uh_(x:F_):aC 344 [x.ag, .el [.fn 298 [] []] 0] (.bool (Hv_ x)):=by
 exact jG func344 ntmps344 Y λw N H hG=>have e0:=Hv_.eq_1 x;jD 15 [0] Y λB0=>callgF Y (λhc=>(line_all_ok)) Y aG Y Y λ_=>vL
theorem S6_(x:F_)(x1:Int):aC 344 [x.ag, .el [.fn 304 [] [.el [aB x1] 0]] 0] (.bool (Ge_ x x1)):=by
 exact jG func344 ntmps344 Y λw N H hG=>have e0:=Ge_.eq_1 x x1;jD 15 [0] Y λB0=>callgF Y (λhc=>(line_Late1_ok)) Y aG Y Y λ_=>vL
theorem idxF_Place{s:List Bn_}(f:FuncId)(f_fst f_cap:List PV)(f_p:Bn_->Bool)(f_h:∀ x,aC f (argsP.apL f_fst ((x.ag)::f_cap)) (.bool (f_p x))):aC 236 [.sl Bn_.pc s, .fn f f_fst f_cap] (aA (idxP f_p s)):=by
 refine kG func236 ntmps236 λw N H hG=>?_;have s_l:s.length<=140737488355328:=w.1.1;refine jA 14 Y<|lP (ι:=Nat) [0,1,6,7] [] (λk=>⟨[(8,aA k)],[],k<=s.length/\idxP f_p s=idxF f_p k (s.drop k),s.length-k⟩) 0 ⟨Nat.zero_le _,rfl⟩<|λk ⟨hk1,hk2⟩=>kM 6 (λh0=>?_) (λh0=>?_);have p0:=dt h0;have⟨c0,hc0⟩:=getE (xs:=s) (m:=k) qX;refine jA 15 Y<|jI k hc0 Y Y Y λw0=>kL 1 (f_h c0) Y Y Y λw1=>kM 2 (λh1=>?_) (λh1=>?_);exact vW;exact vO;exact xC
theorem cF_Place{s:List Bn_}{f:FuncId}{f_fst f_cap:List PV}(f_p:Bn_->Bool)(f_h:∀ x,aC f (argsP.apL f_fst ((x.ag)::f_cap)) (.bool (f_p x))):aC 402 [.sl Bn_.pc s, .fn f f_fst f_cap] (.bool (decide (0<=idxP f_p s))):=by
 refine jG func402 ntmps402 Y λw N H hG=>kL 9 (idxF_Place f f_fst f_cap f_p f_h) Y Y Y λw0=>kR 5 ?_;rfl
theorem idxF_Grant{s:List Cc_}(f:FuncId)(f_fst f_cap:List PV)(f_p:Cc_->Bool)(f_h:∀ x,aC f (argsP.apL f_fst ((x.ag)::f_cap)) (.bool (f_p x))):aC 230 [.sl Cc_.pc s, .fn f f_fst f_cap] (aA (idxP f_p s)):=by
 refine kG func230 ntmps230 λw N H hG=>?_;have s_l:s.length<=140737488355328:=w.1.1;refine jA 14 Y<|lP (ι:=Nat) [0,1,6,7] [] (λk=>⟨[(8,aA k)],[],k<=s.length/\idxP f_p s=idxF f_p k (s.drop k),s.length-k⟩) 0 ⟨Nat.zero_le _,rfl⟩<|λk ⟨hk1,hk2⟩=>kM 6 (λh0=>?_) (λh0=>?_);have p0:=dt h0;have⟨c0,hc0⟩:=getE (xs:=s) (m:=k) qX;refine jA 15 Y<|jI k hc0 Y Y Y λw0=>kL 1 (f_h c0) Y Y Y λw1=>kM 2 (λh1=>?_) (λh1=>?_);exact vW;exact vO;exact xC
theorem cF_Grant{s:List Cc_}{f:FuncId}{f_fst f_cap:List PV}(f_p:Cc_->Bool)(f_h:∀ x,aC f (argsP.apL f_fst ((x.ag)::f_cap)) (.bool (f_p x))):aC 404 [.sl Cc_.pc s, .fn f f_fst f_cap] (.bool (decide (0<=idxP f_p s))):=by
 refine jG func404 ntmps404 Y λw N H hG=>kL 9 (idxF_Grant f f_fst f_cap f_p f_h) Y Y Y λw0=>kR 5 ?_;rfl
theorem grow_Note{n:Int}(hn:0<=n/\n<=100000000:=by omega):Fo prog gb 235 [.val (.slice none 0 0),aA n] (λu=> .val u) 3 145 D2_.pc ([]:List D2_):=by
 refine fo_cw A_ func235 Y ntmps235 Y (At_ func235) (λ_=>rfl) Y λw N H hG=>kM 12 (λh0=>?_) (λh0=>?_);exact xD;have p0:=df h0;refine jA 7 Y<|q1 (Wl_ A_ Y Y Y) Y λw0=>jA 1 Y<|q1 (Wm_ A_ Y Y Y) Y λw1=>jC 11 Y<|cn Y (λp1=>?_) λp2=>?_;exact jA 3 Y<|q1 (Wl_ A_ Y Y Y) Y λw2=>q1 (qcut0 A_ Y Y Y Y Y) Y λw3=>jA 1 Y<|ef (appz (m:=((n-(0-0))).toNat) 0 A_ Y Y Y Y Y Y Y Y Y Y qX qX pY Y Y λu0=>jA 1 Y<|q1 (Wm_ A_ Y Y Y) Y λw4=>ef (ocut D2_.pc A_ Y Y Y Y Y Y Y λu1=>wU));exact jA 8 Y<|Ga_ (t:=4) (k:=3) (e:=145) 0 D2_.pc Y Y<|xM
theorem concat_Note{ls:List (List D2_)}(hl:ls.flatten.length<=100000000:=by first|omega|(simp;done)|(simp;omega)|(simp only[List.flatten_cons,List.flatten_nil,List.length_append,List.append_nil];simp;omega)):aC 129 [.sl (slc D2_.pc) ls] (.sl D2_.pc ls.flatten):=by
 refine kG func129 ntmps129 λw N H hG=>?_;have ls_l:ls.length<=140737488355328:=w.1.1;refine jA 19 Y<|lP (ι:=Nat×Int) [0,2,9,10] [] (λ⟨k,n⟩=>⟨[(3,aA n),(11,aA k)],[],k<=ls.length/\n=((ls.take k).flatten.length:Int),ls.length-k⟩) ⟨0,0⟩ ⟨Nat.zero_le _,by simp⟩<|λ⟨k,n⟩ ⟨hk1,hk2⟩=>have hg0:=El_ ls k;kN 6 (λp0=>?_) λp1=>?_;have⟨c0,hc0⟩:=getE (xs:=ls) (m:=k) qX;exact jA 6 Y<|jI k hc0 Y Y Y λw0=>go A_ 19 Y Y ⟨oC,trivial⟩<|cnd Y (λh0=>xG) λh0=>xF;refine jA 8 Y<|ef (M3_ 0 grow_Note Y Y λu0 w0=>jA 12 Y<|Zu_ (t:=6) 0 Y Y<|lP (ι:=Nat×(List D2_)×Value) [0,2,3,9,10,11,12,23,24,25,26] [] (λ⟨k,out,u_out⟩=>⟨[(6, .osl 0),(27,aA k)],[(0, .arr u_out 3 145 D2_.pc out)],k<=ls.length/\out=(ls.take k).flatten,ls.length-k⟩) ⟨0,([]:List D2_),(u0)⟩ ⟨Nat.zero_le _,by simp⟩<|λ⟨k,out,u_out⟩ ⟨hk1,hk2⟩=>kN 6 (λp2=>?_) λp3=>?_);exact xJ;exact wG
theorem grow_Item{n:Int}(hn:0<=n/\n<=100000000:=by omega):Fo prog gb 346 [.val (.slice none 0 0),aA n] (λu=> .val u) 9 91 F_.pc ([]:List F_):=by
 refine fo_cw A_ func346 Y ntmps346 Y (At_ func346) (λ_=>rfl) Y λw N H hG=>kM 12 (λh0=>?_) (λh0=>?_);exact xD;have p0:=df h0;refine jA 7 Y<|q1 (Wl_ A_ Y Y Y) Y λw0=>jA 1 Y<|q1 (Wm_ A_ Y Y Y) Y λw1=>jC 11 Y<|cn Y (λp1=>?_) λp2=>?_;exact jA 3 Y<|q1 (Wl_ A_ Y Y Y) Y λw2=>q1 (qcut0 A_ Y Y Y Y Y) Y λw3=>jA 1 Y<|ef (appz (m:=((n-(0-0))).toNat) 0 A_ Y Y Y Y Y Y Y Y Y Y qX qX pY Y Y λu0=>jA 1 Y<|q1 (Wm_ A_ Y Y Y) Y λw4=>ef (ocut F_.pc A_ Y Y Y Y Y Y Y λu1=>wU));exact jA 8 Y<|Ga_ (t:=4) (k:=9) (e:=91) 0 F_.pc Y Y<|xM
theorem W7_{ls:List (List F_)}(hl:ls.flatten.length<=100000000:=by first|omega|(simp;done)|(simp;omega)|(simp only[List.flatten_cons,List.flatten_nil,List.length_append,List.append_nil];simp;omega)):aC 302 [.sl (slc F_.pc) ls] (.sl F_.pc ls.flatten):=by
 refine kG func302 ntmps302 λw N H hG=>?_;have ls_l:ls.length<=140737488355328:=w.1.1;refine jA 19 Y<|lP (ι:=Nat×Int) [0,2,9,10] [] (λ⟨k,n⟩=>⟨[(3,aA n),(11,aA k)],[],k<=ls.length/\n=((ls.take k).flatten.length:Int),ls.length-k⟩) ⟨0,0⟩ ⟨Nat.zero_le _,by simp⟩<|λ⟨k,n⟩ ⟨hk1,hk2⟩=>have hg0:=El_ ls k;kN 6 (λp0=>?_) λp1=>?_;have⟨c0,hc0⟩:=getE (xs:=ls) (m:=k) qX;exact jA 6 Y<|jI k hc0 Y Y Y λw0=>go A_ 19 Y Y ⟨oC,trivial⟩<|cnd Y (λh0=>xG) λh0=>xF;refine jA 8 Y<|ef (M3_ 0 grow_Item Y Y λu0 w0=>jA 12 Y<|Zu_ (t:=6) 0 Y Y<|lP (ι:=Nat×(List F_)×Value) [0,2,3,9,10,11,12,23,24,25,26] [] (λ⟨k,out,u_out⟩=>⟨[(6, .osl 0),(27,aA k)],[(0, .arr u_out 9 91 F_.pc out)],k<=ls.length/\out=(ls.take k).flatten,ls.length-k⟩) ⟨0,([]:List F_),(u0)⟩ ⟨Nat.zero_le _,by simp⟩<|λ⟨k,out,u_out⟩ ⟨hk1,hk2⟩=>kN 6 (λp2=>?_) λp3=>?_);exact xJ;exact wG
theorem Xq_{s:List F_}{f:FuncId}{f_fst f_cap:List PV}(f_p:F_->Bool)(f_h:∀ x,aC f (argsP.apL f_fst ((x.ag)::f_cap)) (.bool (f_p x))):aC 343 [.sl F_.pc s, .fn f f_fst f_cap] (aA (idxP f_p s)):=by
 refine kG func343 ntmps343 λw N H hG=>?_;have s_l:s.length<=140737488355328:=w.1.1;refine jA 14 Y<|lP (ι:=Nat) [0,1,6,7] [] (λk=>⟨[(8,aA k)],[],k<=s.length/\idxP f_p s=idxF f_p k (s.drop k),s.length-k⟩) 0 ⟨Nat.zero_le _,rfl⟩<|λk ⟨hk1,hk2⟩=>kM 6 (λh0=>?_) (λh0=>?_);have p0:=dt h0;have⟨c0,hc0⟩:=getE (xs:=s) (m:=k) qX;refine jA 15 Y<|jI k hc0 Y Y Y λw0=>kL 1 (f_h c0) Y Y Y λw1=>kM 2 (λh1=>?_) (λh1=>?_);exact vW;exact vO;exact xC
theorem grow_row{n:Int}(hn:0<=n/\n<=100000000:=by omega):Fo prog gb 289 [.val (.slice none 0 0),aA n] (λu=> .val u) 5 251 Fe_.pc ([]:List Fe_):=by
 refine fo_cw A_ func289 Y ntmps289 Y (At_ func289) (λ_=>rfl) Y λw N H hG=>kM 12 (λh0=>?_) (λh0=>?_);exact xD;have p0:=df h0;refine jA 7 Y<|q1 (Wl_ A_ Y Y Y) Y λw0=>jA 1 Y<|q1 (Wm_ A_ Y Y Y) Y λw1=>jC 11 Y<|cn Y (λp1=>?_) λp2=>?_;exact jA 3 Y<|q1 (Wl_ A_ Y Y Y) Y λw2=>q1 (qcut0 A_ Y Y Y Y Y) Y λw3=>jA 1 Y<|ef (appz (m:=((n-(0-0))).toNat) 0 A_ Y Y Y Y Y Y Y Y Y Y qX qX pY Y Y λu0=>jA 1 Y<|q1 (Wm_ A_ Y Y Y) Y λw4=>ef (ocut Fe_.pc A_ Y Y Y Y Y Y Y λu1=>wU));exact jA 8 Y<|Ga_ (t:=4) (k:=5) (e:=251) 0 Fe_.pc Y Y<|xM
theorem concat_row{ls:List (List Fe_)}(hl:ls.flatten.length<=100000000:=by first|omega|(simp;done)|(simp;omega)|(simp only[List.flatten_cons,List.flatten_nil,List.length_append,List.append_nil];simp;omega)):aC 214 [.sl (slc Fe_.pc) ls] (.sl Fe_.pc ls.flatten):=by
 refine kG func214 ntmps214 λw N H hG=>?_;have ls_l:ls.length<=140737488355328:=w.1.1;refine jA 19 Y<|lP (ι:=Nat×Int) [0,2,9,10] [] (λ⟨k,n⟩=>⟨[(3,aA n),(11,aA k)],[],k<=ls.length/\n=((ls.take k).flatten.length:Int),ls.length-k⟩) ⟨0,0⟩ ⟨Nat.zero_le _,by simp⟩<|λ⟨k,n⟩ ⟨hk1,hk2⟩=>have hg0:=El_ ls k;kN 6 (λp0=>?_) λp1=>?_;have⟨c0,hc0⟩:=getE (xs:=ls) (m:=k) qX;exact jA 6 Y<|jI k hc0 Y Y Y λw0=>go A_ 19 Y Y ⟨oC,trivial⟩<|cnd Y (λh0=>xG) λh0=>xF;refine jA 8 Y<|ef (M3_ 0 grow_row Y Y λu0 w0=>jA 12 Y<|Zu_ (t:=6) 0 Y Y<|lP (ι:=Nat×(List Fe_)×Value) [0,2,3,9,10,11,12,23,24,25,26] [] (λ⟨k,out,u_out⟩=>⟨[(6, .osl 0),(27,aA k)],[(0, .arr u_out 5 251 Fe_.pc out)],k<=ls.length/\out=(ls.take k).flatten,ls.length-k⟩) ⟨0,([]:List Fe_),(u0)⟩ ⟨Nat.zero_le _,by simp⟩<|λ⟨k,out,u_out⟩ ⟨hk1,hk2⟩=>kN 6 (λp2=>?_) λp3=>?_);exact xJ;exact wG
theorem idxF_row{s:List Fe_}{f:FuncId}{f_fst f_cap:List PV}(f_p:Fe_->Bool)(f_h:∀ x,aC f (argsP.apL f_fst ((.agg (Fe_.pc x))::f_cap)) (.bool (f_p x))):aC 287 [.sl Fe_.pc s, .fn f f_fst f_cap] (aA (idxP f_p s)):=by
 refine kG func287 ntmps287 λw N H hG=>?_;have s_l:s.length<=140737488355328:=w.1.1;refine jA 14 Y<|lP (ι:=Nat) [0,1,6,7] [] (λk=>⟨[(8,aA k)],[],k<=s.length/\idxP f_p s=idxF f_p k (s.drop k),s.length-k⟩) 0 ⟨Nat.zero_le _,rfl⟩<|λk ⟨hk1,hk2⟩=>kM 6 (λh0=>?_) (λh0=>?_);have p0:=dt h0;have⟨c0,hc0⟩:=getE (xs:=s) (m:=k) qX;refine jA 15 Y<|jI k hc0 Y Y Y λw0=>kL 1 (f_h c0) Y Y Y λw1=>kM 2 (λh1=>?_) (λh1=>?_);exact vW;exact vO;exact xC
theorem grow_Mail{n:Int}(hn:0<=n/\n<=100000000:=by omega):Fo prog gb 366 [.val (.slice none 0 0),aA n] (λu=> .val u) 7 87 Mail.pc ([]:List Mail):=by
 refine fo_cw A_ func366 Y ntmps366 Y (At_ func366) (λ_=>rfl) Y λw N H hG=>kM 12 (λh0=>?_) (λh0=>?_);exact xD;have p0:=df h0;refine jA 7 Y<|q1 (Wl_ A_ Y Y Y) Y λw0=>jA 1 Y<|q1 (Wm_ A_ Y Y Y) Y λw1=>jC 11 Y<|cn Y (λp1=>?_) λp2=>?_;exact jA 3 Y<|q1 (Wl_ A_ Y Y Y) Y λw2=>q1 (qcut0 A_ Y Y Y Y Y) Y λw3=>jA 1 Y<|ef (appz (m:=((n-(0-0))).toNat) 0 A_ Y Y Y Y Y Y Y Y Y Y qX qX pY Y Y λu0=>jA 1 Y<|q1 (Wm_ A_ Y Y Y) Y λw4=>ef (ocut Mail.pc A_ Y Y Y Y Y Y Y λu1=>wU));exact jA 8 Y<|Ga_ (t:=4) (k:=7) (e:=87) 0 Mail.pc Y Y<|xM
theorem concat_Mail{ls:List (List Mail)}(hl:ls.flatten.length<=100000000:=by first|omega|(simp;done)|(simp;omega)|(simp only[List.flatten_cons,List.flatten_nil,List.length_append,List.append_nil];simp;omega)):aC 342 [.sl (slc Mail.pc) ls] (.sl Mail.pc ls.flatten):=by
 refine kG func342 ntmps342 λw N H hG=>?_;have ls_l:ls.length<=140737488355328:=w.1.1;refine jA 19 Y<|lP (ι:=Nat×Int) [0,2,9,10] [] (λ⟨k,n⟩=>⟨[(3,aA n),(11,aA k)],[],k<=ls.length/\n=((ls.take k).flatten.length:Int),ls.length-k⟩) ⟨0,0⟩ ⟨Nat.zero_le _,by simp⟩<|λ⟨k,n⟩ ⟨hk1,hk2⟩=>have hg0:=El_ ls k;kN 6 (λp0=>?_) λp1=>?_;have⟨c0,hc0⟩:=getE (xs:=ls) (m:=k) qX;exact jA 6 Y<|jI k hc0 Y Y Y λw0=>go A_ 19 Y Y ⟨oC,trivial⟩<|cnd Y (λh0=>xG) λh0=>xF;refine jA 8 Y<|ef (M3_ 0 grow_Mail Y Y λu0 w0=>jA 12 Y<|Zu_ (t:=6) 0 Y Y<|lP (ι:=Nat×(List Mail)×Value) [0,2,3,9,10,11,12,23,24,25,26] [] (λ⟨k,out,u_out⟩=>⟨[(6, .osl 0),(27,aA k)],[(0, .arr u_out 7 87 Mail.pc out)],k<=ls.length/\out=(ls.take k).flatten,ls.length-k⟩) ⟨0,([]:List Mail),(u0)⟩ ⟨Nat.zero_le _,by simp⟩<|λ⟨k,out,u_out⟩ ⟨hk1,hk2⟩=>kN 6 (λp2=>?_) λp3=>?_);exact xJ;exact wG
theorem index_int{l:List Int}{x:Int}:aC 391 [.sl i64c l,aA x] (aA (idxP (λy=>decide (x=y)) l)):=by
 refine kG func391 ntmps391 λw N H hG=>?_;have l_l:l.length<=140737488355328:=w.1.1;refine jA 14 Y<|lP (ι:=Nat) [0,1,6,7] [] (λk=>⟨[(8,aA k)],[],k<=l.length/\idxP (λy=>decide (x=y)) l=idxF (λy=>decide (x=y)) k (l.drop k),l.length-k⟩) 0 ⟨Nat.zero_le _,rfl⟩<|λk ⟨hik1,hik2⟩=>kN 6 (λp0=>?_) λp1=>?_;have⟨c0,hc0⟩:=getE (xs:=l) (m:=k) qX;refine jA 15 Y<|jI k hc0 Y Y Y λw0=>kN 4 (λp2=>?_) λp3=>?_;exact vV;exact jC 7 Y<|nN (k+1) ⟨by omega,Mn_ hik2 (D9_ hc0) (by first|assumption|(simp[*];done)|grind)⟩;exact vU
theorem idxF_Shop{s:List X_}{f:FuncId}{f_fst f_cap:List PV}(f_p:X_->Bool)(f_h:∀ x,aC f (argsP.apL f_fst ((x.ag)::f_cap)) (.bool (f_p x))):aC 240 [.sl X_.pc s, .fn f f_fst f_cap] (aA (idxP f_p s)):=by
 refine kG func240 ntmps240 λw N H hG=>?_;have s_l:s.length<=140737488355328:=w.1.1;refine jA 14 Y<|lP (ι:=Nat) [0,1,6,7] [] (λk=>⟨[(8,aA k)],[],k<=s.length/\idxP f_p s=idxF f_p k (s.drop k),s.length-k⟩) 0 ⟨Nat.zero_le _,rfl⟩<|λk ⟨hk1,hk2⟩=>kM 6 (λh0=>?_) (λh0=>?_);have p0:=dt h0;have⟨c0,hc0⟩:=getE (xs:=s) (m:=k) qX;refine jA 15 Y<|jI k hc0 Y Y Y λw0=>kL 1 (f_h c0) Y Y Y λw1=>kM 2 (λh1=>?_) (λh1=>?_);exact vW;exact vO;exact xC
theorem clone_Place{s:List Bn_}(hl:s.length<=100000000:=by first|omega|(simp;done)|(simp;omega)):aC 103 [.sl Bn_.pc s] (.sl Bn_.pc s):=by
 refine jG func103 ntmps103 Y λw N H hG=>jA 9 Y<|ef (lnil A_ Y Y Y Y Y λb0 hb2=>kM 2 (λh0=>?_) (λh0=>?_));exact wQ;exact jA 4 Y<|ef (bsl 0 Bn_.pc [] A_ Y Y Y Y Y (λ_=>rfl) Y Y λu0=>wE)
theorem clone_Grant{s:List Cc_}(hl:s.length<=100000000:=by first|omega|(simp;done)|(simp;omega)):aC 105 [.sl Cc_.pc s] (.sl Cc_.pc s):=by
 refine jG func105 ntmps105 Y λw N H hG=>jA 9 Y<|ef (lnil A_ Y Y Y Y Y λb0 hb2=>kM 2 (λh0=>?_) (λh0=>?_));exact wQ;exact jA 4 Y<|ef (bsl 0 Cc_.pc [] A_ Y Y Y Y Y (λ_=>rfl) Y Y λu0=>wE)
theorem S7_{s:List F_}(hl:s.length<=100000:=by first|omega|(simp;omega)|decide +kernel):Fo prog gb 306 [.sl F_.pc s] (λu=> .val u) 9 91 F_.pc s:=by
 refine fo_cw A_ func306 Y ntmps306 Y (At_ func306) (λ_=>rfl) Y λw N H hG=>jA 9 Y<|ef (lnil A_ Y Y Y Y Y λb0 hb2=>kM 2 (λh0=>?_) (λh0=>?_));exact jA 5 Y<|Ga_ (t:=2) (k:=9) (e:=91) 0 F_.pc Y Y<|rZ;exact jA 4 Y<|ef (bsl 0 F_.pc [] A_ Y Y Y Y Y (λ_=>rfl) Y Y λu0=>wD)
theorem oclone_row{s:List Fe_}(hl:s.length<=100000:=by first|omega|(simp;omega)|decide +kernel):Fo prog gb 232 [.sl Fe_.pc s] (λu=> .val u) 5 251 Fe_.pc s:=by
 refine fo_cw A_ func232 Y ntmps232 Y (At_ func232) (λ_=>rfl) Y λw N H hG=>jA 9 Y<|ef (lnil A_ Y Y Y Y Y λb0 hb2=>kM 2 (λh0=>?_) (λh0=>?_));exact jA 5 Y<|Ga_ (t:=2) (k:=5) (e:=251) 0 Fe_.pc Y Y<|rZ;exact jA 4 Y<|ef (bsl 0 Fe_.pc [] A_ Y Y Y Y Y (λ_=>rfl) Y Y λu0=>wD)
theorem clone_int{s:List Int}(hl:s.length<=100000000:=by first|omega|(simp;done)|(simp;omega)):aC 104 [.sl i64c s] (.sl i64c s):=by
 refine jG func104 ntmps104 Y λw N H hG=>jA 9 Y<|ef (lnil A_ Y Y Y Y Y λb0 hb2=>kM 2 (λh0=>?_) (λh0=>?_));exact wQ;exact jA 4 Y<|ef (bsl 0 i64c [] A_ Y Y Y Y Y (λ_=>rfl) Y Y λu0=>wE)
end Go.SW.V
