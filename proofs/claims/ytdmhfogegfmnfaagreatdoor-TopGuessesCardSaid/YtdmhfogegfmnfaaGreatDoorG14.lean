/- Contracts: memory below, under and behind all; a line cut out. Conditions: the requests, the cache, the stores read as such. Contracts: the first store drained. Conditions: the stores, the cache read as such. Contracts: a line that is put into a cache. Conditions: the cache reads as one. -/
import Derived.Test.YtdmhfogegfmnfaaGreatDoorG00
import Derived.Test.YtdmhfogegfmnfaaGreatDoorG01
import Derived.Test.YtdmhfogegfmnfaaGreatDoorG04
import Derived.Test.YtdmhfogegfmnfaaGreatDoorG08
import Derived.Test.YtdmhfogegfmnfaaGreatDoorG10
import Derived.Test.YtdmhfogegfmnfaaGreatDoorG13
set_option maxRecDepth 100000
set_option maxHeartbeats 8000000
set_option linter.unusedVariables false
set_option linter.unusedSimpArgs false
namespace Go.Proofs.YtdmhfogegfmnfaaGreatDoor
open Go.RowKit
theorem puts_take{L:List Rq}{k:Nat}{y:Rq}(h:L[k]?=some y):writesQ (L.take (k+1))=writesQ (L.take k)++(if y.kind=4 then [⟨y.line,y.data⟩]else []):=by
 have hk:=(List.getElem?_eq_some_iff.1 h).1
 unfold writesQ
 rw[List.take_succ_eq_append_getElem hk,(List.getElem?_eq_some_iff.1 h).2,List.filter_append,List.map_append]
 congr 1
 by_cases q:y.kind=4
 ·simp[q]
 ·simp[q]
theorem slT32:SlT 32 89 2:=⟨Tryz.underlying32,.agg (ptC ptZ),by kernel_rfl,by kernel_rfl,by decide⟩
theorem writes_len(L:List Rq):(writesQ L).length≤L.length:=by unfold writesQ;rw[List.length_map];exact List.length_filter_le _ _
theorem below_any(A:Option Addr)(n C:Nat)(L:List Rq)(m:By)(hm:m.length≤1000000)(w:World)(hL:Sl rqC 4 w A n L):Calls Tryz.prog 112 #[.slice A n C,.string (bs m)] w fun e w'=>e= .returned (.string (bs (belowM L m)))∧Below w.heap.size w w':=by
 have hn:=hL.few
 have HL:=Lib.hid hL
 clear hL
 go_enter Tryz.func112,Tryz.ntmps112
 go_wp2
 go_loopw [5,10] (fun v i wr=>∃(k:Nat),k≤n∧i= .int .i64 k∧Hid (Ow ptC 2 wr w.heap.size 89 v (writesQ (L.take k)))∧Below w.heap.size w wr) (fun _ i _=>n-(intOf i).toNat)
 case atStart=>exact⟨0,by omega,rfl,Lib.hid (Ow.nil _ _ _),Below.refl _ _⟩
 case round=>
  obtain⟨k,hk,rfl,HG,HB⟩:=hrel
  have hBs:=HB.size
  by_cases hlt:k<n
  ·obtain⟨g,off,y,rfl,hg,hy,hc⟩:=(HL.out.below HB).at_ hlt
   have HY:=Lib.hid hy
   have HC:=Lib.hid hc
   clear hy hc
   by_cases hq:y.kind=4
   ·have HQ:=Lib.hid hq
    have hb:(y.kind== 4)=true:=by rw[hq];rfl
    have HLN:=Lib.hid (show(writesQ (L.take k)).length+1≤1000000 by
     have h1:=writes_len (L.take k)
     have h2:(L.take k).length≤k:=by rw[List.length_take];omega
     omega)
    clear hq
    go_wp2_with (first|((with_reducible refine gAl 98 ?_);refine alloc_row (rqC rqZ) zero98 rfl rfl ?_;try simp only[Act.put,xA,xB,xC,fR])|((with_reducible refine gD (Op.store 98 _ _) ?_);apply store_row row98 rfl _ _ rfl _ (rqC _) rfl rfl (rqC_size _) (rqC_ones _) (t:=98) (old:=rqC _) (h2:=rqC_size _);(·(repeat((refine heap_at _ _ _ ?_;(with_reducible rfl)))));try simp only[Act.put,xA,xB,xC,fR];try simp (disch:=(first|with_reducible rfl|fail)) only[more_row,alloc_row_past,alloc_row_at,drew_row,drewN_row])|((with_reducible refine gD (Op.load 98 _) ?_);refine take_el row98 rfl _ rfl g (off+k*4) rfl y (rqC_size y) HC.out ?_;try simp only[Act.put,xA,xB,xC,fR])|(at_builtin;(refine app_sl slT32 ptC_size ptC_ones rfl _ _ rfl w.heap.size _ (writesQ (L.take k)) rfl (HG.out.below (by(repeat(first|exact Below.refl _ _|(refine Below.alloc ?_ ?_ _;rotate_left;(first|omega|(simp only[sZ]<;>omega))))))) (some ⟨wr.heap.size+1,0,none⟩) 1 1 [(⟨y.line,y.data⟩:Pt)] rfl (Sl.new (t:=89) (fr:=(0,0)) ptC_size (heap_at _ _ _ (by simp only[World.size_alloc])) (by simp)) (fun h=>by cases h) HLN.out (by simp only[World.size_alloc];omega) ?_);intro v3 w3 h3 g3;have HB3:=Lib.hid (bl_own ((HB.alloc (by omega) (.cells (rqC y) 98)).alloc (by simp only[World.size_alloc];omega) _) g3 (by simp only[World.size_alloc];omega) HG.out.row);have HO3:=Lib.hid h3;clear h3 g3;try simp only[Act.put,xA,xB,xC,fR]))
    go_roundw
    case rel=>exact⟨k+1,by omega,by go_num,Lib.hid (by rw[puts_take HY.out,if_pos HQ.out];exact HO3.out),HB3.out⟩
    case measure=>simp[intOf];omega
   ·have HQ:=Lib.hid hq
    have hb:(y.kind== 4)=false:=by rw[beq_eq_false_iff_ne];exact hq
    clear hq
    go_wp2_with (first|((with_reducible refine gAl 98 ?_);refine alloc_row (rqC rqZ) zero98 rfl rfl ?_;try simp only[Act.put,xA,xB,xC,fR])|((with_reducible refine gD (Op.store 98 _ _) ?_);apply store_row row98 rfl _ _ rfl _ (rqC _) rfl rfl (rqC_size _) (rqC_ones _) (t:=98) (old:=rqC _) (h2:=rqC_size _);(·(repeat((refine heap_at _ _ _ ?_;(with_reducible rfl)))));try simp only[Act.put,xA,xB,xC,fR];try simp (disch:=(first|with_reducible rfl|fail)) only[more_row,alloc_row_past,alloc_row_at,drew_row,drewN_row])|((with_reducible refine gD (Op.load 98 _) ?_);refine take_el row98 rfl _ rfl g (off+k*4) rfl y (rqC_size y) HC.out ?_;try simp only[Act.put,xA,xB,xC,fR]))
    go_roundw
    case rel=>exact⟨k+1,by omega,by go_num,Lib.hid (by rw[puts_take HY.out,if_neg HQ.out,List.append_nil];exact HG.out.below (by(repeat(first|exact Below.refl _ _|(refine Below.alloc ?_ ?_ _;rotate_left;(omega)))))),by(repeat(first|assumption|(refine Below.alloc ?_ ?_ _;rotate_left;(omega))))⟩
    case measure=>simp[intOf];omega
  ·have hkn:k=n:=by omega
   subst hkn
   have hfin:L.take k=L:=List.take_of_length_le (by rw[HL.out.len];exact Nat.le_refl _)
   rw[hfin]at HG
   clear hfin
   obtain⟨A',C',rfl,f1,f2,f3⟩:=HG.out.sl2 ptC_size
   go_wp2_with (go_at_call 50;refine(over_any m hm A' _ C' (writesQ L) _ f1).mono ?_;rintro r w1 ⟨rfl,hb⟩;obtain⟨o5,k5,rfl⟩:=more_of hb;clear hb)
   go_ret
   exact⟨rfl,by(repeat(first|assumption|(refine bl_more ?_ ?_ _ _;rotate_left;(omega))))⟩
def lp(y:Wy):Pt:=⟨y.line,y.data⟩
theorem flat_len{S:List (List Wy)}{n k:Nat}(h:∀ M∈S,M.length≤k)(hn:S.length≤n):(S.flatten.map lp).length≤n*k:=by
 rw[List.length_map]
 induction S generalizing n with
 | nil=>simp
 | cons M S ih=>
  rw[List.flatten_cons,List.length_append]
  simp only[List.length_cons]at hn
  have h1:=h M (by simp)
  have h2:=ih (n:=n-1) (fun M hM=>h M (by simp[hM])) (by omega)
  have:(n-1)*k+k=n*k:=by rw[← Nat.succ_mul];congr 1;omega
  omega
theorem under_at(sa:Option Addr)(sn sc:Nat)(c:Ca)(A:Option Addr)(n C:Nat)(L:List Rq)(m:By)(hm:m.length≤1000000)(w:World)(hc:CaR w ⟨sa,sn,sc⟩ c)(hsn:sn≤4)(hw2:∀ M∈c.sets,M.length≤2)(hL:Sl rqC 4 w A n L):Calls Tryz.prog 110 #[caV c.ways ⟨sa,sn,sc⟩,.slice A n C,.string (bs m)] w fun e w'=>e= .returned (.string (bs (underM c L m)))∧Below w.heap.size w w':=by
 have hl:=hc.len
 simp only at hl
 obtain⟨W0,hW0⟩:∃ W0,W0=w.alloc (.cells (ccC ⟨c.ways,⟨sa,sn,sc⟩⟩) 35):=⟨_,rfl⟩
 have hs0:W0.heap.size=w.heap.size+1:=by rw[hW0,World.size_alloc]
 have HB0:=Lib.hid (show Below w.heap.size w W0 by rw[hW0];exact(Below.refl _ _).alloc (Nat.le_refl _) _)
 have HC0:=Lib.hid (hc.below HB0.out)
 have HW0:=Lib.hid hW0
 have HL:=Lib.hid hL
 have HLL:=Lib.hid hl
 have HM2:=Lib.hid hw2
 have HE:=Lib.hid (show overM (belowM L m) (c.sets.flatten.map lp)=underM c L m from rfl)
 have hbl:(belowM L m).length≤1000000:=by unfold belowM;rw[overM_len];exact hm
 clear hc hL hl hw2 hW0
 go_enter Tryz.func110,Tryz.ntmps110
 go_wp2
 go_loopw [7,15] (fun v i wr=>∃(k:Nat),k≤sn∧i= .int .i64 k∧Hid (Ow ptC 2 wr W0.heap.size 89 v ((c.sets.take k).flatten.map lp))∧Below W0.heap.size W0 wr) (fun _ i _=>sn-(intOf i).toNat)
 case atStart=>exact⟨0,by omega,rfl,Lib.hid (Ow.nil _ _ _),by rw[HW0.out];exact Below.refl _ _⟩
 case round=>
  rename World=>wo
  obtain⟨k,hk,rfl,HG,HB⟩:=hrel
  have hBs:=HB.size
  have hBwo:Below w.heap.size w wo:=HB0.out.trans (HB.mono (by omega))
  by_cases hlt:k<sn
  ·obtain⟨g,off,⟨ta,tn,tc⟩,M,e0,hg,hMk,hcell,hSl,hWf⟩:=HC0.out.at_ hlt
   simp only at e0 hcell hSl hWf
   subst e0
   have hcell:=(HB.cell (p:=⟨g,off+k,none⟩) hg).trans hcell
   have hg:=Nat.lt_of_lt_of_le hg hBs
   have htn:=hSl.few
   have hml:=hSl.len
   have hM2:=HM2.out M (List.mem_of_getElem? hMk)
   have HML:=Lib.hid hml
   have HSl:=Lib.hid hSl
   have HMk:=Lib.hid hMk
   have tn2:tn≤2:=by omega
   clear hSl hMk hWf hml hM2
   go_wp2
   go_loopw [7,21] (fun v i w2=>∃(j:Nat),j≤tn∧i= .int .i64 j∧Hid (Ow ptC 2 w2 W0.heap.size 89 v ((c.sets.take k).flatten.map lp++(M.take j).map lp))∧Below W0.heap.size W0 w2) (fun _ i _=>tn-(intOf i).toNat)
   case atStart=>exact⟨0,by omega,rfl,Lib.hid (by simpa using HG.out),HB⟩
   case round=>
    obtain⟨j,hj,rfl,HJ,hBi⟩:=hrel
    have hBs2:=hBi.size
    by_cases hjl:j<tn
    ·obtain⟨g2,off2,y,e2,hg2,hy,hcy⟩:=(HSl.out.below hBi).at_ hjl
     subst e2
     have HY:=Lib.hid hy
     have HC2:=Lib.hid hcy
     have HLN:=Lib.hid (show((c.sets.take k).flatten.map lp++(M.take j).map lp).length+1≤1000000 by
      rw[List.length_append]
      have h1:=flat_len (S:=c.sets.take k) (n:=4) (k:=2) (fun N hN=>HM2.out N (List.mem_of_mem_take hN)) (by rw[List.length_take];omega)
      have h2:((M.take j).map lp).length≤2:=by rw[List.length_map,List.length_take];omega
      omega)
     clear hy hcy
     go_wp2_with (first|((with_reducible refine gAl 46 ?_);refine alloc_row (wyC wyZ) zero46 rfl rfl ?_;try simp only[Act.put,xA,xB,xC,fR])|((with_reducible refine gD (Op.store 46 _ _) ?_);apply store_row row46 rfl _ _ rfl _ (wyC _) rfl rfl (wyC_size _) (wyC_ones _) (t:=46) (old:=wyC _) (h2:=wyC_size _);(·(repeat((refine heap_at _ _ _ ?_;(with_reducible rfl)))));try simp only[Act.put,xA,xB,xC,fR];try simp (disch:=(first|with_reducible rfl|fail)) only[more_row,alloc_row_past,alloc_row_at,drew_row,drewN_row])|((with_reducible refine gD (Op.load 46 _) ?_);refine take_el row46 rfl _ rfl g2 (off2+j*3) rfl y (wyC_size y) HC2.out ?_;try simp only[Act.put,xA,xB,xC,fR])|(at_builtin;(refine app_sl slT32 ptC_size ptC_ones rfl _ _ rfl W0.heap.size _ ((c.sets.take k).flatten.map lp++(M.take j).map lp) rfl (HJ.out.below (((Below.refl _ _).alloc (Nat.le_refl _) (.cells (wyC y) 46)).alloc (by simp only[World.size_alloc];omega) _)) (some ⟨wr.heap.size+1,0,none⟩) 1 1 [lp y] rfl (Sl.new (t:=89) (fr:=(0,0)) ptC_size (heap_at _ _ _ (by simp only[World.size_alloc])) (by simp)) (fun h=>by cases h) HLN.out (by simp only[World.size_alloc];omega) ?_);intro v3 w3 h3 g3;have HB3:=Lib.hid (bl_own ((hBi.alloc (by omega) (.cells (wyC y) 46)).alloc (by simp only[World.size_alloc];omega) _) g3 (by simp only[World.size_alloc];omega) HJ.out.row);have HO3:=Lib.hid h3;have HG3:=Lib.hid g3;clear h3 g3;try simp only[Act.put,xA,xB,xC,fR]))
     go_roundw
     case rel=>exact⟨j+1,by omega,by go_num,Lib.hid (by
      have h:=HO3.out
      have hj':=(List.getElem?_eq_some_iff.1 HY.out).1
      rw[List.take_succ_eq_append_getElem hj',(List.getElem?_eq_some_iff.1 HY.out).2,List.map_append,← List.append_assoc]
      exact h),HB3.out⟩
     case measure=>simp[intOf];omega
    ·have hjn:j=tn:=by omega
     subst hjn
     go_wp2
     go_roundw
     case rel=>exact⟨k+1,by omega,by go_num,Lib.hid (by
      have h:=HJ.out
      have e:M.take j=M:=List.take_of_length_le (by rw[HML.out];exact Nat.le_refl _)
      rw[e]at h
      have hk':=(List.getElem?_eq_some_iff.1 HMk.out).1
      rw[List.take_succ_eq_append_getElem hk',(List.getElem?_eq_some_iff.1 HMk.out).2,List.flatten_append,List.map_append]
      rw[List.flatten_cons,List.flatten_nil,List.append_nil];exact h),hBi⟩
     case measure=>simp[intOf];omega
  ·have hkn:k=sn:=by omega
   subst hkn
   have hfin:c.sets.take k=c.sets:=List.take_of_length_le (by rw[HLL.out];exact Nat.le_refl _)
   rw[hfin]at HG
   clear hfin
   obtain⟨A',C',rfl,f1,f2,f3⟩:=HG.out.sl2 ptC_size
   have hf1:=Lib.hid f1
   obtain⟨U,hU⟩:∃ U,c.sets.flatten.map lp=U:=⟨_,rfl⟩
   obtain⟨B,hB⟩:∃ B,belowM L m=B:=⟨_,rfl⟩
   rw[hU]at hf1 HE ⊢
   rw[hB]at hbl HE
   have BE:=Lib.hid (fun W h=>hB▸below_any A n C L m hm W h)
   clear hU hB f1 f2 f3 HG
   go_wp2_with (go_at_call 112;refine(BE.out _ (HL.out.below (hBwo.trans (by exact Below.refl _ _)))).mono ?_;rintro r w1 ⟨rfl,hb⟩;obtain⟨o5,k5,rfl⟩:=more_of hb;clear hb)
   refine(over_any B hbl A' _ C' U _ (hf1.out.below (bl_more (Below.refl _ _) (Nat.le_refl _) _ _))).mono ?_
   rintro r w1 ⟨rfl,hb⟩
   obtain⟨o6,k6,rfl⟩:=more_of hb
   clear hb
   go_wp2
   go_ret
   exact⟨by rw[← HE.out];rfl,bl_more hBwo (by omega) _ _⟩
theorem underM_len(c:Ca)(q:List Rq)(m:By):(underM c q m).length=m.length:=by unfold underM belowM;rw[overM_len,overM_len]
theorem all_at(B:Option Addr)(bn bc:Nat)(S:List Pt)(sa:Option Addr)(sn sc:Nat)(c:Ca)(A:Option Addr)(n C:Nat)(L:List Rq)(m:By)(hm:m.length≤1000000)(w:World)(hS:Sl ptC 2 w B bn S)(hc:CaR w ⟨sa,sn,sc⟩ c)(hsn:sn≤4)(hw2:∀ M∈c.sets,M.length≤2)(hL:Sl rqC 4 w A n L):Calls Tryz.prog 81 #[.slice B bn bc,caV c.ways ⟨sa,sn,sc⟩,.slice A n C,.string (bs m)] w fun e w'=>e= .returned (.string (bs (allM S c L m)))∧Below w.heap.size w w':=by
 have HS:=Lib.hid hS
 obtain⟨U,hU⟩:∃ U,underM c L m=U:=⟨_,rfl⟩
 have hul:U.length≤1000000:=by rw[← hU,underM_len];exact hm
 have HE:=Lib.hid (show overM U S=allM S c L m by rw[← hU];rfl)
 have UE:=Lib.hid (fun W (h:Below w.heap.size w W)=>hU▸under_at sa sn sc c A n C L m hm W (hc.below h) hsn hw2 (hL.below h))
 clear hS hU hc hw2 hL
 go_enter Tryz.func81,Tryz.ntmps81
 go_wp2_with ((go_at_call 110;refine(UE.out _ (by(repeat(first|exact Below.refl _ _|(refine Below.alloc ?_ ?_ _;rotate_left;(omega)))))).mono ?_;rintro r w1 ⟨rfl,hb⟩;obtain⟨o5,k5,rfl⟩:=more_of hb;clear hb))
 refine(over_any U hul B _ bc S _ (HS.out.below (by(repeat(first|exact Below.refl _ _|(refine Below.alloc ?_ ?_ _;rotate_left;(omega))|(refine bl_more ?_ ?_ _ _;rotate_left;(simp only[sZ]<;>omega))))))).mono ?_
 rintro r w1 ⟨rfl,hb⟩
 obtain⟨o6,k6,rfl⟩:=more_of hb
 clear hb
 go_wp2
 go_ret
 exact⟨by rw[← HE.out];rfl,by(repeat(first|exact Below.refl _ _|(refine Below.alloc ?_ ?_ _;rotate_left;(omega))|(refine bl_more ?_ ?_ _ _;rotate_left;(simp only[sZ]<;>omega))))⟩
theorem cut_any(m:By)(line:U)(hm:m.length≤1000000)(w:World):Calls Tryz.prog 111 #[.string (bs m),.int .u32 line.v] w fun e w'=>e= .returned (.string (bs (cutM m line)))∧w=w':=by
 have y0:=(lineU line).lo
 have y1:=(lineU line).hi
 by_cases c:(m.length:Int)≤(lineU line).v
 ·have E:=Lib.hid (show cutM m line=[] by unfold cutM;rw[if_pos c])
  go_enter Tryz.func111,Tryz.ntmps111
  go_wp2_with ((go_at_call 28;refine(line_any' _ _).mono ?_;rintro r w1 ⟨rfl,rfl⟩))
  go_ret
  exact⟨by rw[E.out];rfl,rfl⟩
 ·have E:=Lib.hid (show cutM m line=((m.drop (lineU line).v.toNat).take (min (m.length-(lineU line).v.toNat) 16)) by
   unfold cutM cutB
   rw[if_neg c]
   rcases Nat.le_total (m.length-(lineU line).v.toNat) 16 with h|h
   ·rw[Nat.min_eq_left h,List.take_of_length_le (by rw[List.length_drop];omega),List.take_of_length_le (by rw[List.length_drop];omega)]
   ·rw[Nat.min_eq_right h])
  have c1:(lineU line).v≤(m.length:Int):=by omega
  have c2:(lineU line).v<(m.length:Int):=by omega
  obtain⟨a,ha⟩:∃ a:Nat,(lineU line).v=a:=⟨(lineU line).v.toNat,by omega⟩
  obtain⟨R,hR⟩:∃ R,m.drop (lineU line).v.toNat=R:=⟨_,rfl⟩
  have hRl:R.length=m.length-(lineU line).v.toNat:=by rw[← hR,List.length_drop]
  have HRR:=Lib.hid hR
  have hRm:R.length≤1000000:=by omega
  rw[hR,← hRl]at E
  clear hR ha hRl
  go_enter Tryz.func111,Tryz.ntmps111
  by_cases q:R.length≤16
  have q2:(R.length:Int)≤16:=by omega
  rw[Nat.min_eq_left q]at E
  rotate_left
  have q2:(16:Int)<(R.length:Int):=by omega
  rw[Nat.min_eq_right (by omega)]at E
  rotate_left
  all_goals
   go_wp2_with (first|(go_at_call 28;refine(line_any' _ _).mono ?_;rintro r w1 ⟨rfl,rfl⟩)|((with_reducible refine gD (Op.slice 9 _ _ none none) ?_);refine slice_from rfl _ _ rfl m (lineU line).v _ rfl rfl y0 c1 ?_;rw[HRR.out];try simp only[Act.put,xA,xB,xC,fR])|((with_reducible refine gD (Op.slice 9 _ none _ none) ?_);refine slice_to rfl _ _ rfl R (R.length:Int) _ rfl rfl (by omega) (by omega) ?_;try simp only[Act.put,xA,xB,xC,fR])|((with_reducible refine gD (Op.slice 9 _ none _ none) ?_);refine slice_to rfl _ _ rfl R 16 _ rfl rfl (by omega) (by omega) ?_;try simp only[Act.put,xA,xB,xC,fR]))
   go_ret
   exact⟨by rw[E.out];first|rfl,rfl⟩
def DraP(X:Nat→Prop)(B:Option Addr)(r:List Pt×Ca×Bool)(w:World)(e:Ending)(w':World):Prop:=∃(t s':Sv),e= .returned (.tuple #[.slice t.a t.n t.c,caV r.2.1.ways s',.bool r.2.2])∧Sl ptC 2 w' t.a t.n r.1∧Wf t.a t.n t.c∧(∀ p,t.a=some p→∃ q,B=some q∧p.block=q.block)∧CaX X w' s' r.2.1∧Below w.heap.size w w'
theorem drain_at(X:Nat→Prop)(B:Option Addr)(bn bc:Nat)(S:List Pt)(sa:Option Addr)(sn sc:Nat)(c:Ca)(hd:∀ p∈S,p.data.length≤1000000)(w:World)(hX:∀ j,w.heap.size≤j→X j)(hS:Sl ptC 2 w B bn S)(hW:Wf B bn bc)(hc:CaX X w ⟨sa,sn,sc⟩ c):Calls Tryz.prog 73 #[.slice B bn bc,caV c.ways ⟨sa,sn,sc⟩] w (DraP X B (drainS S c) w):=by
 have hl:=hS.len
 have hn:=hS.few
 have HC:=Lib.hid hc
 have HS:=Lib.hid hS
 have HW:=Lib.hid hW
 have HX:=Lib.hid hX
 have H:=Lo.start w
 match S with
 | []=>
  simp only[List.length_nil]at hl
  subst hl
  clear hc hS hW hX
  go_enter Tryz.func73,Tryz.ntmps73
  go_wp2_with (first|((with_reducible refine gBx 35 1 ?_);refine st_Lbox rfl _ H _ rfl rfl ?_;clear H;intro w1 b1 H;go_frame)|((with_reducible refine gAl 35 ?_);refine st_Lal rfl (ccC ccZ) zero35 H rfl ?_;clear H;intro w1 b1 hlt1 hb1 H;go_frame))
  go_wp2_with fail
  refine beginL 3 (l0:=zz5) H (by kernel_rfl) ?_ (by kernel_rfl);clear H;intro H
  refine tP 0 12 H ?_;go_frame
  refine tC 1 13 rfl (by kernel_rfl) iQ (by(exact yields_row row35 rfl _ rfl _ _ rfl _ rfl (fun w h j v hj=>(h.lcell mm1 _).trans (Sub.all _ j v hj)))) H ?_;go_frame
  refine tP 2 4 H ?_;go_frame
  refine o1N 3 (fun K hK=>?_)
  refine step_Lslw rfl cel35 _ _ _ H _ _ rfl rfl _ rfl rfl rfl rfl ?_;clear H;intro w1 ho1 H
  refine hK.out _ _ (aB rfl) ?_;clear hK K;go_frame
  refine tQ 4 6 rfl ?_;go_frame
  refine dnC ?_ _
  go_wp2_with fail
  apply ret_tct row35 rfl _ #[.int .i64 c.ways,.slice sa sn sc] rfl rfl (t:=35) (fr:=(0,0)) (hd:=rfl) (hg:=H.row mm0)
  exact⟨⟨B,0,bc⟩,⟨sa,sn,sc⟩,rfl,Sl.none_ _,HW.out,fun p hp=>⟨p,hp,rfl⟩,HC.out.below H.bl,H.bl⟩
 | p::T=>
  simp only[List.length_cons]at hl
  obtain⟨g,off,p',e0,hg,hp',hpc⟩:=hS.at_ (i:=0) (by omega)
  simp only[List.getElem?_cons_zero,Option.some.injEq]at hp'
  subst hp'
  subst e0
  have c0:w.cell? ⟨g,off,none⟩=some (.int .u32 p.addr.v):=by have:=hpc 0 (.int .u32 p.addr.v) rfl;simpa using this
  have c1:w.cell? ⟨g,off+1,none⟩=some (.string (bs p.data)):=by have:=hpc 1 (.string (bs p.data)) rfl;simpa using this
  have C0:=Lib.hid c0
  have C1:=Lib.hid c1
  have hdl:=hd p (by simp)
  have hn0:((bn:Int)== 0)=false:=by rw[beq_eq_false_iff_ne];omega
  have hn1:(0:Int)<(bn:Int):=by omega
  have hn2:0<bn:=by omega
  have hn3:(1:Int)≤(bn:Int):=by omega
  have hn4:1≤bn:=by omega
  have HG:=Lib.hid hg
  clear hc hS hW hX hpc hd c0 c1
  go_enter Tryz.func73,Tryz.ntmps73
  go_wp2_with (first|((with_reducible refine gBx 35 1 ?_);refine st_Lbox rfl _ H _ rfl rfl ?_;clear H;intro w1 b1 H;go_frame)|((with_reducible refine gAl 35 ?_);refine st_Lal rfl (ccC ccZ) zero35 H rfl ?_;clear H;intro w1 b1 hlt1 hb1 H;go_frame))
  go_wp2_with fail
  refine beginL 9 (l0:=zz16) H (by kernel_rfl) ?_ (by kernel_rfl);intro H1;clear H;revert H1
  apply meet3
  ·intro rest1
   apply meet2
   ·intro rest0
    intro H
    refine tC 0 15 rfl (by kernel_rfl) iQ (by(exact yields_row row35 rfl _ rfl _ _ rfl _ rfl (fun w h j v hj=>(h.lcell mm1 _).trans (Sub.all _ j v hj)))) H ?_;go_frame
    iterate 3 refine rP H ?_;go_frame
    refine tC 4 19 rfl (by kernel_rfl) iQ (by exact yields_one one28 rfl _ rfl _ rfl _ (fun w h=>(h.bl.cell (p:=⟨g,off,none⟩) HG.out).trans C0.out)) H ?_;go_frame
    iterate 3 refine rP H ?_;go_frame
    refine tC 8 23 rfl (by kernel_rfl) iQ (by exact yields_one one9 rfl _ rfl _ rfl _ (fun w h=>(h.bl.cell (p:=⟨g,off+1,none⟩) HG.out).trans C1.out)) H ?_;go_frame
    refine twoC (i:=9) (j:=13) (oi:=⟨some 24,_,_,_,_,_⟩) (oj:=⟨some 7,_,_,_,_,_⟩) rfl rfl (by kernel_rfl) (fun K hK=>?_) (fun K hK=>?_)
    ·refine step_fn rfl _ _ _ (write_any _ ⟨sa,sn,sc⟩ c p.addr p.data hdl _ (H.xl_new HX.out) (H.ca HC.out)) (by go_simp<;>rfl) ?_;rintro r w1 ⟨s1,rfl,F1,hb⟩;refine⟨_,rfl,?_⟩;replace H:=H.below hb
     refine hK.out _ _ (aB rfl) ?_;clear hK K;go_frame
     iterate 3 refine rQ rfl ?_;go_frame
     refine o1C 13 7 (fun K hK=>?_)
     refine step_Lal rfl (ccC ccZ) zero35 H rfl ?_;clear H;intro w1 b1 hlt1 hb1 H;have F0:=caAl (ccC ccZ) 35 F1 hlt1 hb1;clear F1;have F1:=F0;clear F0
     refine hK.out _ _ (aB rfl) ?_;clear hK K;go_frame
     exact rest1 w1 b1 s1 (And.intro H F1)
    ·refine step_Lal rfl (ccC ccZ) zero35 H rfl ?_;clear H;intro w1 b1 hlt1 hb1 H
     refine hK.out _ _ (fun _=>H.drop) ?_;clear hK K;go_frame
     exact rest0 w1 b1 H
   ·intro w1 b1 H
    refine o1C 9 24 (fun K hK=>?_)
    refine step_fn rfl _ _ _ (write_any _ ⟨sa,sn,sc⟩ c p.addr p.data hdl _ (H.xl_new HX.out) (H.ca HC.out)) (by go_simp<;>rfl) ?_;rintro r w1 ⟨s1,rfl,F1,hb⟩;refine⟨_,rfl,?_⟩;replace H:=H.below hb
    refine hK.out _ _ (aB rfl) ?_;clear hK K;go_frame
    iterate 3 refine rQ rfl ?_;go_frame
    exact rest1 w1 b1 s1 (And.intro H F1)
  rintro w1 b1 s1 ⟨H,F1⟩
  refine o1N 14 (fun K hK=>?_)
  refine step_Lslw rfl cel35 _ _ _ H _ _ rfl rfl _ rfl rfl rfl rfl ?_;intro w1 ho1 H1;have F0:=caOff' F1 ho1 ⟨_,List.mem_cons_self ..,rfl⟩;clear F1;have F1:=F0;clear F0;clear H;have H:=H1;clear H1
  refine hK.out _ _ (aB rfl) ?_;clear hK K;go_frame
  refine tQ 15 8 rfl ?_;go_frame
  refine dnC ?_ _
  cases hwb:(writeC c p.addr p.data).2
  ·have E:=Lib.hid (show drainS (p::T) c=(p::T,c,false) by show(if(writeC c p.addr p.data).2=true then _ else _)=_;rw[hwb];rfl)
   clear hwb
   go_wp2_with fail
   go_wp2_with fail
   refine beginL 3 (l0:=zz5) H (by kernel_rfl) ?_ (by kernel_rfl);clear H;intro H
   refine tP 0 29 H ?_;go_frame
   refine tC 1 30 rfl (by kernel_rfl) iQ (by(exact yields_row row35 rfl _ rfl _ _ rfl _ rfl (fun w h j v hj=>(h.lcell mm2 _).trans (Sub.all _ j v hj)))) H ?_;go_frame
   refine tP 2 4 H ?_;go_frame
   refine o1N 3 (fun K hK=>?_)
   refine step_Lslw2 rfl cel35 _ _ _ _ H _ _ rfl rfl _ rfl rfl rfl rfl ?_;clear H;intro w1 ho1 H
   refine hK.out _ _ (aB rfl) ?_;clear hK K;go_frame
   refine tQ 4 6 rfl ?_;go_frame
   refine dnC ?_ _
   go_wp2_with fail
   apply ret_tct row35 rfl _ #[.int .i64 c.ways,.slice sa sn sc] rfl rfl (t:=35) (fr:=(0,0)) (hd:=rfl) (hg:=H.row mm1)
   rw[E.out]
   exact⟨⟨some ⟨g,off,none⟩,bn,bc⟩,⟨sa,sn,sc⟩,rfl,HS.out.below H.bl,HW.out,fun p hp=>⟨p,hp,rfl⟩,HC.out.below H.bl,H.bl⟩
  ·have E:=Lib.hid (show drainS (p::T) c=(T,(writeC c p.addr p.data).1,true) by show(if(writeC c p.addr p.data).2=true then _ else _)=_;rw[hwb];rfl)
   clear hwb
   have hbc:=HW.out.le
   have hbc1:(1:Int)≤(bc:Int):=by omega
   have hbc2:(bn:Int)≤(bc:Int):=by omega
   have hbc3:=HW.out.few
   go_wp2_with fail
   go_wp2_with fail
   refine beginL 4 (l0:=zz6) H (by kernel_rfl) ?_ (by kernel_rfl);clear H;intro H
   iterate 2 refine rP H ?_;go_frame
   refine tC 2 33 rfl (by kernel_rfl) iQ (by(exact yields_row row35 rfl _ rfl _ _ rfl _ rfl (fun w h j v hj=>(h.lcell mm0 _).trans (Sub.all _ j v hj)))) H ?_;go_frame
   refine tP 3 4 H ?_;go_frame
   refine o1N 4 (fun K hK=>?_)
   refine step_Lslw2 rfl cel35 _ _ _ _ H _ _ rfl rfl _ rfl rfl rfl rfl ?_;intro w1 ho1 H1;have F0:=caOff' (F1.below (Below.refl _ _).drew) ho1 ⟨_,List.mem_cons_of_mem _ mm0,rfl⟩;clear F1;have F1:=F0;clear F0;clear H;have H:=H1;clear H1
   refine hK.out _ _ (aB rfl) ?_;clear hK K;go_frame
   refine tQ 5 6 rfl ?_;go_frame
   refine dnC ?_ _
   go_wp2_with fail
   ·apply ret_tct row35 rfl _ #[.int .i64 (writeC c p.addr p.data).1.ways,.slice s1.a s1.n s1.c] rfl rfl (t:=35) (fr:=(0,0)) (hd:=rfl) (hg:=H.row mm1)
    rw[E.out]
    have hT:T=[]:=List.eq_nil_of_length_eq_zero (by omega)
    refine⟨⟨some ⟨g,off,none⟩,bn-1,0⟩,s1,rfl,?_,⟨(fun h=>by cases h),by show bn-1≤0;omega,by show 0≤_;omega⟩,fun p hp=>⟨p,hp,rfl⟩,Xl.toX F1,H.bl⟩
    rw[hT,show(⟨some ⟨g,off,none⟩,bn-1,0⟩:Sv).n=0 by show bn-1=0;omega]
    exact Sl.none_ _
   ·apply ret_tct row35 rfl _ #[.int .i64 (writeC c p.addr p.data).1.ways,.slice s1.a s1.n s1.c] rfl rfl (t:=35) (fr:=(0,0)) (hd:=rfl) (hg:=H.row mm1)
    rw[E.out]
    have hd:=Sl.drop (i:=1) (C:=bn) (A':=some ⟨g,off+2,none⟩) HS.out (by omega) (Nat.le_refl _) (fun _=>by simp)
    exact⟨⟨some ⟨g,off+2,none⟩,bn-1,bc-1⟩,s1,rfl,hd.below H.bl,⟨(fun h=>by cases h),by show bn-1≤bc-1;omega,by show bc-1≤_;omega⟩,fun p hp=>by cases hp;exact⟨_,rfl,rfl⟩,Xl.toX F1,H.bl⟩
def PutP(X:Nat→Prop)(r:Ca×Wy×Bool)(w:World)(e:Ending)(w':World):Prop:=∃ s',e= .returned (.tuple #[caV r.1.ways s',.agg (wyC r.2.1),.bool r.2.2])∧CaX X w' s' r.1∧Below w.heap.size w w'
theorem ret_cct2{a:Act}{w:World}{fn:Func}{R:Ending→World→Prop}{p q r:Tmp}{T n U' n':Nat}(hT:IsRow T n)(hU:IsRow U' n')(hr:fn.results=#[.cell p T,.cell q U',.tmp r])(g g':Nat)(cs cs':Array Value)(hp:a.tmps.getD p undef= .pointer (some ⟨g,0,none⟩))(hq:a.tmps.getD q undef= .pointer (some ⟨g',0,none⟩))(hs:cs.size=n)(hs':cs'.size=n')
 (hc:∀ j v,cs[j]?=some v→w.cell? ⟨g,j,none⟩=some v) (hc':∀ j v,cs'[j]?=some v→w.cell? ⟨g',j,none⟩=some v) (hd:a.defers=[]) (h:R (.returned (.tuple #[.agg cs,.agg cs',a.tmps.getD r undef])) w):bodyPost Tryz.prog fn R .ret a w:=by
 refine bodyPost_ret (v:=.tuple #[.agg cs,.agg cs',a.tmps.getD r undef]) ?_ hd h
 have hp':a.tmps[p]?.getD undef= .pointer (some ⟨g,0,none⟩):=by simpa using hp
 have hq':a.tmps[q]?.getD undef= .pointer (some ⟨g',0,none⟩):=by simpa using hq
 simp[results,hr,hp',hq',asAddr,load_cs hT hs hc,load_cs hU hs' hc']
def putD(d:By):By:=if d.length≠16 then []else d
theorem put_found{c:Ca}{line:U}{data d:By}{dirty:Bool}{k at_:Nat}{L:List Wy}{y:Wy}(hr:rightC c=true)(hk:findC c line=(k,at_,true))(hgd:c.sets.getD k []=L)(hy:L[at_]?=some y)(hd:putD data=d):putC c line data dirty=(withC c k ({ y with data:=(if d≠[]then d else y.data),dirty:=y.dirty||dirty }::(L.take at_++L.drop (at_+1))),wyZ,false):=by
 unfold putD at hd
 unfold putC
 rw[hr,if_pos rfl]
 simp only[hd,hk,hgd,if_true,front_eq hy]
 rfl
theorem put_no(X:Nat→Prop)(sa:Option Addr)(sn sc:Nat)(c:Ca)(line:U)(data:By)(dirty:Bool)(hdl:data.length≤1000000)(w:World)(hX:∀ j,w.heap.size≤j→X j)(hc:CaX X w ⟨sa,sn,sc⟩ c)(hr:rightC c=false):Calls Tryz.prog 48 #[caV c.ways ⟨sa,sn,sc⟩,.int .u32 line.v,.string (bs data),.bool dirty] w (PutP X (putC c line data dirty) w):=by
 have hn:=hc.toR.few
 simp only at hn
 have HC:=Lib.hid hc
 have HX:=Lib.hid hX
 have FI:=Lib.hid (fun W (h:Below w.heap.size w W)=>find_any ⟨sa,sn,sc⟩ c line W (hc.toR.below h))
 have RI:=Lib.hid (fun W (h:Below w.heap.size w W)=>cright_any ⟨sa,sn,sc⟩ c W (hc.toR.below h))
 have E:=Lib.hid (show putC c line data dirty=(c,wyZ,false) by unfold putC;rw[hr];rfl)
 have HR:=Lib.hid hr
 clear hr hc hX
 go_enter Tryz.func48,Tryz.ntmps48
 go_wp2_with (first|((with_reducible refine gD (Op.store 46 (.tmp 9) (.tmp 24)) ?_);(refine store_row row46 rfl _ _ rfl (w.heap.size+1+1) (wyC wyZ) rfl rfl (wyC_size _) (wyC_ones _) (t:=46) (old:=wyC wyZ) (h2:=wyC_size _) ?_ ?_;(·(repeat(first|(refine heap_at _ _ _ ?_;(simp only[sZ]<;>omega))|(refine(more_heap' _ _ _ _ ?_).trans ?_;(simp only[sZ]<;>omega))))));try simp only[Act.put,xA,xB,xC,fR];try simp (disch:=(first|(simp only[sZ]<;>omega)|fail)) only[more_row,alloc_row_past,alloc_row_at,drew_row,drewN_row])|((with_reducible refine gAl 35 ?_);refine alloc_row (ccC ccZ) zero35 rfl rfl ?_;try simp only[Act.put,xA,xB,xC,fR])|((with_reducible refine gAl 46 ?_);refine alloc_row (wyC wyZ) zero46 rfl rfl ?_;try simp only[Act.put,xA,xB,xC,fR])|(go_at_call 9;refine(RI.out _ (by(repeat(first|exact Below.refl _ _|(refine Below.alloc ?_ ?_ _;rotate_left;(first|omega|(simp only[sZ]<;>omega))))))).mono ?_;rw[HR.out];rintro r w1 ⟨rfl,hb⟩;obtain⟨ow,kw,rfl⟩:=more_of hb;clear hb))
 apply ret_cct2 row35 row46 rfl (w.heap.size+1) (w.heap.size+1+1) (ccC ⟨c.ways,⟨sa,sn,sc⟩⟩) (wyC wyZ) (hd:=rfl)
 all_goals(try rfl)
 ·apply cc_cells<;>simp[go_sem]
 ·apply wy_cells<;>simp[go_sem]
 refine⟨⟨sa,sn,sc⟩,by rw[E.out];rfl,?_,by(repeat(first|exact Below.refl _ _|(refine Below.alloc ?_ ?_ _;rotate_left;(first|omega|(simp only[sZ]<;>omega)))|(refine bl_more ?_ ?_ _ _;rotate_left;(simp only[sZ]<;>omega))))⟩
 rw[E.out]
 exact HC.out.below (by(repeat(first|exact Below.refl _ _|(refine Below.alloc ?_ ?_ _;rotate_left;(first|omega|(simp only[sZ]<;>omega)))|(refine bl_more ?_ ?_ _ _;rotate_left;(simp only[sZ]<;>omega)))))
theorem put_16(X:Nat→Prop)(sa:Option Addr)(sn sc:Nat)(c:Ca)(line:U)(data:By)(dirty:Bool)(hdl:data.length≤1000000)(w:World)(hX:∀ j,w.heap.size≤j→X j)(hc:CaX X w ⟨sa,sn,sc⟩ c)(hr:rightC c=true)(k at_:Nat)(hk:findC c line=(k,at_,true))(h16:(data.length:Int)=16):Calls Tryz.prog 48 #[caV c.ways ⟨sa,sn,sc⟩,.int .u32 line.v,.string (bs data),.bool dirty] w (PutP X (putC c line data dirty) w):=by
 have hn:=hc.toR.few
 simp only at hn
 have HC:=Lib.hid hc
 have HX:=Lib.hid hX
 have FI:=Lib.hid (fun W (h:Below w.heap.size w W)=>find_any ⟨sa,sn,sc⟩ c line W (hc.toR.below h))
 have RI:=Lib.hid (fun W (h:Below w.heap.size w W)=>cright_any ⟨sa,sn,sc⟩ c W (hc.toR.below h))
 have HR:=Lib.hid hr
 obtain⟨g,off,ta,tn,tc,L,y,e0,hg,hks,hLk,hgd,hcell,hSl,hWf,hat,hy,_,hsn,hpl⟩:=find_parts hc.toR hk
 subst e0
 obtain⟨d,hd⟩:∃ d,putD data=d:=⟨_,rfl⟩
 have E:=Lib.hid (put_found (dirty:=dirty) hr hk hgd hy hd)
 have htn:=hSl.few
 have htc:=hWf.le
 have HK:=Lib.hid hk
 have HSl:=Lib.hid hSl
 have HN:=Lib.hid hWf.nil
 have HY:=Lib.hid hy
 have hll:=Lib.hid hSl.len
 have HD:=Lib.hid hd
 have hdd:d=data:=by have:=HD.out;unfold putD at this;rw[if_neg (by omega)]at this;exact this.symm
 subst hdd
 have hne:d≠[]:=fun h=>by rw[h]at h16;simp at h16
 have he:(bs d).toList.isEmpty=false:=by rw[bs_isEmpty];cases h:d with|nil=>exact absurd h hne|cons _ _=>rfl
 rw[if_pos hne]at E
 clear hr hc hX hk hLk hgd hSl hWf hsn hpl hy hd
 go_enter Tryz.func48,Tryz.ntmps48
 go_upto_region 7 with((first|((with_reducible refine gAl 35 ?_);refine alloc_row (ccC ccZ) zero35 rfl rfl ?_;try simp only[Act.put,xA,xB,xC,fR])|((with_reducible refine gAl 46 ?_);refine alloc_row (wyC wyZ) zero46 rfl rfl ?_;try simp only[Act.put,xA,xB,xC,fR])|(go_at_call 9;refine(RI.out _ (by(repeat(first|exact Below.refl _ _|(refine Below.alloc ?_ ?_ _;rotate_left;(first|omega|(simp only[sZ]<;>omega))))))).mono ?_;rw[HR.out];rintro r w1 ⟨rfl,hb⟩;obtain⟨ow,kw,rfl⟩:=more_of hb;clear hb)|(go_at_call 67;refine(FI.out _ (by(repeat(first|exact Below.refl _ _|(refine Below.alloc ?_ ?_ _;rotate_left;(first|omega|(simp only[sZ]<;>omega)))|(refine bl_more ?_ ?_ _ _;rotate_left;(simp only[sZ]<;>omega)))))).mono ?_;unfold FinP;rw[HK.out];rintro r w1 ⟨rfl,hb⟩;obtain⟨ow2,kw2,rfl⟩:=more_of hb;clear hb)))
 (refine wp_named ?_;intro W hW;have hG0:W.heap[w.heap.size]?=some (.cells (ccC ⟨c.ways,⟨some ⟨g,off,none⟩,sn,sc⟩⟩) _ (0,0)):=(by rw[hW];(repeat(first|(refine heap_at _ _ _ ?_;(with_reducible rfl))|(refine(more_heap' _ _ _ _ ?_).trans ?_;(simp only[sZ]<;>omega))|(refine(heap_past _ _ _ ?_).trans ?_;(simp only[sZ]<;>omega)))));obtain⟨hlt0,hc0,hd0,hf0,he0⟩:=nmF hG0;have hG2:W.heap[w.heap.size+1]?=some (.cells (ccC ccZ) _ (0,0)):=(by rw[hW];(repeat(first|(refine heap_at _ _ _ ?_;(simp only[sZ]<;>omega))|(refine(more_heap' _ _ _ _ ?_).trans ?_;(simp only[sZ]<;>omega))|(refine(heap_past _ _ _ ?_).trans ?_;(simp only[sZ]<;>omega)))));obtain⟨hlt2,hc2,hd2,hf2,he2⟩:=nmF hG2;have hG4:W.heap[w.heap.size+1+1]?=some (.cells (wyC wyZ) _ (0,0)):=(by rw[hW];(repeat(first|(refine heap_at _ _ _ ?_;(simp only[sZ]<;>omega))|(refine(more_heap' _ _ _ _ ?_).trans ?_;(simp only[sZ]<;>omega)))));obtain⟨hlt4,hc4,hd4,hf4,he4⟩:=nmF hG4;have hBW:Below w.heap.size w W:=(by rw[hW];(repeat(first|exact Below.refl _ _|(refine Below.alloc ?_ ?_ _;rotate_left;(first|omega|(simp only[sZ]<;>omega)))|(refine bl_more ?_ ?_ _ _;rotate_left;(simp only[sZ]<;>omega)))));have hBWd:=hBW.drew;have hsW:=hBW.size;clear hW)
 have q1:W.cell? ⟨g,off+k,none⟩=some (.slice ta tn tc):=(hBW.cell (p:=⟨g,off+k,none⟩) hg).trans hcell
 have HCX:=Lib.hid (HC.out.mono (Y:=fun j=>X j∧j≠w.heap.size+1∧j≠w.heap.size+1+1) (fun j h1 h2=>⟨h1,by omega,by omega⟩))
 have HXW:=Lib.hid (show ∀ j,W.heap.size≤j→X j∧j≠w.heap.size+1∧j≠w.heap.size+1+1 from fun j hj=>⟨HX.out j (by omega),by omega,by omega⟩)
 have at0:(0:Int)≤(at_:Int):=by omega
 have at1:(at_:Int)<(tn:Int):=by omega
 have hgW:g<W.heap.size:=by omega
 have H35:=Lib.hid hG2
 have H46:=Lib.hid hG4
 clear hG0 hG2 hG4 hd0 hd2 hd4 he0 he2 he4 hf0
 go_upto_region 8 with(fail)
 refine(front_any ta tn tc L at_ _ (HSl.out.below hBW) HN.out htc hat).mono ?_
 rintro r w1 ⟨v,rfl,ho,hb1⟩
 have hfe:=front_eq HY.out
 rw[hfe]at ho
 obtain⟨gf,cf,cur,rfl,hgf,_,hcf,_,_⟩:=ho.lies (by simp)
 obtain⟨r1,r2⟩:=own_cell ho wyC_size (i:=0) (j:=1) (x:=y) (u:=.bool y.dirty) rfl rfl
 obtain⟨r3,r4⟩:=own_cell ho wyC_size (i:=0) (j:=2) (x:=y) (u:=.string (bs y.data)) rfl rfl
 simp only[Nat.zero_mul,Nat.zero_add]at r1 r2 r3 r4
 have HO:=Lib.hid ho
 obtain⟨of_,kf,rfl⟩:=more_of hb1
 clear hb1 ho hfe q1 hcell
 have hlf:(y::(L.take at_++L.drop (at_+1))).length=tn:=by have:=hll.out;have:=List.length_take (i:=at_) (l:=L);simp;omega
 rw[hlf]at HO ⊢
 have ngf0:¬ w.heap.size=gf:=by omega
 have ngf2:¬ w.heap.size+1=gf:=by omega
 have ngf3:¬ w.heap.size+1+1=gf:=by omega
 have tn0:(0:Int)<(tn:Int):=by omega
 have HBW:=Lib.hid hBW
 have HSW:=Lib.hid hsW
 clear hBW hBWd hlf
 cases hyd:y.dirty
 case' true=>
  rw[hyd]at r1 E
  have HO2:=Lib.hid (((HO.out.set0 wyC_size (x':={ y with data:=d }) (u:=.string (bs d)) (j:=2) (by decide) rfl).set0 wyC_size (x':={ y with data:=d,dirty:=true }) (u:=.bool true) (j:=1) (by decide) rfl))
  have HB3:=Lib.hid (show Below w.heap.size w ((((more W of_ kf).setCell ⟨gf,2,none⟩ (.string (bs d))).setCell ⟨gf,1,none⟩ (.bool true)))from((bl_more HBW.out HSW.out of_ kf).setCell (p:=⟨gf,2,none⟩) (by show _≤gf;omega) _).setCell (p:=⟨gf,1,none⟩) (by show _≤gf;omega) _)
  have G1:=Lib.hid (show((((more W of_ kf).setCell ⟨gf,2,none⟩ (.string (bs d))).setCell ⟨gf,1,none⟩ (.bool true))).heap[w.heap.size+1]?=some (.cells (ccC ccZ) 35 (0,0))from(Below.heap_setCell _ _ _ _ (by dsimp only;omega)).trans ((Below.heap_setCell _ _ _ _ (by dsimp only;omega)).trans ((more_heap' _ _ _ _ hlt2).trans H35.out)))
  have G2:=Lib.hid (show((((more W of_ kf).setCell ⟨gf,2,none⟩ (.string (bs d))).setCell ⟨gf,1,none⟩ (.bool true))).heap[w.heap.size+1+1]?=some (.cells (wyC wyZ) 46 (0,0))from(Below.heap_setCell _ _ _ _ (by dsimp only;omega)).trans ((Below.heap_setCell _ _ _ _ (by dsimp only;omega)).trans ((more_heap' _ _ _ _ hlt4).trans H46.out)))
  have GS:((((more W of_ kf).setCell ⟨gf,2,none⟩ (.string (bs d))).setCell ⟨gf,1,none⟩ (.bool true))).heap.size=W.heap.size+of_.size:=by simp only[World.size_setCell,more_size]
 case' false=>
  rw[hyd]at r1 E
  have HO2:=Lib.hid (((HO.out.set0 wyC_size (x':={ y with data:=d }) (u:=.string (bs d)) (j:=2) (by decide) rfl).set0 wyC_size (x':={ y with data:=d,dirty:=dirty }) (u:=.bool dirty) (j:=1) (by decide) rfl))
  have HB3:=Lib.hid (show Below w.heap.size w ((((more W of_ kf).setCell ⟨gf,2,none⟩ (.string (bs d))).setCell ⟨gf,1,none⟩ (.bool dirty)))from((bl_more HBW.out HSW.out of_ kf).setCell (p:=⟨gf,2,none⟩) (by show _≤gf;omega) _).setCell (p:=⟨gf,1,none⟩) (by show _≤gf;omega) _)
  have G1:=Lib.hid (show((((more W of_ kf).setCell ⟨gf,2,none⟩ (.string (bs d))).setCell ⟨gf,1,none⟩ (.bool dirty))).heap[w.heap.size+1]?=some (.cells (ccC ccZ) 35 (0,0))from(Below.heap_setCell _ _ _ _ (by dsimp only;omega)).trans ((Below.heap_setCell _ _ _ _ (by dsimp only;omega)).trans ((more_heap' _ _ _ _ hlt2).trans H35.out)))
  have G2:=Lib.hid (show((((more W of_ kf).setCell ⟨gf,2,none⟩ (.string (bs d))).setCell ⟨gf,1,none⟩ (.bool dirty))).heap[w.heap.size+1+1]?=some (.cells (wyC wyZ) 46 (0,0))from(Below.heap_setCell _ _ _ _ (by dsimp only;omega)).trans ((Below.heap_setCell _ _ _ _ (by dsimp only;omega)).trans ((more_heap' _ _ _ _ hlt4).trans H46.out)))
  have GS:((((more W of_ kf).setCell ⟨gf,2,none⟩ (.string (bs d))).setCell ⟨gf,1,none⟩ (.bool dirty))).heap.size=W.heap.size+of_.size:=by simp only[World.size_setCell,more_size]
 all_goals
  go_wp2_with (first|(go_at_call 84;(have hO3:=HO2.out.slv wyC_size;refine(with_any (fun j=>X j∧j≠w.heap.size+1∧j≠w.heap.size+1+1) ⟨some ⟨g,off,none⟩,sn,sc⟩ c k ⟨some ⟨gf,0,none⟩,tn,cf⟩ ({ y with data:=d,dirty:=true }::(L.take at_++L.drop (at_+1))) _ (fun j hj=>HXW.out j (by rw[GS]at hj;omega)) (HCX.out.below HB3.out) hks hO3.1 hO3.2.1 (fun _ p hp=>by cases hp;exact HXW.out _ hgf)).mono ?_);rintro r w1 ⟨⟨s1,s2,s3⟩,rfl,hca,hb4⟩;have HCA:=Lib.hid hca;obtain⟨ow4,kw4,rfl⟩:=more_of hb4;clear hb4 hO3 hca)|((with_reducible refine gD (Op.store 35 (.tmp 8) (.tmp 62)) ?_);(refine store_row row35 rfl _ _ rfl (w.heap.size+1) (ccC ⟨c.ways,⟨s1,s2,s3⟩⟩) rfl rfl (ccC_size _) (ccC_ones _) (t:=35) (old:=ccC ccZ) ((more_heap' _ _ _ _ (by rw[GS];omega)).trans G1.out) (ccC_size _) ?_);try simp only[Act.put,xA,xB,xC,fR])|((with_reducible refine gD (Op.store 46 (.tmp 9) (.tmp 63)) ?_);(refine store_row row46 rfl _ _ rfl (w.heap.size+1+1) (wyC wyZ) rfl rfl (wyC_size _) (wyC_ones _) (t:=46) (old:=wyC wyZ) ((row_other _ _ _ _ (by omega)).trans ((more_heap' _ _ _ _ (by rw[GS];omega)).trans G2.out)) (wyC_size _) ?_);try simp only[Act.put,xA,xB,xC,fR])|(go_at_call 84;(have hO3:=HO2.out.slv wyC_size;refine(with_any (fun j=>X j∧j≠w.heap.size+1∧j≠w.heap.size+1+1) ⟨some ⟨g,off,none⟩,sn,sc⟩ c k ⟨some ⟨gf,0,none⟩,tn,cf⟩ ({ y with data:=d,dirty:=dirty }::(L.take at_++L.drop (at_+1))) _ (fun j hj=>HXW.out j (by rw[GS]at hj;omega)) (HCX.out.below HB3.out) hks hO3.1 hO3.2.1 (fun _ p hp=>by cases hp;exact HXW.out _ hgf)).mono ?_);rintro r w1 ⟨⟨s1,s2,s3⟩,rfl,hca,hb4⟩;have HCA:=Lib.hid hca;obtain⟨ow4,kw4,rfl⟩:=more_of hb4;clear hb4 hO3 hca))
  apply ret_cct row35 row46 rfl (w.heap.size+1) (w.heap.size+1+1) (ccC ⟨c.ways,⟨s1,s2,s3⟩⟩) (wyC wyZ) (t:=35) (t':=46) (fr:=(0,0)) (fr':=(0,0)) (hd:=rfl)
  all_goals(try rfl)
  ·refine(row_other _ _ _ _ (by omega)).trans ?_
   exact setRow_heap _ _ (ccC ccZ) _ 35 (0,0) ((more_heap' _ _ _ _ (by rw[GS];omega)).trans G1.out)
  ·exact setRow_heap _ _ (wyC wyZ) _ 46 (0,0) ((row_other _ _ _ _ (by omega)).trans ((more_heap' _ _ _ _ (by rw[GS];omega)).trans G2.out))
  refine⟨⟨s1,s2,s3⟩,by rw[E.out];rfl,?_,?_⟩
  ·rw[E.out]
   exact(HCA.out.same (X:=fun j=>X j∧j≠w.heap.size+1∧j≠w.heap.size+1+1) (by rw[row_size,row_size];exact Nat.le_refl _) (fun j hj=>(row_other _ _ _ _ hj.2.2).trans (row_other _ _ _ _ hj.2.1))).mono (fun j h _=>h.1)
  ·exact bl_row (bl_row (bl_more HB3.out (by rw[GS];omega) _ _) (Nat.le_succ _) _) (by omega) _
end Go.Proofs.YtdmhfogegfmnfaaGreatDoor
