/- Contract: whether a cache may be. Conditions: the cache reads as one. -/
import Derived.Test.YtdmhfogegfmnfaaGreatDoorG01
import Derived.Test.YtdmhfogegfmnfaaGreatDoorG11
set_option maxRecDepth 100000
set_option maxHeartbeats 4000000
set_option linter.unusedVariables false
set_option linter.unusedSimpArgs false
namespace Go.Proofs.YtdmhfogegfmnfaaGreatDoor
open Go.RowKit
theorem setNo_n(c:Ca)(n:Nat)(h:c.sets.length=n)(h1:1≤n)(line:U):line.v / 16 % (n:Int)=(setNo c line:Int):=by
 have:=Int.emod_nonneg (line.v / 16) (b:=(n:Int)) (by omega)
 unfold setNo
 rw[h]
 omega
theorem fine_not{c:Ca}{k:Nat}{L:List Wy}(h:c.sets[k]?=some L)(hn:¬ SetFine c k L):rightC c=false:=Bool.eq_false_iff.2 fun hr=>hn ((right_iff.1 hr).2 k L h)
theorem right_at(sa:Option Addr)(sn sc:Nat)(c:Ca)(w:World)(hc:CaR w ⟨sa,sn,sc⟩ c):Calls Tryz.prog 9 #[caV c.ways ⟨sa,sn,sc⟩] w fun e w'=>e= .returned (.bool (rightC c))∧Below w.heap.size w w':=by
 have hl:=hc.len
 have hn:=hc.few
 simp only at hl hn
 have HC:=Lib.hid hc
 obtain⟨W0,hW0⟩:∃ W0,W0=w.alloc (.cells (ccC ⟨c.ways,⟨sa,sn,sc⟩⟩) 35):=⟨_,rfl⟩
 have hs0:W0.heap.size=w.heap.size+1:=by rw[hW0,World.size_alloc]
 have HB0:=Lib.hid (show Below w.heap.size w W0 by rw[hW0];exact(Below.refl _ _).alloc (Nat.le_refl _) _)
 have HX0:=Lib.hid (show W0.heap[w.heap.size]?=some (.cells (ccC ⟨c.ways,⟨sa,sn,sc⟩⟩) 35 (0,0)) by rw[hW0];exact heap_alloc_new _ _)
 have HC0:=Lib.hid (hc.below HB0.out)
 have HW0:=Lib.hid hW0
 have HL:=Lib.hid hl
 clear hc hW0 hl
 by_cases hs:(sn=1∨sn=2∨sn=4)∧(c.ways=1∨c.ways=2)
 ·obtain⟨h1,h2⟩:=hs
  have HS:=Lib.hid h1
  have HWy:=Lib.hid h2
  have q1:1≤sn:=by omega
  have q2:(1:Int)≤c.ways∧c.ways≤2:=by omega
  obtain⟨q2,q3⟩:=q2
  rcases h1 with h1|h1|h1<;>rcases h2 with h2|h2
  case' inl.inl=>
   have d1:((sn:Int) != 1)=false:=by rw[h1];rfl
   have e1:(c.ways != 1)=false:=by rw[h2];rfl
  case' inl.inr=>
   have d1:((sn:Int) != 1)=false:=by rw[h1];rfl
   have e1:(c.ways != 1)=true:=by rw[h2];rfl
   have e2:(c.ways != 2)=false:=by rw[h2];rfl
  case' inr.inl.inl=>
   have d1:((sn:Int) != 1)=true:=by rw[h1];rfl
   have d2:((sn:Int) != 2)=false:=by rw[h1];rfl
   have e1:(c.ways != 1)=false:=by rw[h2];rfl
  case' inr.inl.inr=>
   have d1:((sn:Int) != 1)=true:=by rw[h1];rfl
   have d2:((sn:Int) != 2)=false:=by rw[h1];rfl
   have e1:(c.ways != 1)=true:=by rw[h2];rfl
   have e2:(c.ways != 2)=false:=by rw[h2];rfl
  case' inr.inr.inl=>
   have d1:((sn:Int) != 1)=true:=by rw[h1];rfl
   have d2:((sn:Int) != 2)=true:=by rw[h1];rfl
   have d4:((sn:Int) != 4)=false:=by rw[h1];rfl
   have e1:(c.ways != 1)=false:=by rw[h2];rfl
  case' inr.inr.inr=>
   have d1:((sn:Int) != 1)=true:=by rw[h1];rfl
   have d2:((sn:Int) != 2)=true:=by rw[h1];rfl
   have d4:((sn:Int) != 4)=false:=by rw[h1];rfl
   have e1:(c.ways != 1)=true:=by rw[h2];rfl
   have e2:(c.ways != 2)=false:=by rw[h2];rfl
  all_goals
   clear h1 h2
   go_enter Tryz.func9,Tryz.ntmps9
   go_wp2
   go_loopw [36] (fun i wr=>∃(k:Nat),k≤sn∧i= .int .i64 k∧Hid (∀ i L,c.sets[i]?=some L→i<k→SetFine c i L)∧Below W0.heap.size W0 wr) (fun i _=>sn-(intOf i).toNat)
   case atStart=>exact⟨0,by omega,rfl,Lib.hid (fun i L h hi=>absurd hi (by omega)),by rw[HW0.out];exact Below.refl _ _⟩
   case round=>
    rename World=>wo
    obtain⟨k,hk,rfl,HG,HB⟩:=hrel
    have hBs:=HB.size
    have hbx:wo.heap[w.heap.size]?=some (.cells (ccC ⟨c.ways,⟨sa,sn,sc⟩⟩) 35 (0,0)):=(HB.block _ (by omega)).trans HX0.out
    have HBX:=Lib.hid hbx
    have hbc:∀ j,wo.cell? ⟨w.heap.size,j,none⟩=(ccC ⟨c.ways,⟨sa,sn,sc⟩⟩)[j]?:=fun j=>cell_of_row wo _ j _ _ _ hbx
    have hBwo:Below w.heap.size w wo:=HB0.out.trans (HB.mono (by omega))
    clear hbx
    by_cases hlt:k<sn
    ·obtain⟨g,off,⟨ta,tn,tc⟩,L,e0,hg,hLk,hcell,hSl,hWf⟩:=(HC0.out.below HB).at_ hlt
     simp only at e0 hcell hSl hWf
     subst e0
     have htn:=hSl.few
     have HLL:=Lib.hid hSl.len
     have HSl:=Lib.hid hSl
     have HLk:=Lib.hid hLk
     have htc:=hWf.le
     have FN:=Lib.hid (fun hn=>fine_not (c:=c) HLk.out hn)
     clear hSl hLk hWf
     by_cases hlen:(tn:Int)≤c.ways
     ·go_wp2
      go_loopw [48] (fun i w2=>∃(j:Nat),j≤tn∧i= .int .i64 j∧Hid (∀ m y,L[m]?=some y→m<j→wayOk c k (L.take m) y=true)∧Below wo.heap.size wo w2) (fun i _=>tn-(intOf i).toNat)
      case atStart=>exact⟨0,by omega,rfl,Lib.hid (fun m y h hi=>absurd hi (by omega)),Below.refl _ _⟩
      case round=>
       obtain⟨j,hj,rfl,HJ,HB2⟩:=hrel
       have hBs2:=HB2.size
       have hbx2:wr.heap[w.heap.size]?=some (.cells (ccC ⟨c.ways,⟨some ⟨g,off,none⟩,sn,sc⟩⟩) 35 (0,0)):=(HB2.block _ (by omega)).trans HBX.out
       have hBw:Below w.heap.size w wr:=hBwo.trans (HB2.mono (by omega))
       by_cases hjl:j<tn
       ·obtain⟨g2,off2,y,e2,hg2,hy,hcy⟩:=(HSl.out.below HB2).at_ hjl
        subst e2
        have HY:=Lib.hid hy
        have HC2:=Lib.hid hcy
        have x0:=y.line.lo
        have j0:(0:Int)≤(j:Int):=by omega
        have j1:(j:Int)≤(tc:Int):=by omega
        have j2:j≤tc:=by omega
        have x1:=y.line.hi
        clear hy hcy
        by_cases hq:lineU y.line=y.line
        ·have hb:((lineU y.line).v != y.line.v)=false:=by rw[hq];simp
         have HQ:=Lib.hid hq
         clear hq
         by_cases hq2:setNo c y.line=k
         ·have hb2:(y.line.v / 16 % (sn:Int) !=(k:Int))=false:=by rw[setNo_n c sn HL.out q1,hq2];simp
          have HQ2:=Lib.hid hq2
          clear hq2
          go_wp2_with (first|((with_reducible refine gAl 46 ?_);refine alloc_row (wyC wyZ) zero46 rfl rfl ?_;try simp only[Act.put,xA,xB,xC,fR])|((with_reducible refine gD (Op.store 46 _ _) ?_);apply store_row row46 rfl _ _ rfl _ (wyC _) rfl rfl (wyC_size _) (wyC_ones _) (t:=46) (old:=wyC _) (h2:=wyC_size _);(·(repeat((refine heap_at _ _ _ ?_;(with_reducible rfl)))));try simp only[Act.put,xA,xB,xC,fR];try simp (disch:=(first|with_reducible rfl|fail)) only[more_row,alloc_row_past,alloc_row_at,drew_row,drewN_row])|((with_reducible refine gD (Op.load 46 _) ?_);refine take_el row46 rfl _ rfl g2 (off2+j*3) rfl y (wyC_size y) HC2.out ?_;try simp only[Act.put,xA,xB,xC,fR]))
          (refine wp_named ?_;intro W hW;have hG:W.heap[wr.heap.size]?=some (.cells (wyC y) _ (0,0)):=(by rw[hW];(repeat((refine heap_at _ _ _ ?_;(with_reducible rfl)))));have hG2:W.heap[w.heap.size]?=some (.cells (ccC ⟨c.ways,⟨some ⟨g,off,none⟩,sn,sc⟩⟩) _ (0,0)):=(by rw[hW];(repeat(first|assumption|(refine(heap_past _ _ _ ?_).trans ?_;(omega)))));have hlt:wr.heap.size<W.heap.size:=(Array.getElem?_eq_some_iff.1 hG).1;have hlt2:w.heap.size<W.heap.size:=(Array.getElem?_eq_some_iff.1 hG2).1;have hBW:Below wr.heap.size wr W:=(by rw[hW];(repeat(first|exact Below.refl _ _|(refine Below.alloc ?_ ?_ _;rotate_left;(omega)))));have hR:=Lib.hid (RowAt.of hG);have hR2:=Lib.hid (RowAt.of hG2);have hW':=Lib.hid hW;clear hW;go_region_held3 (fun w'=>(∀ j,w'.cell? ⟨wr.heap.size,j,none⟩=(wyC y)[j]?)∧(∀ j,w'.cell? ⟨w.heap.size,j,none⟩=(ccC ⟨c.ways,⟨some ⟨g,off,none⟩,sn,sc⟩⟩)[j]?)∧Below W.heap.size W w') (first|(exact start2d hR.out hR2.out)|(exact keep2 (by assumption) (by assumption) hlt hlt2)|fail) ((first|(go_at_call 28;refine(line_any' y.line _).mono ?_;rintro r w' ⟨rfl,rfl⟩)|(go_at_call 29;refine(setOf_any c.ways ⟨some ⟨g,off,none⟩,sn,sc⟩ y.line _ q1 hn).mono ?_;rintro r w' ⟨rfl,hg⟩)));rename_i hS;obtain⟨oS,kS,rfl⟩:=more_of hS.2.2;clear hS hR hR2 hG hG2 hlt hlt2 hBW;have hW:=hW'.out;clear hW';subst hW)
          by_cases hd:y.data.length=0∨y.data.length=16
          ·cases hp:(placeW (L.take j) y.line).2
           ·have HP:=Lib.hid hp
            have HD:=Lib.hid hd
            rcases hd with hd|hd
            all_goals
             go_wp2_with fail
             (refine wp_named ?_;intro W hW;have hG:W.heap[wr.heap.size]?=some (.cells (wyC y) _ (0,0)):=(by rw[hW];(repeat(first|(refine heap_at _ _ _ ?_;(with_reducible rfl))|(refine(more_heap' _ _ _ _ ?_).trans ?_;(simp only[sZ]<;>omega)))));have hG2:W.heap[w.heap.size]?=some (.cells (ccC ⟨c.ways,⟨some ⟨g,off,none⟩,sn,sc⟩⟩) _ (0,0)):=(by rw[hW];(repeat(first|assumption|(refine(more_heap' _ _ _ _ ?_).trans ?_;(simp only[sZ]<;>omega))|(refine(heap_past _ _ _ ?_).trans ?_;(omega)))));have hlt:wr.heap.size<W.heap.size:=(Array.getElem?_eq_some_iff.1 hG).1;have hlt2:w.heap.size<W.heap.size:=(Array.getElem?_eq_some_iff.1 hG2).1;have hBW:Below wr.heap.size wr W:=(by rw[hW];(repeat(first|exact Below.refl _ _|(refine Below.alloc ?_ ?_ _;rotate_left;(omega))|(refine bl_more ?_ ?_ _ _;rotate_left;(simp only[sZ]<;>omega)))));have hR:=Lib.hid (RowAt.of hG);have hR2:=Lib.hid (RowAt.of hG2);have hW':=Lib.hid hW;clear hW;go_region_held3 (fun w'=>(∀ j,w'.cell? ⟨wr.heap.size,j,none⟩=(wyC y)[j]?)∧(∀ j,w'.cell? ⟨w.heap.size,j,none⟩=(ccC ⟨c.ways,⟨some ⟨g,off,none⟩,sn,sc⟩⟩)[j]?)∧Below W.heap.size W w') (first|(exact start2d hR.out hR2.out)|(exact keep2 (by assumption) (by assumption) hlt hlt2)|fail) ((go_at_call 30;refine(place_any (some ⟨g2,off2,none⟩) j tc (L.take j) y.line _ ((((HSl.out.below HB2).below hBW).below (And.right (And.right (by assumption)))).take (by omega))).mono ?_;unfold PlP;rintro r w' ⟨rfl,hg⟩));rename_i hS;obtain⟨oS,kS,rfl⟩:=more_of hS.2.2;clear hS hR hR2 hG hG2 hlt hlt2 hBW;have hW:=hW'.out;clear hW';subst hW)
             go_wp2_with fail
             go_roundw
             case rel=>exact⟨j+1,by omega,by go_num,Lib.hid (fun m z hz hm=>by
              by_cases q:m=j
              ·subst q
               have:=hz.symm.trans HY.out
               simp only[Option.some.injEq]at this
               subst this
               exact way_parts.2 ⟨HQ.out,HQ2.out,HD.out,HP.out⟩
              ·exact HJ.out m z hz (by omega)),by(repeat(first|assumption|(refine Below.alloc ?_ ?_ _;rotate_left;(omega))|(refine bl_more ?_ ?_ _ _;rotate_left;(simp only[sZ]<;>omega))))⟩
             case measure=>simp[intOf];omega
           ·have HP:=Lib.hid hp
            rcases hd with hd|hd
            all_goals
             go_wp2_with fail
             (refine wp_named ?_;intro W hW;have hG:W.heap[wr.heap.size]?=some (.cells (wyC y) _ (0,0)):=(by rw[hW];(repeat(first|(refine heap_at _ _ _ ?_;(with_reducible rfl))|(refine(more_heap' _ _ _ _ ?_).trans ?_;(simp only[sZ]<;>omega)))));have hG2:W.heap[w.heap.size]?=some (.cells (ccC ⟨c.ways,⟨some ⟨g,off,none⟩,sn,sc⟩⟩) _ (0,0)):=(by rw[hW];(repeat(first|assumption|(refine(more_heap' _ _ _ _ ?_).trans ?_;(simp only[sZ]<;>omega))|(refine(heap_past _ _ _ ?_).trans ?_;(omega)))));have hlt:wr.heap.size<W.heap.size:=(Array.getElem?_eq_some_iff.1 hG).1;have hlt2:w.heap.size<W.heap.size:=(Array.getElem?_eq_some_iff.1 hG2).1;have hBW:Below wr.heap.size wr W:=(by rw[hW];(repeat(first|exact Below.refl _ _|(refine Below.alloc ?_ ?_ _;rotate_left;(omega))|(refine bl_more ?_ ?_ _ _;rotate_left;(simp only[sZ]<;>omega)))));have hR:=Lib.hid (RowAt.of hG);have hR2:=Lib.hid (RowAt.of hG2);have hW':=Lib.hid hW;clear hW;go_region_held3 (fun w'=>(∀ j,w'.cell? ⟨wr.heap.size,j,none⟩=(wyC y)[j]?)∧(∀ j,w'.cell? ⟨w.heap.size,j,none⟩=(ccC ⟨c.ways,⟨some ⟨g,off,none⟩,sn,sc⟩⟩)[j]?)∧Below W.heap.size W w') (first|(exact start2d hR.out hR2.out)|(exact keep2 (by assumption) (by assumption) hlt hlt2)|fail) ((go_at_call 30;refine(place_any (some ⟨g2,off2,none⟩) j tc (L.take j) y.line _ ((((HSl.out.below HB2).below hBW).below (And.right (And.right (by assumption)))).take (by omega))).mono ?_;unfold PlP;rintro r w' ⟨rfl,hg⟩));rename_i hS;obtain⟨oS,kS,rfl⟩:=more_of hS.2.2;clear hS hR hR2 hG hG2 hlt hlt2 hBW;have hW:=hW'.out;clear hW';subst hW)
             go_wp2_with fail
             go_ret
             exact⟨ret_b (FN.out fun hf=>by have:=(way_parts.1 (hf.2 j y HY.out)).2.2.2;rw[HP.out]at this;cases this).symm,by(repeat(first|assumption|(refine Below.alloc ?_ ?_ _;rotate_left;(omega))|(refine bl_more ?_ ?_ _ _;rotate_left;(simp only[sZ]<;>omega))))⟩
          ·have hd1:((y.data.length:Int) != 0)=true:=by rw[bne_iff_ne];omega
           have hd2:((y.data.length:Int) != 16)=true:=by rw[bne_iff_ne];omega
           have HD:=Lib.hid hd
           clear hd
           go_wp2_with fail
           go_ret
           exact⟨ret_b (FN.out fun hf=>HD.out (way_parts.1 (hf.2 j y HY.out)).2.2.1).symm,by(repeat(first|assumption|(refine Below.alloc ?_ ?_ _;rotate_left;(omega))|(refine bl_more ?_ ?_ _ _;rotate_left;(simp only[sZ]<;>omega))))⟩
         ·have hb2:(y.line.v / 16 % (sn:Int) !=(k:Int))=true:=by rw[setNo_n c sn HL.out q1,bne_iff_ne];omega
          have HQ2:=Lib.hid hq2
          clear hq2
          go_wp2_with (first|((with_reducible refine gAl 46 ?_);refine alloc_row (wyC wyZ) zero46 rfl rfl ?_;try simp only[Act.put,xA,xB,xC,fR])|((with_reducible refine gD (Op.store 46 _ _) ?_);apply store_row row46 rfl _ _ rfl _ (wyC _) rfl rfl (wyC_size _) (wyC_ones _) (t:=46) (old:=wyC _) (h2:=wyC_size _);(·(repeat((refine heap_at _ _ _ ?_;(with_reducible rfl)))));try simp only[Act.put,xA,xB,xC,fR];try simp (disch:=(first|with_reducible rfl|fail)) only[more_row,alloc_row_past,alloc_row_at,drew_row,drewN_row])|((with_reducible refine gD (Op.load 46 _) ?_);refine take_el row46 rfl _ rfl g2 (off2+j*3) rfl y (wyC_size y) HC2.out ?_;try simp only[Act.put,xA,xB,xC,fR]))
          (refine wp_named ?_;intro W hW;have hG:W.heap[wr.heap.size]?=some (.cells (wyC y) _ (0,0)):=(by rw[hW];(repeat((refine heap_at _ _ _ ?_;(with_reducible rfl)))));have hG2:W.heap[w.heap.size]?=some (.cells (ccC ⟨c.ways,⟨some ⟨g,off,none⟩,sn,sc⟩⟩) _ (0,0)):=(by rw[hW];(repeat(first|assumption|(refine(heap_past _ _ _ ?_).trans ?_;(omega)))));have hlt:wr.heap.size<W.heap.size:=(Array.getElem?_eq_some_iff.1 hG).1;have hlt2:w.heap.size<W.heap.size:=(Array.getElem?_eq_some_iff.1 hG2).1;have hBW:Below wr.heap.size wr W:=(by rw[hW];(repeat(first|exact Below.refl _ _|(refine Below.alloc ?_ ?_ _;rotate_left;(omega)))));have hR:=Lib.hid (RowAt.of hG);have hR2:=Lib.hid (RowAt.of hG2);have hW':=Lib.hid hW;clear hW;go_region_held3 (fun w'=>(∀ j,w'.cell? ⟨wr.heap.size,j,none⟩=(wyC y)[j]?)∧(∀ j,w'.cell? ⟨w.heap.size,j,none⟩=(ccC ⟨c.ways,⟨some ⟨g,off,none⟩,sn,sc⟩⟩)[j]?)∧Below W.heap.size W w') (first|(exact start2d hR.out hR2.out)|(exact keep2 (by assumption) (by assumption) hlt hlt2)|fail) ((first|(go_at_call 28;refine(line_any' y.line _).mono ?_;rintro r w' ⟨rfl,rfl⟩)|(go_at_call 29;refine(setOf_any c.ways ⟨some ⟨g,off,none⟩,sn,sc⟩ y.line _ q1 hn).mono ?_;rintro r w' ⟨rfl,hg⟩)));rename_i hS;obtain⟨oS,kS,rfl⟩:=more_of hS.2.2;clear hS hR hR2 hG hG2 hlt hlt2 hBW;have hW:=hW'.out;clear hW';subst hW)
          go_wp2_with fail
          go_ret
          exact⟨ret_b (FN.out fun hf=>HQ2.out (way_parts.1 (hf.2 j y HY.out)).2.1).symm,by(repeat(first|assumption|(refine Below.alloc ?_ ?_ _;rotate_left;(omega))|(refine bl_more ?_ ?_ _ _;rotate_left;(simp only[sZ]<;>omega))))⟩
        ·have hb:((lineU y.line).v != y.line.v)=true:=by rw[bne_iff_ne];exact fun e=>hq (U.eq_of e)
         have HQ:=Lib.hid hq
         clear hq
         go_wp2_with (first|((with_reducible refine gAl 46 ?_);refine alloc_row (wyC wyZ) zero46 rfl rfl ?_;try simp only[Act.put,xA,xB,xC,fR])|((with_reducible refine gD (Op.store 46 _ _) ?_);apply store_row row46 rfl _ _ rfl _ (wyC _) rfl rfl (wyC_size _) (wyC_ones _) (t:=46) (old:=wyC _) (h2:=wyC_size _);(·(repeat((refine heap_at _ _ _ ?_;(with_reducible rfl)))));try simp only[Act.put,xA,xB,xC,fR];try simp (disch:=(first|with_reducible rfl|fail)) only[more_row,alloc_row_past,alloc_row_at,drew_row,drewN_row])|((with_reducible refine gD (Op.load 46 _) ?_);refine take_el row46 rfl _ rfl g2 (off2+j*3) rfl y (wyC_size y) HC2.out ?_;try simp only[Act.put,xA,xB,xC,fR]))
         go_quiet ((go_at_call 28;exact Calls.quiet_of_same ((line_any' y.line _).mono fun _ _ h=>⟨h.1,h.2.symm⟩)))
         go_wp2_with fail
         go_ret
         exact⟨ret_b (FN.out fun hf=>HQ.out (way_parts.1 (hf.2 j y HY.out)).1).symm,by(repeat(first|assumption|(refine Below.alloc ?_ ?_ _;rotate_left;(omega))|refine bl_drewN ?_ _))⟩
       ·have hjn:j=tn:=by omega
        subst hjn
        have hbc2:∀ j,wr.cell? ⟨w.heap.size,j,none⟩=(ccC ⟨c.ways,⟨some ⟨g,off,none⟩,sn,sc⟩⟩)[j]?:=fun j=>cell_of_row wr _ j _ _ _ hbx2
        go_wp2
        go_roundw
        case rel=>exact⟨k+1,by omega,by go_num,Lib.hid (fun i M hM hi=>by
         by_cases q:i=k
         ·subst q
          have:=hM.symm.trans HLk.out
          simp only[Option.some.injEq]at this
          subst this
          exact⟨by rw[HLL.out];exact hlen,fun m z hz=>HJ.out m z hz (by have:=(List.getElem?_eq_some_iff.1 hz).1;rw[HLL.out]at this;exact this)⟩
         ·exact HG.out i M hM (by omega)),HB.trans (HB2.mono (by omega))⟩
        case measure=>simp[intOf];omega
     ·have HLN:=Lib.hid hlen
      go_wp2
      go_ret
      exact⟨ret_b (FN.out fun hf=>by have:=hf.1;rw[HLL.out]at this;exact absurd this (by have:=HLN.out;omega)).symm,hBwo⟩
    ·have hkn:k=sn:=by omega
     subst hkn
     go_wp2
     go_ret
     exact⟨ret_b (right_iff.2 ⟨⟨by rw[HL.out];exact HS.out,HWy.out⟩,fun i L h=>HG.out i L h (by have:=(List.getElem?_eq_some_iff.1 h).1;rw[HL.out]at this;exact this)⟩).symm,hBwo⟩
 ·have HN:=Lib.hid (show rightC c=false from Bool.eq_false_iff.2 fun hr=>hs (by have:=(right_iff.1 hr).1;rw[HL.out]at this;exact this))
  by_cases h1:sn=1∨sn=2∨sn=4
  ·have e1:(c.ways != 1)=true:=by rw[bne_iff_ne];omega
   have e2:(c.ways != 2)=true:=by rw[bne_iff_ne];omega
   clear hs
   rcases h1 with h1|h1|h1
   ·have d1:((sn:Int) != 1)=false:=by rw[h1];rfl
    clear h1
    go_enter Tryz.func9,Tryz.ntmps9
    go_wp2
    go_ret
    exact⟨ret_b HN.out.symm,by(repeat(first|exact Below.refl _ _|(refine Below.alloc ?_ ?_ _;rotate_left;(omega))))⟩
   ·have d1:((sn:Int) != 1)=true:=by rw[h1];rfl
    have d2:((sn:Int) != 2)=false:=by rw[h1];rfl
    clear h1
    go_enter Tryz.func9,Tryz.ntmps9
    go_wp2
    go_ret
    exact⟨ret_b HN.out.symm,by(repeat(first|exact Below.refl _ _|(refine Below.alloc ?_ ?_ _;rotate_left;(omega))))⟩
   ·have d1:((sn:Int) != 1)=true:=by rw[h1];rfl
    have d2:((sn:Int) != 2)=true:=by rw[h1];rfl
    have d4:((sn:Int) != 4)=false:=by rw[h1];rfl
    clear h1
    go_enter Tryz.func9,Tryz.ntmps9
    go_wp2
    go_ret
    exact⟨ret_b HN.out.symm,by(repeat(first|exact Below.refl _ _|(refine Below.alloc ?_ ?_ _;rotate_left;(omega))))⟩
  ·have d1:((sn:Int) != 1)=true:=by rw[bne_iff_ne];omega
   have d2:((sn:Int) != 2)=true:=by rw[bne_iff_ne];omega
   have d4:((sn:Int) != 4)=true:=by rw[bne_iff_ne];omega
   clear h1 hs
   go_enter Tryz.func9,Tryz.ntmps9
   go_wp2
   go_ret
   exact⟨ret_b HN.out.symm,by(repeat(first|exact Below.refl _ _|(refine Below.alloc ?_ ?_ _;rotate_left;(omega))))⟩
theorem cright_any(s:Sv)(c:Ca)(w:World)(hc:CaR w s c):Calls Tryz.prog 9 #[caV c.ways s] w fun e w'=>e= .returned (.bool (rightC c))∧Below w.heap.size w w':=right_at s.a s.n s.c c w hc
end Go.Proofs.YtdmhfogegfmnfaaGreatDoor
