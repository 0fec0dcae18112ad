/- Contracts: a line put to the front. Conditions: the ways read as a list. Contracts: where a line stands in a cache; a line touched. Conditions: the cache reads as one. Contract: whether a cache may be. Conditions: the cache reads as one. Contracts: where a line stands in a cache. Conditions: the cache reads as one. Contracts: a line touched. Conditions: the cache reads as .. -/
import Derived.Test.YtdmhfogegfmnfaaGreatDoorG00
import Derived.Test.YtdmhfogegfmnfaaGreatDoorG01
import Derived.Test.YtdmhfogegfmnfaaGreatDoorG02
import Derived.Test.YtdmhfogegfmnfaaGreatDoorG10
import Derived.BigRegion
import Derived.Deep.Cut
set_option maxRecDepth 100000
set_option maxHeartbeats 4000000
set_option linter.unusedVariables false
set_option linter.unusedSimpArgs false
namespace Go.Proofs.YtdmhfogegfmnfaaGreatDoor
open Go.RowKit
theorem front_any(A:Option Addr)(n C:Nat)(L:List Wy)(at_:Nat)(w:World)(hL:Sl wyC 3 w A n L)(hA:A=none→C=0)(hC:n≤C)(hat:at_<n):Calls Tryz.prog 83 #[.slice A n C,.int .i64 at_] w (OwP wyC 3 46 (frontW L at_) w):=by
 have hn:=hL.few
 have hl:=hL.len
 have HL:=Lib.hid hL
 have HA:=Lib.hid hA
 obtain⟨g,off,y,rfl,hg,hy,hc⟩:=hL.at_ hat
 have HY:=Lib.hid hy
 have HC:=Lib.hid hc
 clear hL hA hy hc
 have d1:((at_:Int)+1).toNat=at_+1:=by omega
 have F1:=Lib.hid (show []++[y]=[y]from rfl)
 have hw0:w.heap.size≤w.heap.size:=Nat.le_refl _
 have e3:frontW L at_=[y]++L.take at_++L.drop (at_+1):=by
  unfold frontW
  rw[List.getD_eq_getElem?_getD,HY.out];simp
 have E3:=Lib.hid e3
 clear e3
 go_enter Tryz.func83,Tryz.ntmps83
 go_wp2_with (first|((with_reducible refine gD (Op.makeSlice 51 _ _) ?_);refine make_sl (α:=Wy) (lay:=wyC) slT51 rfl _ _ rfl w.heap.size .i64 .i64 n n rfl rfl rfl hn (Nat.le_refl _) ?_;intro v1 w1 h1 g1;have HB1:=Lib.hid (bl_own (Below.refl w.heap.size w) g1 (Nat.le_refl _) (fun k h=>by cases h));have hs1:=HB1.out.size;have HO1:=Lib.hid h1;clear h1 g1;try simp only[Act.put,xA,xB,xC,fR])|((with_reducible refine gD (Op.load 46 _) ?_);refine take_el row46 rfl _ rfl g (off+at_*3) rfl y (wyC_size y) (fun j v hv=>(HB1.out.cell (p:=⟨g,_,none⟩) hg).trans (HC.out j v hv)) ?_;try simp only[Act.put,xA,xB,xC,fR])|(at_builtin;(refine app_sl slT51 wyC_size wyC_ones rfl _ _ rfl w.heap.size v1 [] rfl (HO1.out.below (by(repeat(first|exact Below.refl _ _|(refine Below.alloc ?_ ?_ _;rotate_left;(omega)))))) (some ⟨w1.heap.size,0,none⟩) 1 1 [y] rfl (Sl.new (t:=46) (fr:=(0,0)) wyC_size (heap_alloc_new _ _) (by simp)) (fun h=>by cases h) (by simp) (by simp only[World.size_alloc];omega) ?_);intro v2 w2 h2 g2;have HB2:=Lib.hid (bl_own (HB1.out.alloc hs1 _) g2 (by simp only[World.size_alloc];omega) HO1.out.row);have hs2:=HB2.out.size;have HO2:=Lib.hid h2;clear h2 g2;try simp only[Act.put,xA,xB,xC,fR])|(at_builtin;(refine app_sl slT51 wyC_size wyC_ones rfl _ _ rfl w.heap.size v2 ([]++[y]) rfl HO2.out (some ⟨g,off,none⟩) at_ C (L.take at_) rfl ((HL.out.below HB2.out).take (by omega)) (fun h=>by cases h) (by simp;omega) hs2 ?_);intro v3 w3 h3 g3;have HB3:=Lib.hid (bl_own HB2.out g3 hs2 HO2.out.row);have hs3:=HB3.out.size;have HO3:=Lib.hid h3;clear h3 g3;try simp only[Act.put,xA,xB,xC,fR])|(at_builtin;(refine app_sl slT51 wyC_size wyC_ones rfl _ _ rfl w.heap.size v3 ([]++[y]++L.take at_) rfl HO3.out _ (n-(at_+1)) _ (L.drop (at_+1)) rfl ((HL.out.below HB3.out).drop (by omega) hC (by intro h;first|simp[h])) (by intro h;split at h<;>cases h) (by simp;omega) hs3 ?_);intro v4 w4 h4 g4;have HB4:=Lib.hid (bl_own HB3.out g4 hs3 HO3.out.row);have HO4:=Lib.hid h4;clear h4 g4;try simp only[Act.put,xA,xB,xC,fR]))
 all_goals
  go_ret
  exact⟨v4,rfl,by rw[E3.out];exact HO4.out,HB4.out⟩
theorem way_parts{c:Ca}{k:Nat}{b:List Wy}{y:Wy}:wayOk c k b y=true↔lineU y.line=y.line∧setNo c y.line=k∧(y.data.length=0∨y.data.length=16)∧(placeW b y.line).2=false:=by
 unfold wayOk
 simp only[Bool.and_eq_true,Bool.or_eq_true,decide_eq_true_eq,Bool.not_eq_true']
 constructor
 ·rintro⟨⟨⟨h1,h2⟩,h3⟩,h4⟩;exact⟨h1,h2,h3,h4⟩
 ·rintro⟨h1,h2,h3,h4⟩;exact⟨⟨⟨h1,h2⟩,h3⟩,h4⟩
theorem setOk_iff{c:Ca}{k:Nat}:∀(L b:List Wy),setOk c k b L=true↔∀ j y,L[j]?=some y→wayOk c k (b++L.take j) y=true
 | [],b=>by simp[setOk]
 | z::L,b=>by
  unfold setOk
  rw[Bool.and_eq_true,setOk_iff L]
  constructor
  ·rintro⟨h1,h2⟩ j y hy
   match j with
   | 0=>simp at hy;subst hy;simpa using h1
   | j+1=>
    have:=h2 j y (by simpa using hy)
    simpa using this
  ·intro h
   refine⟨by simpa using h 0 z (by simp),fun j y hy=>?_⟩
   have:=h (j+1) y (by simpa using hy)
   simpa using this
def SetFine(c:Ca)(k:Nat)(L:List Wy):Prop:=(L.length:Int)≤c.ways∧∀ j y,L[j]?=some y→wayOk c k (L.take j) y=true
theorem setsOk_iff{c:Ca}:∀(S:List (List Wy)) (k:Nat),setsOk c k S=true↔∀ i L,S[i]?=some L→SetFine c (k+i) L
 | [],k=>by simp[setsOk]
 | z::S,k=>by
  unfold setsOk
  rw[Bool.and_eq_true,Bool.and_eq_true,setsOk_iff S,setOk_iff,decide_eq_true_eq]
  constructor
  ·rintro⟨⟨h1,h2⟩,h3⟩ i L hL
   match i with
   | 0=>simp at hL;subst hL;exact⟨h1,fun j y hy=>by simpa using h2 j y hy⟩
   | i+1=>have:=h3 i L (by simpa using hL);rw[show k+(i+1)=k+1+i by omega];exact this
  ·intro h
   have h0:=h 0 z (by simp)
   refine⟨⟨h0.1,fun j y hy=>by simpa using h0.2 j y hy⟩,fun i L hL=>?_⟩
   have:=h (i+1) L (by simpa using hL)
   rw[show k+(i+1)=k+1+i by omega]at this
   exact this
theorem right_iff{c:Ca}:rightC c=true↔((c.sets.length=1∨c.sets.length=2∨c.sets.length=4)∧(c.ways=1∨c.ways=2))∧∀ i L,c.sets[i]?=some L→SetFine c i L:=by
 unfold rightC
 rw[Bool.and_eq_true,decide_eq_true_eq,setsOk_iff]
 simp only[Nat.zero_add]
theorem setNo_n(c:Ca)(n:Nat)(h:c.sets.length=n)(h1:1≤n)(line:U):line.v / 16 % (n:Int)=(setNo c line:Int):=by
 have:=Int.emod_nonneg (line.v / 16) (b:=(n:Int)) (by omega)
 unfold setNo
 rw[h]
 omega
theorem fine_not{c:Ca}{k:Nat}{L:List Wy}(h:c.sets[k]?=some L)(hn:¬ SetFine c k L):rightC c=false:=Bool.eq_false_iff.2 fun hr=>hn ((right_iff.1 hr).2 k L h)
theorem right_at(sa:Option Addr)(sn sc:Nat)(c:Ca)(w:World)(hc:CaR w ⟨sa,sn,sc⟩ c):Calls Tryz.prog 9 #[caV c.ways ⟨sa,sn,sc⟩] w fun e w'=>e= .returned (.bool (rightC c))∧Below w.heap.size w w':=by
 have hl:=hc.len
 have hn:=hc.few
 simp only at hl hn
 have HC:=Lib.hid hc
 obtain⟨W0,hW0⟩:∃ W0,W0=w.alloc (.cells (ccC ⟨c.ways,⟨sa,sn,sc⟩⟩) 35):=⟨_,rfl⟩
 have hs0:W0.heap.size=w.heap.size+1:=by rw[hW0,World.size_alloc]
 have HB0:=Lib.hid (show Below w.heap.size w W0 by rw[hW0];exact(Below.refl _ _).alloc (Nat.le_refl _) _)
 have HX0:=Lib.hid (show W0.heap[w.heap.size]?=some (.cells (ccC ⟨c.ways,⟨sa,sn,sc⟩⟩) 35 (0,0)) by rw[hW0];exact heap_alloc_new _ _)
 have HC0:=Lib.hid (hc.below HB0.out)
 have HW0:=Lib.hid hW0
 have HL:=Lib.hid hl
 clear hc hW0 hl
 by_cases hs:(sn=1∨sn=2∨sn=4)∧(c.ways=1∨c.ways=2)
 ·obtain⟨h1,h2⟩:=hs
  have HS:=Lib.hid h1
  have HWy:=Lib.hid h2
  have q1:1≤sn:=by omega
  have q2:(1:Int)≤c.ways∧c.ways≤2:=by omega
  obtain⟨q2,q3⟩:=q2
  rcases h1 with h1|h1|h1<;>rcases h2 with h2|h2
  case' inl.inl=>
   have d1:((sn:Int) != 1)=false:=by rw[h1];rfl
   have e1:(c.ways != 1)=false:=by rw[h2];rfl
  case' inl.inr=>
   have d1:((sn:Int) != 1)=false:=by rw[h1];rfl
   have e1:(c.ways != 1)=true:=by rw[h2];rfl
   have e2:(c.ways != 2)=false:=by rw[h2];rfl
  case' inr.inl.inl=>
   have d1:((sn:Int) != 1)=true:=by rw[h1];rfl
   have d2:((sn:Int) != 2)=false:=by rw[h1];rfl
   have e1:(c.ways != 1)=false:=by rw[h2];rfl
  case' inr.inl.inr=>
   have d1:((sn:Int) != 1)=true:=by rw[h1];rfl
   have d2:((sn:Int) != 2)=false:=by rw[h1];rfl
   have e1:(c.ways != 1)=true:=by rw[h2];rfl
   have e2:(c.ways != 2)=false:=by rw[h2];rfl
  case' inr.inr.inl=>
   have d1:((sn:Int) != 1)=true:=by rw[h1];rfl
   have d2:((sn:Int) != 2)=true:=by rw[h1];rfl
   have d4:((sn:Int) != 4)=false:=by rw[h1];rfl
   have e1:(c.ways != 1)=false:=by rw[h2];rfl
  case' inr.inr.inr=>
   have d1:((sn:Int) != 1)=true:=by rw[h1];rfl
   have d2:((sn:Int) != 2)=true:=by rw[h1];rfl
   have d4:((sn:Int) != 4)=false:=by rw[h1];rfl
   have e1:(c.ways != 1)=true:=by rw[h2];rfl
   have e2:(c.ways != 2)=false:=by rw[h2];rfl
  all_goals
   clear h1 h2
   go_enter Tryz.func9,Tryz.ntmps9
   go_wp2
   go_loopw [36] (fun i wr=>∃(k:Nat),k≤sn∧i= .int .i64 k∧Hid (∀ i L,c.sets[i]?=some L→i<k→SetFine c i L)∧Below W0.heap.size W0 wr) (fun i _=>sn-(intOf i).toNat)
   case atStart=>exact⟨0,by omega,rfl,Lib.hid (fun i L h hi=>absurd hi (by omega)),by rw[HW0.out];exact Below.refl _ _⟩
   case round=>
    rename World=>wo
    obtain⟨k,hk,rfl,HG,HB⟩:=hrel
    have hBs:=HB.size
    have hbx:wo.heap[w.heap.size]?=some (.cells (ccC ⟨c.ways,⟨sa,sn,sc⟩⟩) 35 (0,0)):=(HB.block _ (by omega)).trans HX0.out
    have HBX:=Lib.hid hbx
    have hbc:∀ j,wo.cell? ⟨w.heap.size,j,none⟩=(ccC ⟨c.ways,⟨sa,sn,sc⟩⟩)[j]?:=fun j=>cell_of_row wo _ j _ _ _ hbx
    have hBwo:Below w.heap.size w wo:=HB0.out.trans (HB.mono (by omega))
    clear hbx
    by_cases hlt:k<sn
    ·obtain⟨g,off,⟨ta,tn,tc⟩,L,e0,hg,hLk,hcell,hSl,hWf⟩:=(HC0.out.below HB).at_ hlt
     simp only at e0 hcell hSl hWf
     subst e0
     have htn:=hSl.few
     have HLL:=Lib.hid hSl.len
     have HSl:=Lib.hid hSl
     have HLk:=Lib.hid hLk
     have htc:=hWf.le
     have FN:=Lib.hid (fun hn=>fine_not (c:=c) HLk.out hn)
     clear hSl hLk hWf
     by_cases hlen:(tn:Int)≤c.ways
     ·go_wp2
      go_loopw [48] (fun i w2=>∃(j:Nat),j≤tn∧i= .int .i64 j∧Hid (∀ m y,L[m]?=some y→m<j→wayOk c k (L.take m) y=true)∧Below wo.heap.size wo w2) (fun i _=>tn-(intOf i).toNat)
      case atStart=>exact⟨0,by omega,rfl,Lib.hid (fun m y h hi=>absurd hi (by omega)),Below.refl _ _⟩
      case round=>
       obtain⟨j,hj,rfl,HJ,HB2⟩:=hrel
       have hBs2:=HB2.size
       have hbx2:wr.heap[w.heap.size]?=some (.cells (ccC ⟨c.ways,⟨some ⟨g,off,none⟩,sn,sc⟩⟩) 35 (0,0)):=(HB2.block _ (by omega)).trans HBX.out
       have hBw:Below w.heap.size w wr:=hBwo.trans (HB2.mono (by omega))
       by_cases hjl:j<tn
       ·obtain⟨g2,off2,y,e2,hg2,hy,hcy⟩:=(HSl.out.below HB2).at_ hjl
        subst e2
        have HY:=Lib.hid hy
        have HC2:=Lib.hid hcy
        have x0:=y.line.lo
        have j0:(0:Int)≤(j:Int):=by omega
        have j1:(j:Int)≤(tc:Int):=by omega
        have j2:j≤tc:=by omega
        have x1:=y.line.hi
        clear hy hcy
        by_cases hq:lineU y.line=y.line
        ·have hb:((lineU y.line).v != y.line.v)=false:=by rw[hq];simp
         have HQ:=Lib.hid hq
         clear hq
         by_cases hq2:setNo c y.line=k
         ·have hb2:(y.line.v / 16 % (sn:Int) !=(k:Int))=false:=by rw[setNo_n c sn HL.out q1,hq2];simp
          have HQ2:=Lib.hid hq2
          clear hq2
          go_wp2_with (first|((with_reducible refine gAl 46 ?_);refine alloc_row (wyC wyZ) zero46 rfl rfl ?_;try simp only[Act.put,xA,xB,xC,fR])|((with_reducible refine gD (Op.store 46 _ _) ?_);apply store_row row46 rfl _ _ rfl _ (wyC _) rfl rfl (wyC_size _) (wyC_ones _) (t:=46) (old:=wyC _) (h2:=wyC_size _);(·(repeat((refine heap_at _ _ _ ?_;(with_reducible rfl)))));try simp only[Act.put,xA,xB,xC,fR];try simp (disch:=(first|with_reducible rfl|fail)) only[more_row,alloc_row_past,alloc_row_at,drew_row,drewN_row])|((with_reducible refine gD (Op.load 46 _) ?_);refine take_el row46 rfl _ rfl g2 (off2+j*3) rfl y (wyC_size y) HC2.out ?_;try simp only[Act.put,xA,xB,xC,fR]))
          (refine wp_named ?_;intro W hW;have hG:W.heap[wr.heap.size]?=some (.cells (wyC y) _ (0,0)):=(by rw[hW];(repeat((refine heap_at _ _ _ ?_;(with_reducible rfl)))));have hG2:W.heap[w.heap.size]?=some (.cells (ccC ⟨c.ways,⟨some ⟨g,off,none⟩,sn,sc⟩⟩) _ (0,0)):=(by rw[hW];(repeat(first|assumption|(refine(heap_past _ _ _ ?_).trans ?_;(omega)))));have hlt:wr.heap.size<W.heap.size:=(Array.getElem?_eq_some_iff.1 hG).1;have hlt2:w.heap.size<W.heap.size:=(Array.getElem?_eq_some_iff.1 hG2).1;have hBW:Below wr.heap.size wr W:=(by rw[hW];(repeat(first|exact Below.refl _ _|(refine Below.alloc ?_ ?_ _;rotate_left;(omega)))));have hR:=Lib.hid (RowAt.of hG);have hR2:=Lib.hid (RowAt.of hG2);have hW':=Lib.hid hW;clear hW;go_region_held3 (fun w'=>(∀ j,w'.cell? ⟨wr.heap.size,j,none⟩=(wyC y)[j]?)∧(∀ j,w'.cell? ⟨w.heap.size,j,none⟩=(ccC ⟨c.ways,⟨some ⟨g,off,none⟩,sn,sc⟩⟩)[j]?)∧Below W.heap.size W w') (first|(exact start2d hR.out hR2.out)|(exact keep2 (by assumption) (by assumption) hlt hlt2)|fail) ((first|(go_at_call 28;refine(line_any' y.line _).mono ?_;rintro r w' ⟨rfl,rfl⟩)|(go_at_call 29;refine(setOf_any c.ways ⟨some ⟨g,off,none⟩,sn,sc⟩ y.line _ q1 hn).mono ?_;rintro r w' ⟨rfl,hg⟩)));rename_i hS;obtain⟨oS,kS,rfl⟩:=more_of hS.2.2;clear hS hR hR2 hG hG2 hlt hlt2 hBW;have hW:=hW'.out;clear hW';subst hW)
          by_cases hd:y.data.length=0∨y.data.length=16
          ·cases hp:(placeW (L.take j) y.line).2
           ·have HP:=Lib.hid hp
            have HD:=Lib.hid hd
            rcases hd with hd|hd
            all_goals
             go_wp2_with fail
             (refine wp_named ?_;intro W hW;have hG:W.heap[wr.heap.size]?=some (.cells (wyC y) _ (0,0)):=(by rw[hW];(repeat(first|(refine heap_at _ _ _ ?_;(with_reducible rfl))|(refine(more_heap' _ _ _ _ ?_).trans ?_;(simp only[sZ]<;>omega)))));have hG2:W.heap[w.heap.size]?=some (.cells (ccC ⟨c.ways,⟨some ⟨g,off,none⟩,sn,sc⟩⟩) _ (0,0)):=(by rw[hW];(repeat(first|assumption|(refine(more_heap' _ _ _ _ ?_).trans ?_;(simp only[sZ]<;>omega))|(refine(heap_past _ _ _ ?_).trans ?_;(omega)))));have hlt:wr.heap.size<W.heap.size:=(Array.getElem?_eq_some_iff.1 hG).1;have hlt2:w.heap.size<W.heap.size:=(Array.getElem?_eq_some_iff.1 hG2).1;have hBW:Below wr.heap.size wr W:=(by rw[hW];(repeat(first|exact Below.refl _ _|(refine Below.alloc ?_ ?_ _;rotate_left;(omega))|(refine bl_more ?_ ?_ _ _;rotate_left;(simp only[sZ]<;>omega)))));have hR:=Lib.hid (RowAt.of hG);have hR2:=Lib.hid (RowAt.of hG2);have hW':=Lib.hid hW;clear hW;go_region_held3 (fun w'=>(∀ j,w'.cell? ⟨wr.heap.size,j,none⟩=(wyC y)[j]?)∧(∀ j,w'.cell? ⟨w.heap.size,j,none⟩=(ccC ⟨c.ways,⟨some ⟨g,off,none⟩,sn,sc⟩⟩)[j]?)∧Below W.heap.size W w') (first|(exact start2d hR.out hR2.out)|(exact keep2 (by assumption) (by assumption) hlt hlt2)|fail) ((go_at_call 30;refine(place_any (some ⟨g2,off2,none⟩) j tc (L.take j) y.line _ ((((HSl.out.below HB2).below hBW).below (And.right (And.right (by assumption)))).take (by omega))).mono ?_;unfold PlP;rintro r w' ⟨rfl,hg⟩));rename_i hS;obtain⟨oS,kS,rfl⟩:=more_of hS.2.2;clear hS hR hR2 hG hG2 hlt hlt2 hBW;have hW:=hW'.out;clear hW';subst hW)
             go_wp2_with fail
             go_roundw
             case rel=>exact⟨j+1,by omega,by go_num,Lib.hid (fun m z hz hm=>by
              by_cases q:m=j
              ·subst q
               have:=hz.symm.trans HY.out
               simp only[Option.some.injEq]at this
               subst this
               exact way_parts.2 ⟨HQ.out,HQ2.out,HD.out,HP.out⟩
              ·exact HJ.out m z hz (by omega)),by(repeat(first|assumption|(refine Below.alloc ?_ ?_ _;rotate_left;(omega))|(refine bl_more ?_ ?_ _ _;rotate_left;(simp only[sZ]<;>omega))))⟩
             case measure=>simp[intOf];omega
           ·have HP:=Lib.hid hp
            rcases hd with hd|hd
            all_goals
             go_wp2_with fail
             (refine wp_named ?_;intro W hW;have hG:W.heap[wr.heap.size]?=some (.cells (wyC y) _ (0,0)):=(by rw[hW];(repeat(first|(refine heap_at _ _ _ ?_;(with_reducible rfl))|(refine(more_heap' _ _ _ _ ?_).trans ?_;(simp only[sZ]<;>omega)))));have hG2:W.heap[w.heap.size]?=some (.cells (ccC ⟨c.ways,⟨some ⟨g,off,none⟩,sn,sc⟩⟩) _ (0,0)):=(by rw[hW];(repeat(first|assumption|(refine(more_heap' _ _ _ _ ?_).trans ?_;(simp only[sZ]<;>omega))|(refine(heap_past _ _ _ ?_).trans ?_;(omega)))));have hlt:wr.heap.size<W.heap.size:=(Array.getElem?_eq_some_iff.1 hG).1;have hlt2:w.heap.size<W.heap.size:=(Array.getElem?_eq_some_iff.1 hG2).1;have hBW:Below wr.heap.size wr W:=(by rw[hW];(repeat(first|exact Below.refl _ _|(refine Below.alloc ?_ ?_ _;rotate_left;(omega))|(refine bl_more ?_ ?_ _ _;rotate_left;(simp only[sZ]<;>omega)))));have hR:=Lib.hid (RowAt.of hG);have hR2:=Lib.hid (RowAt.of hG2);have hW':=Lib.hid hW;clear hW;go_region_held3 (fun w'=>(∀ j,w'.cell? ⟨wr.heap.size,j,none⟩=(wyC y)[j]?)∧(∀ j,w'.cell? ⟨w.heap.size,j,none⟩=(ccC ⟨c.ways,⟨some ⟨g,off,none⟩,sn,sc⟩⟩)[j]?)∧Below W.heap.size W w') (first|(exact start2d hR.out hR2.out)|(exact keep2 (by assumption) (by assumption) hlt hlt2)|fail) ((go_at_call 30;refine(place_any (some ⟨g2,off2,none⟩) j tc (L.take j) y.line _ ((((HSl.out.below HB2).below hBW).below (And.right (And.right (by assumption)))).take (by omega))).mono ?_;unfold PlP;rintro r w' ⟨rfl,hg⟩));rename_i hS;obtain⟨oS,kS,rfl⟩:=more_of hS.2.2;clear hS hR hR2 hG hG2 hlt hlt2 hBW;have hW:=hW'.out;clear hW';subst hW)
             go_wp2_with fail
             go_ret
             exact⟨ret_b (FN.out fun hf=>by have:=(way_parts.1 (hf.2 j y HY.out)).2.2.2;rw[HP.out]at this;cases this).symm,by(repeat(first|assumption|(refine Below.alloc ?_ ?_ _;rotate_left;(omega))|(refine bl_more ?_ ?_ _ _;rotate_left;(simp only[sZ]<;>omega))))⟩
          ·have hd1:((y.data.length:Int) != 0)=true:=by rw[bne_iff_ne];omega
           have hd2:((y.data.length:Int) != 16)=true:=by rw[bne_iff_ne];omega
           have HD:=Lib.hid hd
           clear hd
           go_wp2_with fail
           go_ret
           exact⟨ret_b (FN.out fun hf=>HD.out (way_parts.1 (hf.2 j y HY.out)).2.2.1).symm,by(repeat(first|assumption|(refine Below.alloc ?_ ?_ _;rotate_left;(omega))|(refine bl_more ?_ ?_ _ _;rotate_left;(simp only[sZ]<;>omega))))⟩
         ·have hb2:(y.line.v / 16 % (sn:Int) !=(k:Int))=true:=by rw[setNo_n c sn HL.out q1,bne_iff_ne];omega
          have HQ2:=Lib.hid hq2
          clear hq2
          go_wp2_with (first|((with_reducible refine gAl 46 ?_);refine alloc_row (wyC wyZ) zero46 rfl rfl ?_;try simp only[Act.put,xA,xB,xC,fR])|((with_reducible refine gD (Op.store 46 _ _) ?_);apply store_row row46 rfl _ _ rfl _ (wyC _) rfl rfl (wyC_size _) (wyC_ones _) (t:=46) (old:=wyC _) (h2:=wyC_size _);(·(repeat((refine heap_at _ _ _ ?_;(with_reducible rfl)))));try simp only[Act.put,xA,xB,xC,fR];try simp (disch:=(first|with_reducible rfl|fail)) only[more_row,alloc_row_past,alloc_row_at,drew_row,drewN_row])|((with_reducible refine gD (Op.load 46 _) ?_);refine take_el row46 rfl _ rfl g2 (off2+j*3) rfl y (wyC_size y) HC2.out ?_;try simp only[Act.put,xA,xB,xC,fR]))
          (refine wp_named ?_;intro W hW;have hG:W.heap[wr.heap.size]?=some (.cells (wyC y) _ (0,0)):=(by rw[hW];(repeat((refine heap_at _ _ _ ?_;(with_reducible rfl)))));have hG2:W.heap[w.heap.size]?=some (.cells (ccC ⟨c.ways,⟨some ⟨g,off,none⟩,sn,sc⟩⟩) _ (0,0)):=(by rw[hW];(repeat(first|assumption|(refine(heap_past _ _ _ ?_).trans ?_;(omega)))));have hlt:wr.heap.size<W.heap.size:=(Array.getElem?_eq_some_iff.1 hG).1;have hlt2:w.heap.size<W.heap.size:=(Array.getElem?_eq_some_iff.1 hG2).1;have hBW:Below wr.heap.size wr W:=(by rw[hW];(repeat(first|exact Below.refl _ _|(refine Below.alloc ?_ ?_ _;rotate_left;(omega)))));have hR:=Lib.hid (RowAt.of hG);have hR2:=Lib.hid (RowAt.of hG2);have hW':=Lib.hid hW;clear hW;go_region_held3 (fun w'=>(∀ j,w'.cell? ⟨wr.heap.size,j,none⟩=(wyC y)[j]?)∧(∀ j,w'.cell? ⟨w.heap.size,j,none⟩=(ccC ⟨c.ways,⟨some ⟨g,off,none⟩,sn,sc⟩⟩)[j]?)∧Below W.heap.size W w') (first|(exact start2d hR.out hR2.out)|(exact keep2 (by assumption) (by assumption) hlt hlt2)|fail) ((first|(go_at_call 28;refine(line_any' y.line _).mono ?_;rintro r w' ⟨rfl,rfl⟩)|(go_at_call 29;refine(setOf_any c.ways ⟨some ⟨g,off,none⟩,sn,sc⟩ y.line _ q1 hn).mono ?_;rintro r w' ⟨rfl,hg⟩)));rename_i hS;obtain⟨oS,kS,rfl⟩:=more_of hS.2.2;clear hS hR hR2 hG hG2 hlt hlt2 hBW;have hW:=hW'.out;clear hW';subst hW)
          go_wp2_with fail
          go_ret
          exact⟨ret_b (FN.out fun hf=>HQ2.out (way_parts.1 (hf.2 j y HY.out)).2.1).symm,by(repeat(first|assumption|(refine Below.alloc ?_ ?_ _;rotate_left;(omega))|(refine bl_more ?_ ?_ _ _;rotate_left;(simp only[sZ]<;>omega))))⟩
        ·have hb:((lineU y.line).v != y.line.v)=true:=by rw[bne_iff_ne];exact fun e=>hq (U.eq_of e)
         have HQ:=Lib.hid hq
         clear hq
         go_wp2_with (first|((with_reducible refine gAl 46 ?_);refine alloc_row (wyC wyZ) zero46 rfl rfl ?_;try simp only[Act.put,xA,xB,xC,fR])|((with_reducible refine gD (Op.store 46 _ _) ?_);apply store_row row46 rfl _ _ rfl _ (wyC _) rfl rfl (wyC_size _) (wyC_ones _) (t:=46) (old:=wyC _) (h2:=wyC_size _);(·(repeat((refine heap_at _ _ _ ?_;(with_reducible rfl)))));try simp only[Act.put,xA,xB,xC,fR];try simp (disch:=(first|with_reducible rfl|fail)) only[more_row,alloc_row_past,alloc_row_at,drew_row,drewN_row])|((with_reducible refine gD (Op.load 46 _) ?_);refine take_el row46 rfl _ rfl g2 (off2+j*3) rfl y (wyC_size y) HC2.out ?_;try simp only[Act.put,xA,xB,xC,fR]))
         go_quiet ((go_at_call 28;exact Calls.quiet_of_same ((line_any' y.line _).mono fun _ _ h=>⟨h.1,h.2.symm⟩)))
         go_wp2_with fail
         go_ret
         exact⟨ret_b (FN.out fun hf=>HQ.out (way_parts.1 (hf.2 j y HY.out)).1).symm,by(repeat(first|assumption|(refine Below.alloc ?_ ?_ _;rotate_left;(omega))|refine bl_drewN ?_ _))⟩
       ·have hjn:j=tn:=by omega
        subst hjn
        have hbc2:∀ j,wr.cell? ⟨w.heap.size,j,none⟩=(ccC ⟨c.ways,⟨some ⟨g,off,none⟩,sn,sc⟩⟩)[j]?:=fun j=>cell_of_row wr _ j _ _ _ hbx2
        go_wp2
        go_roundw
        case rel=>exact⟨k+1,by omega,by go_num,Lib.hid (fun i M hM hi=>by
         by_cases q:i=k
         ·subst q
          have:=hM.symm.trans HLk.out
          simp only[Option.some.injEq]at this
          subst this
          exact⟨by rw[HLL.out];exact hlen,fun m z hz=>HJ.out m z hz (by have:=(List.getElem?_eq_some_iff.1 hz).1;rw[HLL.out]at this;exact this)⟩
         ·exact HG.out i M hM (by omega)),HB.trans (HB2.mono (by omega))⟩
        case measure=>simp[intOf];omega
     ·have HLN:=Lib.hid hlen
      go_wp2
      go_ret
      exact⟨ret_b (FN.out fun hf=>by have:=hf.1;rw[HLL.out]at this;exact absurd this (by have:=HLN.out;omega)).symm,hBwo⟩
    ·have hkn:k=sn:=by omega
     subst hkn
     go_wp2
     go_ret
     exact⟨ret_b (right_iff.2 ⟨⟨by rw[HL.out];exact HS.out,HWy.out⟩,fun i L h=>HG.out i L h (by have:=(List.getElem?_eq_some_iff.1 h).1;rw[HL.out]at this;exact this)⟩).symm,hBwo⟩
 ·have HN:=Lib.hid (show rightC c=false from Bool.eq_false_iff.2 fun hr=>hs (by have:=(right_iff.1 hr).1;rw[HL.out]at this;exact this))
  by_cases h1:sn=1∨sn=2∨sn=4
  ·have e1:(c.ways != 1)=true:=by rw[bne_iff_ne];omega
   have e2:(c.ways != 2)=true:=by rw[bne_iff_ne];omega
   clear hs
   rcases h1 with h1|h1|h1
   ·have d1:((sn:Int) != 1)=false:=by rw[h1];rfl
    clear h1
    go_enter Tryz.func9,Tryz.ntmps9
    go_wp2
    go_ret
    exact⟨ret_b HN.out.symm,by(repeat(first|exact Below.refl _ _|(refine Below.alloc ?_ ?_ _;rotate_left;(omega))))⟩
   ·have d1:((sn:Int) != 1)=true:=by rw[h1];rfl
    have d2:((sn:Int) != 2)=false:=by rw[h1];rfl
    clear h1
    go_enter Tryz.func9,Tryz.ntmps9
    go_wp2
    go_ret
    exact⟨ret_b HN.out.symm,by(repeat(first|exact Below.refl _ _|(refine Below.alloc ?_ ?_ _;rotate_left;(omega))))⟩
   ·have d1:((sn:Int) != 1)=true:=by rw[h1];rfl
    have d2:((sn:Int) != 2)=true:=by rw[h1];rfl
    have d4:((sn:Int) != 4)=false:=by rw[h1];rfl
    clear h1
    go_enter Tryz.func9,Tryz.ntmps9
    go_wp2
    go_ret
    exact⟨ret_b HN.out.symm,by(repeat(first|exact Below.refl _ _|(refine Below.alloc ?_ ?_ _;rotate_left;(omega))))⟩
  ·have d1:((sn:Int) != 1)=true:=by rw[bne_iff_ne];omega
   have d2:((sn:Int) != 2)=true:=by rw[bne_iff_ne];omega
   have d4:((sn:Int) != 4)=true:=by rw[bne_iff_ne];omega
   clear h1 hs
   go_enter Tryz.func9,Tryz.ntmps9
   go_wp2
   go_ret
   exact⟨ret_b HN.out.symm,by(repeat(first|exact Below.refl _ _|(refine Below.alloc ?_ ?_ _;rotate_left;(omega))))⟩
theorem cright_any(s:Sv)(c:Ca)(w:World)(hc:CaR w s c):Calls Tryz.prog 9 #[caV c.ways s] w fun e w'=>e= .returned (.bool (rightC c))∧Below w.heap.size w w':=right_at s.a s.n s.c c w hc
theorem ret_ii{a b a' b':Int}{x y:Bool}(h1:a=a')(h2:b=b')(h3:x=y):Ending.returned (.tuple #[.int .i64 a,.int .i64 b,.bool x])= .returned (.tuple #[.int .i64 a',.int .i64 b',.bool y]):=by rw[h1,h2,h3]
def FinP(c:Ca)(line:U)(w:World)(e:Ending)(w':World):Prop:=e= .returned (.tuple #[.int .i64 ((findC c line).1:Int),.int .i64 ((findC c line).2.1:Int),.bool (findC c line).2.2])∧Below w.heap.size w w'
theorem setNo_lt{c:Ca}{line:U}{n:Nat}(h:c.sets.length=n)(h1:1≤n):setNo c line<n:=by
 have h0:=Int.emod_nonneg (line.v / 16) (b:=(n:Int)) (by omega)
 have h2:=Int.emod_lt_of_pos (line.v / 16) (b:=(n:Int)) (by omega)
 unfold setNo
 rw[h]
 omega
theorem find_at(sa:Option Addr)(sn sc:Nat)(c:Ca)(line:U)(w:World)(hc:CaR w ⟨sa,sn,sc⟩ c):Calls Tryz.prog 67 #[caV c.ways ⟨sa,sn,sc⟩,.int .u32 line.v] w (FinP c line w):=by
 have hl:=hc.len
 have hn:=hc.few
 simp only at hl hn
 have x0:=line.lo
 have x1:=line.hi
 have y0:=(lineU line).lo
 have y1:=(lineU line).hi
 have RI:=Lib.hid (fun W (h:Below w.heap.size w W)=>cright_any ⟨sa,sn,sc⟩ c W (hc.below h))
 cases hr:rightC c with
 | false=>
  have E:=Lib.hid (show findC c line=(0,0,false) by unfold findC;rw[hr];rfl)
  have HR:=Lib.hid hr
  clear hr hc
  go_enter Tryz.func67,Tryz.ntmps67
  go_wp2_with ((go_at_call 9;refine(RI.out _ (by(repeat(first|exact Below.refl _ _|(refine Below.alloc ?_ ?_ _;rotate_left;(omega)))))).mono ?_;rw[HR.out];rintro r w1 ⟨rfl,hb⟩;obtain⟨ow,kw,rfl⟩:=more_of hb;clear hb))
  go_ret3
  exact⟨by rw[E.out];rfl,by(repeat(first|exact Below.refl _ _|(refine Below.alloc ?_ ?_ _;rotate_left;(omega))|(refine bl_more ?_ ?_ _ _;rotate_left;(simp only[sZ]<;>omega))))⟩
 | true=>
  have q1:1≤sn:=by have:=(right_iff.1 hr).1.1;omega
  have hk:=setNo_lt (line:=lineU line) hl q1
  obtain⟨g,off,⟨ta,tn,tc⟩,L,e0,hg,hLk,hcell,hSl,hWf⟩:=hc.at_ hk
  simp only at e0 hcell hSl hWf
  subst e0
  have E:=Lib.hid (show findC c line=(setNo c (lineU line),(placeW L (lineU line)).1,(placeW L (lineU line)).2) by
   unfold findC
   rw[hr]
   simp[List.getD_eq_getElem?_getD,hLk])
  have HR:=Lib.hid hr
  have HSl:=Lib.hid hSl
  have EK:=Lib.hid (setNo_n c sn hl q1 (lineU line))
  obtain⟨k,hkk⟩:∃ k,setNo c (lineU line)=k:=⟨_,rfl⟩
  rw[hkk]at hk EK E hcell
  clear hr hc hLk hSl hWf hl hkk
  go_enter Tryz.func67,Tryz.ntmps67
  go_wp2_with (first|(go_at_call 9;refine(RI.out _ (by(repeat(first|exact Below.refl _ _|(refine Below.alloc ?_ ?_ _;rotate_left;(omega)))))).mono ?_;rw[HR.out];rintro r w1 ⟨rfl,hb⟩;obtain⟨ow,kw,rfl⟩:=more_of hb;clear hb)|(go_at_call 28;refine(line_any' _ _).mono ?_;rintro r w1 ⟨rfl,rfl⟩)|(go_at_call 29;refine(setOf_any c.ways ⟨some ⟨g,off,none⟩,sn,sc⟩ (lineU line) _ q1 hn).mono ?_;rw[EK.out];rintro r w1 ⟨rfl,hb⟩;obtain⟨ow2,kw2,rfl⟩:=more_of hb;clear hb)|(go_at_call 30;refine(place_any ta tn tc L (lineU line) _ (HSl.out.below (by(repeat(first|exact Below.refl _ _|(refine Below.alloc ?_ ?_ _;rotate_left;(omega))|(refine bl_more ?_ ?_ _ _;rotate_left;(simp only[sZ]<;>omega))))))).mono ?_;unfold PlP;rintro r w1 ⟨rfl,hb⟩;obtain⟨ow3,kw3,rfl⟩:=more_of hb;clear hb))
  go_ret3
  exact⟨ret_ii (by rw[E.out]) (by rw[E.out]) (by rw[E.out]),by(repeat(first|exact Below.refl _ _|(refine Below.alloc ?_ ?_ _;rotate_left;(omega))|(refine bl_more ?_ ?_ _ _;rotate_left;(simp only[sZ]<;>omega))))⟩
theorem find_any(s:Sv)(c:Ca)(line:U)(w:World)(hc:CaR w s c):Calls Tryz.prog 67 #[caV c.ways s,.int .u32 line.v] w (FinP c line w):=find_at s.a s.n s.c c line w hc
def CaP(X:Nat→Prop)(c:Ca)(w:World)(e:Ending)(w':World):Prop:=∃ s',e= .returned (caV c.ways s')∧CaX X w' s' c∧Below w.heap.size w w'
theorem touch_at(X:Nat→Prop)(sa:Option Addr)(sn sc:Nat)(c:Ca)(line:U)(w:World)(hX:∀ j,w.heap.size≤j→X j)(hc:CaX X w ⟨sa,sn,sc⟩ c):Calls Tryz.prog 71 #[caV c.ways ⟨sa,sn,sc⟩,.int .u32 line.v] w (CaP X (touchC c line) w):=by
 have hl:=hc.toR.len
 have hn:=hc.toR.few
 simp only at hl hn
 have HC:=Lib.hid hc
 have HX:=Lib.hid hX
 clear hX
 have FI:=Lib.hid (fun W (h:Below w.heap.size w W)=>find_any ⟨sa,sn,sc⟩ c line W (hc.toR.below h))
 cases hf:(findC c line).2.2 with
 | false=>
  have E:=Lib.hid (show touchC c line=c by unfold touchC;simp[hf])
  have HF:=Lib.hid hf
  clear hf hc
  go_enter Tryz.func71,Tryz.ntmps71
  go_wp2_with (first|((with_reducible refine gAl 35 ?_);refine alloc_row (ccC ccZ) zero35 rfl rfl ?_;try simp only[Act.put,xA,xB,xC,fR])|(go_at_call 67;refine(FI.out _ (by(repeat(first|exact Below.refl _ _|(refine Below.alloc ?_ ?_ _;rotate_left;(first|omega|(simp only[sZ]<;>omega))))))).mono ?_;unfold FinP;rw[HF.out];rintro r w1 ⟨rfl,hb⟩;obtain⟨ow,kw,rfl⟩:=more_of hb;clear hb))
  apply ret_c2 row35 rfl (w.heap.size+1) (ccC ⟨c.ways,⟨sa,sn,sc⟩⟩) rfl (ccC_size _) (hd:=rfl)
  ·apply cc_cells<;>simp[go_sem]
  refine⟨⟨sa,sn,sc⟩,by rw[E.out];rfl,?_,by(repeat(first|exact Below.refl _ _|(refine Below.alloc ?_ ?_ _;rotate_left;(first|omega|(simp only[sZ]<;>omega)))|(refine bl_more ?_ ?_ _ _;rotate_left;(simp only[sZ]<;>omega))))⟩
  rw[E.out]
  exact HC.out.below (by(repeat(first|exact Below.refl _ _|(refine Below.alloc ?_ ?_ _;rotate_left;(first|omega|(simp only[sZ]<;>omega)))|(refine bl_more ?_ ?_ _ _;rotate_left;(simp only[sZ]<;>omega)))))
 | true=>
  obtain⟨k,at_,hk⟩:∃ k at_,findC c line=(k,at_,true):=⟨_,_,by rw[← hf]⟩
  have hr:rightC c=true:=by
   cases h:rightC c with
   | true=>rfl
   | false=>unfold findC at hf;rw[h]at hf;cases hf
  have q1:1≤sn:=by have:=(right_iff.1 hr).1.1;omega
  have hke:setNo c (lineU line)=k∧placeW (c.sets.getD k []) (lineU line)=(at_,true):=by
   unfold findC at hk
   rw[hr]at hk
   simp only[if_true,Prod.mk.injEq]at hk
   obtain⟨h1,h2,h3⟩:=hk
   subst h1
   exact⟨rfl,Prod.ext h2 h3⟩
  have hks:k<sn:=by rw[← hke.1];exact setNo_lt hl q1
  obtain⟨g,off,⟨ta,tn,tc⟩,L,e0,hg,hLk,hcell,hSl,hWf⟩:=hc.toR.at_ hks
  simp only at e0 hcell hSl hWf
  subst e0
  have hgd:c.sets.getD k []=L:=by rw[List.getD_eq_getElem?_getD,hLk];rfl
  have hpl:=hke.2
  rw[hgd]at hpl
  have hat:at_<tn:=by
   have:=place_lt L _ hpl
   rw[hSl.len]at this
   exact this
  have E:=Lib.hid (show touchC c line=withC c k (frontW L at_) by unfold touchC;rw[hk];simp only[if_true];rw[hgd])
  have HK:=Lib.hid hk
  have HSl:=Lib.hid hSl
  have HN:=Lib.hid hWf.nil
  have htc:=hWf.le
  clear hf hc hk hr hke hLk hSl hWf hgd hpl hl
  go_enter Tryz.func71,Tryz.ntmps71
  go_wp2_with (first|((with_reducible refine gAl 35 ?_);refine alloc_row (ccC ccZ) zero35 rfl rfl ?_;try simp only[Act.put,xA,xB,xC,fR])|(go_at_call 67;refine(FI.out _ (by(repeat(first|exact Below.refl _ _|(refine Below.alloc ?_ ?_ _;rotate_left;(first|omega|(simp only[sZ]<;>omega))))))).mono ?_;unfold FinP;rw[HK.out];rintro r w1 ⟨rfl,hb⟩;obtain⟨ow,kw,rfl⟩:=more_of hb;clear hb))
  (refine wp_named ?_;intro W hW;have hG0:W.heap[w.heap.size]?=some (.cells (ccC ⟨c.ways,⟨some ⟨g,off,none⟩,sn,sc⟩⟩) _ (0,0)):=(by rw[hW];(repeat(first|(refine heap_at _ _ _ ?_;(with_reducible rfl))|(refine(more_heap' _ _ _ _ ?_).trans ?_;(simp only[sZ]<;>omega))|(refine(heap_past _ _ _ ?_).trans ?_;(simp only[sZ]<;>omega)))));obtain⟨hlt0,hc0,hd0,hf0,he0⟩:=nmF hG0;have hG2:W.heap[w.heap.size+1]?=some (.cells (ccC ccZ) _ (0,0)):=(by rw[hW];(repeat(first|(refine heap_at _ _ _ ?_;(simp only[sZ]<;>omega))|(refine(more_heap' _ _ _ _ ?_).trans ?_;(simp only[sZ]<;>omega)))));obtain⟨hlt2,hc2,hd2,hf2,he2⟩:=nmF hG2;have hBW:Below w.heap.size w W:=(by rw[hW];(repeat(first|exact Below.refl _ _|(refine Below.alloc ?_ ?_ _;rotate_left;(first|omega|(simp only[sZ]<;>omega)))|(refine bl_more ?_ ?_ _ _;rotate_left;(simp only[sZ]<;>omega)))));have hBWd:=hBW.drew;have hsW:=hBW.size;clear hW)
  have q1:W.cell? ⟨g,off+k,none⟩=some (.slice ta tn tc):=(hBW.cell (p:=⟨g,off+k,none⟩) hg).trans hcell
  have q2:W.drew.cell? ⟨g,off+k,none⟩=some (.slice ta tn tc):=q1
  have HCX:=Lib.hid (HC.out.mono (Y:=fun j=>X j∧j≠w.heap.size+1) (fun j h1 h2=>⟨h1,by omega⟩))
  have HXW:=Lib.hid (show ∀ j,W.heap.size≤j→X j∧j≠w.heap.size+1 from fun j hj=>⟨HX.out j (by omega),by omega⟩)
  go_region_with ((first|(go_at_call 83;refine(front_any ta tn tc L at_ _ (HSl.out.below (by(repeat(assumption)))) HN.out htc hat).mono ?_;rintro r w1 ⟨v,rfl,ho,hb⟩;obtain⟨A',C',rfl,f1,f2,f3⟩:=ho.sl2 wyC_size;obtain⟨ow3,kw3,rfl⟩:=more_of hb;clear hb ho)|(go_at_call 84;refine(with_any (fun j=>X j∧j≠w.heap.size+1) ⟨some ⟨g,off,none⟩,sn,sc⟩ c k ⟨A',(frontW L at_).length,C'⟩ (frontW L at_) _ (fun j hj=>HXW.out j (by simp only[more_size,World.size_drew]at hj;omega)) (HCX.out.below (by(repeat(first|assumption|(refine bl_more ?_ ?_ _ _;rotate_left;(simp only[sZ]<;>omega)))))) hks f1 f2 (fun _ p hp=>HXW.out _ (f3 p hp))).mono ?_;rintro r w1 ⟨⟨s1,s2,s3⟩,rfl,hca,hb⟩;obtain⟨ow4,kw4,rfl⟩:=more_of hb;clear hb)))
  all_goals
   go_wp2
   apply ret_c2 row35 rfl (w.heap.size+1) (ccC ⟨c.ways,⟨s1,s2,s3⟩⟩) rfl (ccC_size _) (hd:=rfl)
   ·apply cc_cells<;>simp[go_sem,hc2,hlt2]
   refine⟨⟨s1,s2,s3⟩,by rw[E.out];rfl,?_,?_⟩
   ·rw[E.out]
    (try rw[more_more]at hca)
    refine(hca.same (X:=fun j=>X j∧j≠w.heap.size+1) (by simp only[more_size,World.size_setCell,World.size_drew];omega) (fun j hj=>?_)).mono (fun j h _=>h.1)
    exact more_off (X:=W.drew) (by simp only[World.size_setCell,World.size_drew]) (off2 W _ _ _) _ _ _ hj.2
   ·exact bl_more ((hBW.setCell (p:=⟨w.heap.size+1,0,none⟩) (Nat.le_succ _) _).setCell (p:=⟨w.heap.size+1,1,none⟩) (Nat.le_succ _) _) (by simp only[World.size_setCell];omega) _ _
theorem touch_any(X:Nat→Prop)(s:Sv)(c:Ca)(line:U)(w:World)(hX:∀ j,w.heap.size≤j→X j)(hc:CaX X w s c):Calls Tryz.prog 71 #[caV c.ways s,.int .u32 line.v] w (CaP X (touchC c line) w):=touch_at X s.a s.n s.c c line w hX hc
theorem find_parts{w:World}{sa:Option Addr}{sn sc:Nat}{c:Ca}{line:U}{k at_:Nat}(hc:CaR w ⟨sa,sn,sc⟩ c)(hk:findC c line=(k,at_,true)):∃(g off:Nat) (ta:Option Addr) (tn tc:Nat) (L:List Wy) (y:Wy),sa=some ⟨g,off,none⟩∧g<w.heap.size∧k<sn∧c.sets[k]?=some L∧c.sets.getD k []=L∧w.cell? ⟨g,off+k,none⟩=some (.slice ta tn tc)∧Sl wyC 3 w ta tn L∧Wf ta tn tc∧at_<tn∧L[at_]?=some y∧rightC c=true∧setNo c (lineU line)=k∧placeW L (lineU line)=(at_,true):=by
 have hl:=hc.len
 simp only at hl
 have hr:rightC c=true:=by
  cases h:rightC c with
  | true=>rfl
  | false=>unfold findC at hk;rw[h]at hk;cases hk
 have q1:1≤sn:=by have:=(right_iff.1 hr).1.1;omega
 have hke:setNo c (lineU line)=k∧placeW (c.sets.getD k []) (lineU line)=(at_,true):=by
  unfold findC at hk
  rw[hr]at hk
  simp only[if_true,Prod.mk.injEq]at hk
  obtain⟨h1,h2,h3⟩:=hk
  subst h1
  exact⟨rfl,Prod.ext h2 h3⟩
 have hks:k<sn:=by rw[← hke.1];exact setNo_lt hl q1
 obtain⟨g,off,⟨ta,tn,tc⟩,L,e0,hg,hLk,hcell,hSl,hWf⟩:=hc.at_ hks
 have hgd:c.sets.getD k []=L:=by rw[List.getD_eq_getElem?_getD,hLk];rfl
 have hpl:=hke.2
 rw[hgd]at hpl
 have hat:at_<L.length:=place_lt L _ hpl
 exact⟨g,off,ta,tn,tc,L,L[at_],e0,hg,hks,hLk,hgd,hcell,hSl,hWf,by have:=hSl.len;simp only at this;omega,List.getElem?_eq_getElem hat,hr,hke.1,hpl⟩
theorem clean_at(X:Nat→Prop)(sa:Option Addr)(sn sc:Nat)(c:Ca)(line:U)(w:World)(hX:∀ j,w.heap.size≤j→X j)(hc:CaX X w ⟨sa,sn,sc⟩ c):Calls Tryz.prog 74 #[caV c.ways ⟨sa,sn,sc⟩,.int .u32 line.v] w (CaP X (cleanC c line) w):=by
 have hz:(Tryz.prog.info? 46).map (fun i=>i.zero.map (·.cells))=some (some (wyC wyZ)):=by kernel_rfl
 have hn:=hc.toR.few
 simp only at hn
 have HC:=Lib.hid hc
 have HX:=Lib.hid hX
 have FI:=Lib.hid (fun W (h:Below w.heap.size w W)=>find_any ⟨sa,sn,sc⟩ c line W (hc.toR.below h))
 cases hf:(findC c line).2.2 with
 | false=>
  have E:=Lib.hid (show cleanC c line=c by unfold cleanC;simp[hf])
  have HF:=Lib.hid hf
  clear hf hc hX
  go_enter Tryz.func74,Tryz.ntmps74
  go_wp2_with (first|((with_reducible refine gAl 35 ?_);refine alloc_row (ccC ccZ) zero35 rfl rfl ?_;try simp only[Act.put,xA,xB,xC,fR])|(go_at_call 67;refine(FI.out _ (by(repeat(first|exact Below.refl _ _|(refine Below.alloc ?_ ?_ _;rotate_left;(first|omega|(simp only[sZ]<;>omega))))))).mono ?_;unfold FinP;rw[HF.out];rintro r w1 ⟨rfl,hb⟩;obtain⟨ow,kw,rfl⟩:=more_of hb;clear hb))
  apply ret_c2 row35 rfl (w.heap.size+1) (ccC ⟨c.ways,⟨sa,sn,sc⟩⟩) rfl (ccC_size _) (hd:=rfl)
  ·apply cc_cells<;>simp[go_sem]
  refine⟨⟨sa,sn,sc⟩,by rw[E.out];rfl,?_,by(repeat(first|exact Below.refl _ _|(refine Below.alloc ?_ ?_ _;rotate_left;(first|omega|(simp only[sZ]<;>omega)))|(refine bl_more ?_ ?_ _ _;rotate_left;(simp only[sZ]<;>omega))))⟩
  rw[E.out]
  exact HC.out.below (by(repeat(first|exact Below.refl _ _|(refine Below.alloc ?_ ?_ _;rotate_left;(first|omega|(simp only[sZ]<;>omega)))|(refine bl_more ?_ ?_ _ _;rotate_left;(simp only[sZ]<;>omega)))))
 | true=>
  obtain⟨k,at_,hk⟩:∃ k at_,findC c line=(k,at_,true):=⟨_,_,by rw[← hf]⟩
  obtain⟨g,off,ta,tn,tc,L,y,e0,hg,hks,hLk,hgd,hcell,hSl,hWf,hat,hy,hr,hsn,hpl⟩:=find_parts hc.toR hk
  subst e0
  have htn:=hSl.few
  have hll:=hSl.len
  have E:=Lib.hid (show cleanC c line=withC c k (L.set at_ { y with dirty:=false }) by
   unfold cleanC
   rw[hk]
   simp only[if_true,List.getD_eq_getElem?_getD,hLk,Option.getD_some,hy])
  have HK:=Lib.hid hk
  have HSl:=Lib.hid hSl
  have HWf:=Lib.hid hWf
  have HLL:=Lib.hid hll
  have HY:=Lib.hid hy
  clear hf hc hX hk hLk hgd hSl hWf hr hsn hpl hll hy
  go_enter Tryz.func74,Tryz.ntmps74
  go_upto_region 4 with((first|((with_reducible refine gAl 35 ?_);refine alloc_row (ccC ccZ) zero35 rfl rfl ?_;try simp only[Act.put,xA,xB,xC,fR])|(go_at_call 67;refine(FI.out _ (by(repeat(first|exact Below.refl _ _|(refine Below.alloc ?_ ?_ _;rotate_left;(first|omega|(simp only[sZ]<;>omega))))))).mono ?_;unfold FinP;rw[HK.out];rintro r w1 ⟨rfl,hb⟩;obtain⟨ow,kw,rfl⟩:=more_of hb;clear hb)))
  (refine wp_named ?_;intro W hW;have hG0:W.heap[w.heap.size]?=some (.cells (ccC ⟨c.ways,⟨some ⟨g,off,none⟩,sn,sc⟩⟩) _ (0,0)):=(by rw[hW];(repeat(first|(refine heap_at _ _ _ ?_;(with_reducible rfl))|(refine(more_heap' _ _ _ _ ?_).trans ?_;(simp only[sZ]<;>omega))|(refine(heap_past _ _ _ ?_).trans ?_;(simp only[sZ]<;>omega)))));obtain⟨hlt0,hc0,hd0,hf0,he0⟩:=nmF hG0;have hG2:W.heap[w.heap.size+1]?=some (.cells (ccC ccZ) _ (0,0)):=(by rw[hW];(repeat(first|(refine heap_at _ _ _ ?_;(simp only[sZ]<;>omega))|(refine(more_heap' _ _ _ _ ?_).trans ?_;(simp only[sZ]<;>omega)))));obtain⟨hlt2,hc2,hd2,hf2,he2⟩:=nmF hG2;have hBW:Below w.heap.size w W:=(by rw[hW];(repeat(first|exact Below.refl _ _|(refine Below.alloc ?_ ?_ _;rotate_left;(first|omega|(simp only[sZ]<;>omega)))|(refine bl_more ?_ ?_ _ _;rotate_left;(simp only[sZ]<;>omega)))));have hBWd:=hBW.drew;have hsW:=hBW.size;clear hW)
  have q1:W.cell? ⟨g,off+k,none⟩=some (.slice ta tn tc):=(hBW.cell (p:=⟨g,off+k,none⟩) hg).trans hcell
  have hgW:g<W.heap.size:=by omega
  have ne0:¬ w.heap.size=W.heap.size:=by omega
  have ne2:¬ w.heap.size+1=W.heap.size:=by omega
  have neg:¬ g=W.heap.size:=by omega
  have HCX:=Lib.hid (HC.out.mono (Y:=fun j=>X j∧j≠w.heap.size+1) (fun j h1 h2=>⟨h1,by omega⟩))
  have HXW:=Lib.hid (show ∀ j,W.heap.size≤j→X j∧j≠w.heap.size+1 from fun j hj=>⟨HX.out j (by omega),by omega⟩)
  have at0:(0:Int)≤(at_:Int):=by omega
  have at1:(at_:Int)<(tn:Int):=by omega
  go_wp2_with (first|((with_reducible refine gD (Op.makeSlice 51 _ _) ?_);refine full_sl (α:=Wy) (lay:=wyC) slT51 wyZ hz wyC_size rfl _ _ rfl w.heap.size .i64 .i64 tn tn tn rfl rfl rfl rfl htn hsW ?_;intro v1 w1 h1 e1 g1;subst e1;obtain⟨oF,kF,rfl⟩:=more_of (bl_own (Below.refl _ _) g1 (Nat.le_refl _) (fun k h=>by cases h));clear g1;have HO:=Lib.hid h1;clear h1;try simp only[Act.put,xA,xB,xC,fR])|((with_reducible refine gD (Op.call { callee:=Callee.builtin Builtin.copy,args:=_,argTypes:=_ }) ?_);(refine copy_sl (α:=Wy) (lay:=wyC) slT51 wyC_size wyC_ones rfl _ _ rfl w.heap.size (.slice (some ⟨W.heap.size,0,none⟩) tn tn) _ rfl HO.out ta tn tc L rfl (HSl.out.below (by(repeat(first|assumption|(refine bl_more ?_ ?_ _ _;rotate_left;(omega)))))) (by simp) ?_);intro w2 h2 g2;(obtain⟨oC,kC,rfl⟩:=more_of (bl_own (B:=W.heap.size) (a:=W) (bl_more (Below.refl _ _) (Nat.le_refl _) _ _) g2 (by simp only[more_size];omega) (fun b h=>by simp only[Value.ownBlock,Option.some.injEq]at h;omega));clear g2;obtain⟨r0,r1⟩:=own_cell h2 wyC_size HY.out (j:=1) (u:=.bool y.dirty) rfl;have HO2:=Lib.hid h2;clear h2);try simp only[Act.put,xA,xB,xC,fR])|(go_at_call 84;(have hO3:=(HO2.out.set wyC_size HY.out (x':={ y with dirty:=false }) (u:=.bool false) (j:=1) (by decide) rfl).slv wyC_size;have hB3:Below w.heap.size w ((more W oC kC).setCell ⟨W.heap.size,at_*3+1,none⟩ (.bool false)):=((bl_more hBW hsW oC kC).setCell (p:=⟨W.heap.size,at_*3+1,none⟩) hsW _);refine(with_any (fun j=>X j∧j≠w.heap.size+1) ⟨some ⟨g,off,none⟩,sn,sc⟩ c k ⟨some ⟨W.heap.size,0,none⟩,tn,tn⟩ (L.set at_ { y with dirty:=false }) _ (fun j hj=>HXW.out j (by simp only[World.size_setCell,more_size]at hj;omega)) (HCX.out.below hB3) hks hO3.1 hO3.2.1 (fun _ p hp=>by cases hp;exact HXW.out _ (Nat.le_refl _))).mono ?_);rintro r w1 ⟨⟨s1,s2,s3⟩,rfl,hca,hb⟩;obtain⟨ow4,kw4,rfl⟩:=more_of hb;clear hb hO3)|((with_reducible refine gD (Op.store 35 (.tmp 4) (.tmp 40)) ?_);refine store_row row35 rfl _ _ rfl (w.heap.size+1) (ccC ⟨c.ways,⟨s1,s2,s3⟩⟩) rfl rfl (ccC_size _) (ccC_ones _) (t:=35) (old:=ccC ccZ) (h2:=ccC_size _) ?_ ?_;(·(repeat(first|assumption|(refine(more_heap' _ _ _ _ ?_).trans ?_;(first|omega|(simp only[sZ]<;>omega)))|(refine(Below.heap_setCell _ _ _ _ ?_).trans ?_;(dsimp only;omega)))));try simp only[Act.put,xA,xB,xC,fR]))
  apply ret_row row35 rfl (w.heap.size+1) (ccC ⟨c.ways,⟨s1,s2,s3⟩⟩) rfl (ccC_size _) (t:=35) (fr:=(0,0)) (hd:=rfl)
  ·refine setRow_heap _ _ (ccC ccZ) _ 35 (0,0) ?_
   (repeat(first|assumption|(refine(more_heap' _ _ _ _ ?_).trans ?_;(first|omega|(simp only[sZ]<;>omega)))|(refine(Below.heap_setCell _ _ _ _ ?_).trans ?_;(dsimp only;omega))))
  refine⟨⟨s1,s2,s3⟩,by rw[E.out];rfl,?_,?_⟩
  ·rw[E.out]
   exact(hca.same (X:=fun j=>X j∧j≠w.heap.size+1) (by rw[row_size];exact Nat.le_refl _) (fun j hj=>row_other _ _ _ _ hj.2)).mono (fun j h _=>h.1)
  ·exact bl_row (bl_more ((bl_more hBW hsW oC kC).setCell (p:=⟨W.heap.size,at_*3+1,none⟩) hsW _) (by simp only[World.size_setCell,more_size];omega) _ _) (Nat.le_succ _) _
theorem clean_any(X:Nat→Prop)(s:Sv)(c:Ca)(line:U)(w:World)(hX:∀ j,w.heap.size≤j→X j)(hc:CaX X w s c):Calls Tryz.prog 74 #[caV c.ways s,.int .u32 line.v] w (CaP X (cleanC c line) w):=clean_at X s.a s.n s.c c line w hX hc
end Go.Proofs.YtdmhfogegfmnfaaGreatDoor
