/- Contracts: where a line stands in a cache. Conditions: the cache reads as one. Contracts: a line touched. Conditions: the cache reads as one. Contracts: a line that is clean again. Conditions: the cache reads as one. Contracts: bytes written into a line. Conditions: the cache reads as one. Contracts: memory with stores written into it. Conditions: the stores read as a list. -/
import Derived.Test.YtdmhfogegfmnfaaGreatDoorB01
import Derived.Test.YtdmhfogegfmnfaaGreatDoorB02
import Derived.Test.YtdmhfogegfmnfaaGreatDoorB03
import Derived.Test.YtdmhfogegfmnfaaGreatDoorB12
import Derived.BigRegion
import Derived.Deep.Cut
import Derived.Deep.RegionLaw
set_option maxRecDepth 100000
set_option maxHeartbeats 4000000
set_option linter.unusedVariables false
set_option linter.unusedSimpArgs false
namespace Go.Proofs.YtdmhfogegfmnfaaGreatDoor
open Go.RowKit
theorem ret_ii{a b a' b':Int}{x y:Bool}(h1:a=a')(h2:b=b')(h3:x=y):Ending.returned (.tuple #[.int .i64 a,.int .i64 b,.bool x])= .returned (.tuple #[.int .i64 a',.int .i64 b',.bool y]):=by rw[h1,h2,h3]
def FinP(c:Ca)(line:U)(w:World)(e:Ending)(w':World):Prop:=e= .returned (.tuple #[.int .i64 ((findC c line).1:Int),.int .i64 ((findC c line).2.1:Int),.bool (findC c line).2.2])∧Below w.heap.size w w'
theorem setNo_lt{c:Ca}{line:U}{n:Nat}(h:c.sets.length=n)(h1:1≤n):setNo c line<n:=by
 have h0:=Int.emod_nonneg (line.v / 16) (b:=(n:Int)) (by omega)
 have h2:=Int.emod_lt_of_pos (line.v / 16) (b:=(n:Int)) (by omega)
 unfold setNo
 rw[h]
 omega
theorem find_at(sa:Option Addr)(sn sc:Nat)(c:Ca)(line:U)(w:World)(hc:CaR w ⟨sa,sn,sc⟩ c):Calls Tryz.prog 67 #[caV c.ways ⟨sa,sn,sc⟩,.int .u32 line.v] w (FinP c line w):=by
 have hl:=hc.len
 have hn:=hc.few
 simp only at hl hn
 have x0:=line.lo
 have x1:=line.hi
 have y0:=(lineU line).lo
 have y1:=(lineU line).hi
 have RI:=Lib.hid (fun W (h:Below w.heap.size w W)=>cright_any ⟨sa,sn,sc⟩ c W (hc.below h))
 cases hr:rightC c with
 | false=>
  have E:=Lib.hid (show findC c line=(0,0,false) by unfold findC;rw[hr];rfl)
  have HR:=Lib.hid hr
  clear hr hc
  go_enter Tryz.func67,Tryz.ntmps67
  go_wp2_with ((go_at_call 9;refine(RI.out _ (by(repeat(first|exact Below.refl _ _|(refine Below.alloc ?_ ?_ _;rotate_left;(omega)))))).mono ?_;rw[HR.out];rintro r w1 ⟨rfl,hb⟩;obtain⟨ow,kw,rfl⟩:=more_of hb;clear hb))
  go_ret3
  exact⟨by rw[E.out];rfl,by(repeat(first|exact Below.refl _ _|(refine Below.alloc ?_ ?_ _;rotate_left;(omega))|(refine bl_more ?_ ?_ _ _;rotate_left;(simp only[sZ]<;>omega))))⟩
 | true=>
  have q1:1≤sn:=by have:=(right_iff.1 hr).1.1;omega
  have hk:=setNo_lt (line:=lineU line) hl q1
  obtain⟨g,off,⟨ta,tn,tc⟩,L,e0,hg,hLk,hcell,hSl,hWf⟩:=hc.at_ hk
  simp only at e0 hcell hSl hWf
  subst e0
  have E:=Lib.hid (show findC c line=(setNo c (lineU line),(placeW L (lineU line)).1,(placeW L (lineU line)).2) by
   unfold findC
   rw[hr]
   simp[List.getD_eq_getElem?_getD,hLk])
  have HR:=Lib.hid hr
  have HSl:=Lib.hid hSl
  have EK:=Lib.hid (setNo_n c sn hl q1 (lineU line))
  obtain⟨k,hkk⟩:∃ k,setNo c (lineU line)=k:=⟨_,rfl⟩
  rw[hkk]at hk EK E hcell
  clear hr hc hLk hSl hWf hl hkk
  go_enter Tryz.func67,Tryz.ntmps67
  go_wp2_with (first|(go_at_call 9;refine(RI.out _ (by(repeat(first|exact Below.refl _ _|(refine Below.alloc ?_ ?_ _;rotate_left;(omega)))))).mono ?_;rw[HR.out];rintro r w1 ⟨rfl,hb⟩;obtain⟨ow,kw,rfl⟩:=more_of hb;clear hb)|(go_at_call 28;refine(line_any' _ _).mono ?_;rintro r w1 ⟨rfl,rfl⟩)|(go_at_call 29;refine(setOf_any c.ways ⟨some ⟨g,off,none⟩,sn,sc⟩ (lineU line) _ q1 hn).mono ?_;rw[EK.out];rintro r w1 ⟨rfl,hb⟩;obtain⟨ow2,kw2,rfl⟩:=more_of hb;clear hb)|(go_at_call 30;refine(place_any ta tn tc L (lineU line) _ (HSl.out.below (by(repeat(first|exact Below.refl _ _|(refine Below.alloc ?_ ?_ _;rotate_left;(omega))|(refine bl_more ?_ ?_ _ _;rotate_left;(simp only[sZ]<;>omega))))))).mono ?_;unfold PlP;rintro r w1 ⟨rfl,hb⟩;obtain⟨ow3,kw3,rfl⟩:=more_of hb;clear hb))
  go_ret3
  exact⟨ret_ii (by rw[E.out]) (by rw[E.out]) (by rw[E.out]),by(repeat(first|exact Below.refl _ _|(refine Below.alloc ?_ ?_ _;rotate_left;(omega))|(refine bl_more ?_ ?_ _ _;rotate_left;(simp only[sZ]<;>omega))))⟩
theorem find_any(s:Sv)(c:Ca)(line:U)(w:World)(hc:CaR w s c):Calls Tryz.prog 67 #[caV c.ways s,.int .u32 line.v] w (FinP c line w):=find_at s.a s.n s.c c line w hc
def CaP(X:Nat→Prop)(c:Ca)(w:World)(e:Ending)(w':World):Prop:=∃ s',e= .returned (caV c.ways s')∧CaX X w' s' c∧Below w.heap.size w w'
theorem touch_at(X:Nat→Prop)(sa:Option Addr)(sn sc:Nat)(c:Ca)(line:U)(w:World)(hX:∀ j,w.heap.size≤j→X j)(hc:CaX X w ⟨sa,sn,sc⟩ c):Calls Tryz.prog 71 #[caV c.ways ⟨sa,sn,sc⟩,.int .u32 line.v] w (CaP X (touchC c line) w):=by
 have hl:=hc.toR.len
 have hn:=hc.toR.few
 simp only at hl hn
 have HC:=Lib.hid hc
 have HX:=Lib.hid hX
 clear hX
 have FI:=Lib.hid (fun W (h:Below w.heap.size w W)=>find_any ⟨sa,sn,sc⟩ c line W (hc.toR.below h))
 cases hf:(findC c line).2.2 with
 | false=>
  have E:=Lib.hid (show touchC c line=c by unfold touchC;simp[hf])
  have HF:=Lib.hid hf
  clear hf hc
  go_enter Tryz.func71,Tryz.ntmps71
  go_wp2_with (first|((with_reducible refine gAl 35 ?_);refine alloc_row (ccC ccZ) zero35 rfl rfl ?_;try simp only[Act.put,xA,xB,xC,fR])|(go_at_call 67;refine(FI.out _ (by(repeat(first|exact Below.refl _ _|(refine Below.alloc ?_ ?_ _;rotate_left;(first|omega|(simp only[sZ]<;>omega))))))).mono ?_;unfold FinP;rw[HF.out];rintro r w1 ⟨rfl,hb⟩;obtain⟨ow,kw,rfl⟩:=more_of hb;clear hb))
  apply ret_c2 row35 rfl (w.heap.size+1) (ccC ⟨c.ways,⟨sa,sn,sc⟩⟩) rfl (ccC_size _) (hd:=rfl)
  ·apply cc_cells<;>simp[go_sem]
  refine⟨⟨sa,sn,sc⟩,by rw[E.out];rfl,?_,by(repeat(first|exact Below.refl _ _|(refine Below.alloc ?_ ?_ _;rotate_left;(first|omega|(simp only[sZ]<;>omega)))|(refine bl_more ?_ ?_ _ _;rotate_left;(simp only[sZ]<;>omega))))⟩
  rw[E.out]
  exact HC.out.below (by(repeat(first|exact Below.refl _ _|(refine Below.alloc ?_ ?_ _;rotate_left;(first|omega|(simp only[sZ]<;>omega)))|(refine bl_more ?_ ?_ _ _;rotate_left;(simp only[sZ]<;>omega)))))
 | true=>
  obtain⟨k,at_,hk⟩:∃ k at_,findC c line=(k,at_,true):=⟨_,_,by rw[← hf]⟩
  have hr:rightC c=true:=by
   cases h:rightC c with
   | true=>rfl
   | false=>unfold findC at hf;rw[h]at hf;cases hf
  have q1:1≤sn:=by have:=(right_iff.1 hr).1.1;omega
  have hke:setNo c (lineU line)=k∧placeW (c.sets.getD k []) (lineU line)=(at_,true):=by
   unfold findC at hk
   rw[hr]at hk
   simp only[if_true,Prod.mk.injEq]at hk
   obtain⟨h1,h2,h3⟩:=hk
   subst h1
   exact⟨rfl,Prod.ext h2 h3⟩
  have hks:k<sn:=by rw[← hke.1];exact setNo_lt hl q1
  obtain⟨g,off,⟨ta,tn,tc⟩,L,e0,hg,hLk,hcell,hSl,hWf⟩:=hc.toR.at_ hks
  simp only at e0 hcell hSl hWf
  subst e0
  have hgd:c.sets.getD k []=L:=by rw[List.getD_eq_getElem?_getD,hLk];rfl
  have hpl:=hke.2
  rw[hgd]at hpl
  have hat:at_<tn:=by
   have:=place_lt L _ hpl
   rw[hSl.len]at this
   exact this
  have E:=Lib.hid (show touchC c line=withC c k (frontW L at_) by unfold touchC;rw[hk];simp only[if_true];rw[hgd])
  have HK:=Lib.hid hk
  have HSl:=Lib.hid hSl
  have HN:=Lib.hid hWf.nil
  have htc:=hWf.le
  clear hf hc hk hr hke hLk hSl hWf hgd hpl hl
  go_enter Tryz.func71,Tryz.ntmps71
  go_wp2_with (first|((with_reducible refine gAl 35 ?_);refine alloc_row (ccC ccZ) zero35 rfl rfl ?_;try simp only[Act.put,xA,xB,xC,fR])|(go_at_call 67;refine(FI.out _ (by(repeat(first|exact Below.refl _ _|(refine Below.alloc ?_ ?_ _;rotate_left;(first|omega|(simp only[sZ]<;>omega))))))).mono ?_;unfold FinP;rw[HK.out];rintro r w1 ⟨rfl,hb⟩;obtain⟨ow,kw,rfl⟩:=more_of hb;clear hb))
  (refine wp_named ?_;intro W hW;have hG0:W.heap[w.heap.size]?=some (.cells (ccC ⟨c.ways,⟨some ⟨g,off,none⟩,sn,sc⟩⟩) _ (0,0)):=(by rw[hW];(repeat(first|(refine heap_at _ _ _ ?_;(with_reducible rfl))|(refine(more_heap' _ _ _ _ ?_).trans ?_;(simp only[sZ]<;>omega))|(refine(heap_past _ _ _ ?_).trans ?_;(simp only[sZ]<;>omega)))));obtain⟨hlt0,hc0,hd0,hf0,he0⟩:=nmF hG0;have hG2:W.heap[w.heap.size+1]?=some (.cells (ccC ccZ) _ (0,0)):=(by rw[hW];(repeat(first|(refine heap_at _ _ _ ?_;(simp only[sZ]<;>omega))|(refine(more_heap' _ _ _ _ ?_).trans ?_;(simp only[sZ]<;>omega)))));obtain⟨hlt2,hc2,hd2,hf2,he2⟩:=nmF hG2;have hBW:Below w.heap.size w W:=(by rw[hW];(repeat(first|exact Below.refl _ _|(refine Below.alloc ?_ ?_ _;rotate_left;(first|omega|(simp only[sZ]<;>omega)))|(refine bl_more ?_ ?_ _ _;rotate_left;(simp only[sZ]<;>omega)))));have hBWd:=hBW.drew;have hsW:=hBW.size;clear hW)
  have q1:W.cell? ⟨g,off+k,none⟩=some (.slice ta tn tc):=(hBW.cell (p:=⟨g,off+k,none⟩) hg).trans hcell
  have q2:W.drew.cell? ⟨g,off+k,none⟩=some (.slice ta tn tc):=q1
  have HCX:=Lib.hid (HC.out.mono (Y:=fun j=>X j∧j≠w.heap.size+1) (fun j h1 h2=>⟨h1,by omega⟩))
  have HXW:=Lib.hid (show ∀ j,W.heap.size≤j→X j∧j≠w.heap.size+1 from fun j hj=>⟨HX.out j (by omega),by omega⟩)
  go_region_with ((first|(go_at_call 83;refine(front_any ta tn tc L at_ _ (HSl.out.below (by(repeat(assumption)))) HN.out htc hat).mono ?_;rintro r w1 ⟨v,rfl,ho,hb⟩;obtain⟨A',C',rfl,f1,f2,f3⟩:=ho.sl2 wyC_size;obtain⟨ow3,kw3,rfl⟩:=more_of hb;clear hb ho)|(go_at_call 84;refine(with_any (fun j=>X j∧j≠w.heap.size+1) ⟨some ⟨g,off,none⟩,sn,sc⟩ c k ⟨A',(frontW L at_).length,C'⟩ (frontW L at_) _ (fun j hj=>HXW.out j (by simp only[more_size,World.size_drew]at hj;omega)) (HCX.out.below (by(repeat(first|assumption|(refine bl_more ?_ ?_ _ _;rotate_left;(simp only[sZ]<;>omega)))))) hks f1 f2 (fun _ p hp=>HXW.out _ (f3 p hp))).mono ?_;rintro r w1 ⟨⟨s1,s2,s3⟩,rfl,hca,hb⟩;obtain⟨ow4,kw4,rfl⟩:=more_of hb;clear hb)))
  all_goals
   go_wp2
   apply ret_c2 row35 rfl (w.heap.size+1) (ccC ⟨c.ways,⟨s1,s2,s3⟩⟩) rfl (ccC_size _) (hd:=rfl)
   ·apply cc_cells<;>simp[go_sem,hc2,hlt2]
   refine⟨⟨s1,s2,s3⟩,by rw[E.out];rfl,?_,?_⟩
   ·rw[E.out]
    (try rw[more_more]at hca)
    refine(hca.same (X:=fun j=>X j∧j≠w.heap.size+1) (by simp only[more_size,World.size_setCell,World.size_drew];omega) (fun j hj=>?_)).mono (fun j h _=>h.1)
    exact more_off (X:=W.drew) (by simp only[World.size_setCell,World.size_drew]) (off2 W _ _ _) _ _ _ hj.2
   ·exact bl_more ((hBW.setCell (p:=⟨w.heap.size+1,0,none⟩) (Nat.le_succ _) _).setCell (p:=⟨w.heap.size+1,1,none⟩) (Nat.le_succ _) _) (by simp only[World.size_setCell];omega) _ _
theorem touch_any(X:Nat→Prop)(s:Sv)(c:Ca)(line:U)(w:World)(hX:∀ j,w.heap.size≤j→X j)(hc:CaX X w s c):Calls Tryz.prog 71 #[caV c.ways s,.int .u32 line.v] w (CaP X (touchC c line) w):=touch_at X s.a s.n s.c c line w hX hc
theorem find_parts{w:World}{sa:Option Addr}{sn sc:Nat}{c:Ca}{line:U}{k at_:Nat}(hc:CaR w ⟨sa,sn,sc⟩ c)(hk:findC c line=(k,at_,true)):∃(g off:Nat) (ta:Option Addr) (tn tc:Nat) (L:List Wy) (y:Wy),sa=some ⟨g,off,none⟩∧g<w.heap.size∧k<sn∧c.sets[k]?=some L∧c.sets.getD k []=L∧w.cell? ⟨g,off+k,none⟩=some (.slice ta tn tc)∧Sl wyC 3 w ta tn L∧Wf ta tn tc∧at_<tn∧L[at_]?=some y∧rightC c=true∧setNo c (lineU line)=k∧placeW L (lineU line)=(at_,true):=by
 have hl:=hc.len
 simp only at hl
 have hr:rightC c=true:=by
  cases h:rightC c with
  | true=>rfl
  | false=>unfold findC at hk;rw[h]at hk;cases hk
 have q1:1≤sn:=by have:=(right_iff.1 hr).1.1;omega
 have hke:setNo c (lineU line)=k∧placeW (c.sets.getD k []) (lineU line)=(at_,true):=by
  unfold findC at hk
  rw[hr]at hk
  simp only[if_true,Prod.mk.injEq]at hk
  obtain⟨h1,h2,h3⟩:=hk
  subst h1
  exact⟨rfl,Prod.ext h2 h3⟩
 have hks:k<sn:=by rw[← hke.1];exact setNo_lt hl q1
 obtain⟨g,off,⟨ta,tn,tc⟩,L,e0,hg,hLk,hcell,hSl,hWf⟩:=hc.at_ hks
 have hgd:c.sets.getD k []=L:=by rw[List.getD_eq_getElem?_getD,hLk];rfl
 have hpl:=hke.2
 rw[hgd]at hpl
 have hat:at_<L.length:=place_lt L _ hpl
 exact⟨g,off,ta,tn,tc,L,L[at_],e0,hg,hks,hLk,hgd,hcell,hSl,hWf,by have:=hSl.len;simp only at this;omega,List.getElem?_eq_getElem hat,hr,hke.1,hpl⟩
theorem clean_at(X:Nat→Prop)(sa:Option Addr)(sn sc:Nat)(c:Ca)(line:U)(w:World)(hX:∀ j,w.heap.size≤j→X j)(hc:CaX X w ⟨sa,sn,sc⟩ c):Calls Tryz.prog 74 #[caV c.ways ⟨sa,sn,sc⟩,.int .u32 line.v] w (CaP X (cleanC c line) w):=by
 have hz:(Tryz.prog.info? 46).map (fun i=>i.zero.map (·.cells))=some (some (wyC wyZ)):=by kernel_rfl
 have hn:=hc.toR.few
 simp only at hn
 have HC:=Lib.hid hc
 have HX:=Lib.hid hX
 have FI:=Lib.hid (fun W (h:Below w.heap.size w W)=>find_any ⟨sa,sn,sc⟩ c line W (hc.toR.below h))
 cases hf:(findC c line).2.2 with
 | false=>
  have E:=Lib.hid (show cleanC c line=c by unfold cleanC;simp[hf])
  have HF:=Lib.hid hf
  clear hf hc hX
  go_enter Tryz.func74,Tryz.ntmps74
  go_wp2_with (first|((with_reducible refine gAl 35 ?_);refine alloc_row (ccC ccZ) zero35 rfl rfl ?_;try simp only[Act.put,xA,xB,xC,fR])|(go_at_call 67;refine(FI.out _ (by(repeat(first|exact Below.refl _ _|(refine Below.alloc ?_ ?_ _;rotate_left;(first|omega|(simp only[sZ]<;>omega))))))).mono ?_;unfold FinP;rw[HF.out];rintro r w1 ⟨rfl,hb⟩;obtain⟨ow,kw,rfl⟩:=more_of hb;clear hb))
  apply ret_c2 row35 rfl (w.heap.size+1) (ccC ⟨c.ways,⟨sa,sn,sc⟩⟩) rfl (ccC_size _) (hd:=rfl)
  ·apply cc_cells<;>simp[go_sem]
  refine⟨⟨sa,sn,sc⟩,by rw[E.out];rfl,?_,by(repeat(first|exact Below.refl _ _|(refine Below.alloc ?_ ?_ _;rotate_left;(first|omega|(simp only[sZ]<;>omega)))|(refine bl_more ?_ ?_ _ _;rotate_left;(simp only[sZ]<;>omega))))⟩
  rw[E.out]
  exact HC.out.below (by(repeat(first|exact Below.refl _ _|(refine Below.alloc ?_ ?_ _;rotate_left;(first|omega|(simp only[sZ]<;>omega)))|(refine bl_more ?_ ?_ _ _;rotate_left;(simp only[sZ]<;>omega)))))
 | true=>
  obtain⟨k,at_,hk⟩:∃ k at_,findC c line=(k,at_,true):=⟨_,_,by rw[← hf]⟩
  obtain⟨g,off,ta,tn,tc,L,y,e0,hg,hks,hLk,hgd,hcell,hSl,hWf,hat,hy,hr,hsn,hpl⟩:=find_parts hc.toR hk
  subst e0
  have htn:=hSl.few
  have hll:=hSl.len
  have E:=Lib.hid (show cleanC c line=withC c k (L.set at_ { y with dirty:=false }) by
   unfold cleanC
   rw[hk]
   simp only[if_true,List.getD_eq_getElem?_getD,hLk,Option.getD_some,hy])
  have HK:=Lib.hid hk
  have HSl:=Lib.hid hSl
  have HWf:=Lib.hid hWf
  have HLL:=Lib.hid hll
  have HY:=Lib.hid hy
  clear hf hc hX hk hLk hgd hSl hWf hr hsn hpl hll hy
  go_enter Tryz.func74,Tryz.ntmps74
  go_upto_region 4 with((first|((with_reducible refine gAl 35 ?_);refine alloc_row (ccC ccZ) zero35 rfl rfl ?_;try simp only[Act.put,xA,xB,xC,fR])|(go_at_call 67;refine(FI.out _ (by(repeat(first|exact Below.refl _ _|(refine Below.alloc ?_ ?_ _;rotate_left;(first|omega|(simp only[sZ]<;>omega))))))).mono ?_;unfold FinP;rw[HK.out];rintro r w1 ⟨rfl,hb⟩;obtain⟨ow,kw,rfl⟩:=more_of hb;clear hb)))
  (refine wp_named ?_;intro W hW;have hG0:W.heap[w.heap.size]?=some (.cells (ccC ⟨c.ways,⟨some ⟨g,off,none⟩,sn,sc⟩⟩) _ (0,0)):=(by rw[hW];(repeat(first|(refine heap_at _ _ _ ?_;(with_reducible rfl))|(refine(more_heap' _ _ _ _ ?_).trans ?_;(simp only[sZ]<;>omega))|(refine(heap_past _ _ _ ?_).trans ?_;(simp only[sZ]<;>omega)))));obtain⟨hlt0,hc0,hd0,hf0,he0⟩:=nmF hG0;have hG2:W.heap[w.heap.size+1]?=some (.cells (ccC ccZ) _ (0,0)):=(by rw[hW];(repeat(first|(refine heap_at _ _ _ ?_;(simp only[sZ]<;>omega))|(refine(more_heap' _ _ _ _ ?_).trans ?_;(simp only[sZ]<;>omega)))));obtain⟨hlt2,hc2,hd2,hf2,he2⟩:=nmF hG2;have hBW:Below w.heap.size w W:=(by rw[hW];(repeat(first|exact Below.refl _ _|(refine Below.alloc ?_ ?_ _;rotate_left;(first|omega|(simp only[sZ]<;>omega)))|(refine bl_more ?_ ?_ _ _;rotate_left;(simp only[sZ]<;>omega)))));have hBWd:=hBW.drew;have hsW:=hBW.size;clear hW)
  have q1:W.cell? ⟨g,off+k,none⟩=some (.slice ta tn tc):=(hBW.cell (p:=⟨g,off+k,none⟩) hg).trans hcell
  have hgW:g<W.heap.size:=by omega
  have ne0:¬ w.heap.size=W.heap.size:=by omega
  have ne2:¬ w.heap.size+1=W.heap.size:=by omega
  have neg:¬ g=W.heap.size:=by omega
  have HCX:=Lib.hid (HC.out.mono (Y:=fun j=>X j∧j≠w.heap.size+1) (fun j h1 h2=>⟨h1,by omega⟩))
  have HXW:=Lib.hid (show ∀ j,W.heap.size≤j→X j∧j≠w.heap.size+1 from fun j hj=>⟨HX.out j (by omega),by omega⟩)
  have at0:(0:Int)≤(at_:Int):=by omega
  have at1:(at_:Int)<(tn:Int):=by omega
  go_wp2_with (first|((with_reducible refine gD (Op.makeSlice 51 _ _) ?_);refine full_sl (α:=Wy) (lay:=wyC) slT51 wyZ hz wyC_size rfl _ _ rfl w.heap.size .i64 .i64 tn tn tn rfl rfl rfl rfl htn hsW ?_;intro v1 w1 h1 e1 g1;subst e1;obtain⟨oF,kF,rfl⟩:=more_of (bl_own (Below.refl _ _) g1 (Nat.le_refl _) (fun k h=>by cases h));clear g1;have HO:=Lib.hid h1;clear h1;try simp only[Act.put,xA,xB,xC,fR])|((with_reducible refine gD (Op.call { callee:=Callee.builtin Builtin.copy,args:=_,argTypes:=_ }) ?_);(refine copy_sl (α:=Wy) (lay:=wyC) slT51 wyC_size wyC_ones rfl _ _ rfl w.heap.size (.slice (some ⟨W.heap.size,0,none⟩) tn tn) _ rfl HO.out ta tn tc L rfl (HSl.out.below (by(repeat(first|assumption|(refine bl_more ?_ ?_ _ _;rotate_left;(omega)))))) (by simp) ?_);intro w2 h2 g2;(obtain⟨oC,kC,rfl⟩:=more_of (bl_own (B:=W.heap.size) (a:=W) (bl_more (Below.refl _ _) (Nat.le_refl _) _ _) g2 (by simp only[more_size];omega) (fun b h=>by simp only[Value.ownBlock,Option.some.injEq]at h;omega));clear g2;obtain⟨r0,r1⟩:=own_cell h2 wyC_size HY.out (j:=1) (u:=.bool y.dirty) rfl;have HO2:=Lib.hid h2;clear h2);try simp only[Act.put,xA,xB,xC,fR])|(go_at_call 84;(have hO3:=(HO2.out.set wyC_size HY.out (x':={ y with dirty:=false }) (u:=.bool false) (j:=1) (by decide) rfl).slv wyC_size;have hB3:Below w.heap.size w ((more W oC kC).setCell ⟨W.heap.size,at_*3+1,none⟩ (.bool false)):=((bl_more hBW hsW oC kC).setCell (p:=⟨W.heap.size,at_*3+1,none⟩) hsW _);refine(with_any (fun j=>X j∧j≠w.heap.size+1) ⟨some ⟨g,off,none⟩,sn,sc⟩ c k ⟨some ⟨W.heap.size,0,none⟩,tn,tn⟩ (L.set at_ { y with dirty:=false }) _ (fun j hj=>HXW.out j (by simp only[World.size_setCell,more_size]at hj;omega)) (HCX.out.below hB3) hks hO3.1 hO3.2.1 (fun _ p hp=>by cases hp;exact HXW.out _ (Nat.le_refl _))).mono ?_);rintro r w1 ⟨⟨s1,s2,s3⟩,rfl,hca,hb⟩;obtain⟨ow4,kw4,rfl⟩:=more_of hb;clear hb hO3)|((with_reducible refine gD (Op.store 35 (.tmp 4) (.tmp 40)) ?_);refine store_row row35 rfl _ _ rfl (w.heap.size+1) (ccC ⟨c.ways,⟨s1,s2,s3⟩⟩) rfl rfl (ccC_size _) (ccC_ones _) (t:=35) (old:=ccC ccZ) (h2:=ccC_size _) ?_ ?_;(·(repeat(first|assumption|(refine(more_heap' _ _ _ _ ?_).trans ?_;(first|omega|(simp only[sZ]<;>omega)))|(refine(Below.heap_setCell _ _ _ _ ?_).trans ?_;(dsimp only;omega)))));try simp only[Act.put,xA,xB,xC,fR]))
  apply ret_row row35 rfl (w.heap.size+1) (ccC ⟨c.ways,⟨s1,s2,s3⟩⟩) rfl (ccC_size _) (t:=35) (fr:=(0,0)) (hd:=rfl)
  ·refine setRow_heap _ _ (ccC ccZ) _ 35 (0,0) ?_
   (repeat(first|assumption|(refine(more_heap' _ _ _ _ ?_).trans ?_;(first|omega|(simp only[sZ]<;>omega)))|(refine(Below.heap_setCell _ _ _ _ ?_).trans ?_;(dsimp only;omega))))
  refine⟨⟨s1,s2,s3⟩,by rw[E.out];rfl,?_,?_⟩
  ·rw[E.out]
   exact(hca.same (X:=fun j=>X j∧j≠w.heap.size+1) (by rw[row_size];exact Nat.le_refl _) (fun j hj=>row_other _ _ _ _ hj.2)).mono (fun j h _=>h.1)
  ·exact bl_row (bl_more ((bl_more hBW hsW oC kC).setCell (p:=⟨W.heap.size,at_*3+1,none⟩) hsW _) (by simp only[World.size_setCell,more_size];omega) _ _) (Nat.le_succ _) _
theorem clean_any(X:Nat→Prop)(s:Sv)(c:Ca)(line:U)(w:World)(hX:∀ j,w.heap.size≤j→X j)(hc:CaX X w s c):Calls Tryz.prog 74 #[caV c.ways s,.int .u32 line.v] w (CaP X (cleanC c line) w):=clean_at X s.a s.n s.c c line w hX hc
theorem bs_isEmpty(l:By):(bs l).toList.isEmpty=l.isEmpty:=by rw[ByteArray.toList_eq];simp[bs]
def WriP(X:Nat→Prop)(r:Ca×Bool)(w:World)(e:Ending)(w':World):Prop:=∃ s',e= .returned (.tuple #[caV r.1.ways s',.bool r.2])∧CaX X w' s' r.1∧Below w.heap.size w w'
theorem front_eq{L:List Wy}{at_:Nat}{y:Wy}(h:L[at_]?=some y):frontW L at_=y::(L.take at_++L.drop (at_+1)):=by
 unfold frontW
 rw[List.getD_eq_getElem?_getD,h];rfl
theorem data_16{c:Ca}{k at_:Nat}{L:List Wy}{y:Wy}(hr:rightC c=true)(hL:c.sets[k]?=some L)(hy:L[at_]?=some y):y.data.length=0∨y.data.length=16:=(way_parts.1 (((right_iff.1 hr).2 k L hL).2 at_ y hy)).2.2.1
theorem write_at(X:Nat→Prop)(sa:Option Addr)(sn sc:Nat)(c:Ca)(ad:U)(b:By)(hb:b.length≤1000000)(w:World)(hX:∀ j,w.heap.size≤j→X j)(hc:CaX X w ⟨sa,sn,sc⟩ c):Calls Tryz.prog 104 #[caV c.ways ⟨sa,sn,sc⟩,.int .u32 ad.v,.string (bs b)] w (WriP X (writeC c ad b) w):=by
 have hn:=hc.toR.few
 simp only at hn
 have HC:=Lib.hid hc
 have HX:=Lib.hid hX
 have x0:=ad.lo
 have x1:=ad.hi
 have y0:=(lineU ad).lo
 have y1:=(lineU ad).hi
 have FI:=Lib.hid (fun W (h:Below w.heap.size w W)=>find_any ⟨sa,sn,sc⟩ c ad W (hc.toR.below h))
 cases hf:(findC c ad).2.2 with
 | false=>
  have E:=Lib.hid (show writeC c ad b=(c,false) by unfold writeC;simp[hf])
  have HF:=Lib.hid hf
  clear hf hc hX
  go_enter Tryz.func104,Tryz.ntmps104
  go_wp2_with (first|((with_reducible refine gAl 35 ?_);refine alloc_row (ccC ccZ) zero35 rfl rfl ?_;try simp only[Act.put,xA,xB,xC,fR])|(go_at_call 67;refine(FI.out _ (by(repeat(first|exact Below.refl _ _|(refine Below.alloc ?_ ?_ _;rotate_left;(first|omega|(simp only[sZ]<;>omega))))))).mono ?_;unfold FinP;rw[HF.out];rintro r w1 ⟨rfl,hb⟩;obtain⟨ow,kw,rfl⟩:=more_of hb;clear hb))
  apply ret_ct2 row35 rfl (w.heap.size+1) (ccC ⟨c.ways,⟨sa,sn,sc⟩⟩) rfl (ccC_size _) (hd:=rfl)
  ·apply cc_cells<;>simp[go_sem]
  refine⟨⟨sa,sn,sc⟩,by rw[E.out];rfl,?_,by(repeat(first|exact Below.refl _ _|(refine Below.alloc ?_ ?_ _;rotate_left;(first|omega|(simp only[sZ]<;>omega)))|(refine bl_more ?_ ?_ _ _;rotate_left;(simp only[sZ]<;>omega))))⟩
  rw[E.out]
  exact HC.out.below (by(repeat(first|exact Below.refl _ _|(refine Below.alloc ?_ ?_ _;rotate_left;(first|omega|(simp only[sZ]<;>omega)))|(refine bl_more ?_ ?_ _ _;rotate_left;(simp only[sZ]<;>omega)))))
 | true=>
  obtain⟨k,at_,hk⟩:∃ k at_,findC c ad=(k,at_,true):=⟨_,_,by rw[← hf]⟩
  obtain⟨g,off,ta,tn,tc,L,y,e0,hg,hks,hLk,hgd,hcell,hSl,hWf,hat,hy,hr,hsn,hpl⟩:=find_parts hc.toR hk
  subst e0
  have htn:=hSl.few
  have hd16:=data_16 hr hLk hy
  have hfr:(lineU ad).v=ad.v-ad.v % 16:=by show(ad.v-ad.v % 16) % 4294967296=_;omega
  obtain⟨g2,off2,y',eta,hg2,hy',hcy⟩:=hSl.at_ hat
  have:y'=y:=Option.some.inj (hy'.symm.trans hy)
  subst this
  subst eta
  have c2:w.cell? ⟨g2,off2+at_*3+2,none⟩=some (.string (bs y'.data)):=hcy 2 _ rfl
  have E0:writeC c ad b=if y'.data=[]∨16-((ad.v-(lineU ad).v).toNat:Int)<b.length then(c,false)else(withC c k (setHead (frontW L at_) fun y=>{ y with data:=y'.data.take (ad.v-(lineU ad).v).toNat++b++y'.data.drop ((ad.v-(lineU ad).v).toNat+b.length),dirty:=true }),true):=by
   unfold writeC
   simp only[hk,if_true,hgd,List.getD_eq_getElem?_getD,hy,Option.getD_some]
  obtain⟨f,hfd⟩:∃ f:Int,ad.v-(lineU ad).v=f:=⟨_,rfl⟩
  have f0:0≤f∧f≤15:=by omega
  obtain⟨f0,f1⟩:=f0
  clear hfr
  have HK:=Lib.hid hk
  have HSl:=Lib.hid hSl
  have HWf:=Lib.hid hWf
  have HY:=Lib.hid hy
  have htc:=hWf.le
  by_cases hq:y'.data=[]∨16-(f.toNat:Int)<b.length
  ·have E:=Lib.hid (show writeC c ad b=(c,false) by rw[E0,hfd,if_pos hq])
   clear E0 hf hc hX hk hLk hgd hSl hWf hr hsn hpl hy hcy hy'
   go_enter Tryz.func104,Tryz.ntmps104
   go_upto_region 4 with((first|((with_reducible refine gAl 35 ?_);refine alloc_row (ccC ccZ) zero35 rfl rfl ?_;try simp only[Act.put,xA,xB,xC,fR])|(go_at_call 67;refine(FI.out _ (by(repeat(first|exact Below.refl _ _|(refine Below.alloc ?_ ?_ _;rotate_left;(first|omega|(simp only[sZ]<;>omega))))))).mono ?_;unfold FinP;rw[HK.out];rintro r w1 ⟨rfl,hb⟩;obtain⟨ow,kw,rfl⟩:=more_of hb;clear hb)))
   (refine wp_named ?_;intro W hW;have hG0:W.heap[w.heap.size]?=some (.cells (ccC ⟨c.ways,⟨some ⟨g,off,none⟩,sn,sc⟩⟩) _ (0,0)):=(by rw[hW];(repeat(first|(refine heap_at _ _ _ ?_;(with_reducible rfl))|(refine(more_heap' _ _ _ _ ?_).trans ?_;(simp only[sZ]<;>omega))|(refine(heap_past _ _ _ ?_).trans ?_;(simp only[sZ]<;>omega)))));obtain⟨hlt0,hc0,hd0,hf0,he0⟩:=nmF hG0;have hG2:W.heap[w.heap.size+1]?=some (.cells (ccC ccZ) _ (0,0)):=(by rw[hW];(repeat(first|(refine heap_at _ _ _ ?_;(simp only[sZ]<;>omega))|(refine(more_heap' _ _ _ _ ?_).trans ?_;(simp only[sZ]<;>omega)))));obtain⟨hlt2,hc2,hd2,hf2,he2⟩:=nmF hG2;have hBW:Below w.heap.size w W:=(by rw[hW];(repeat(first|exact Below.refl _ _|(refine Below.alloc ?_ ?_ _;rotate_left;(first|omega|(simp only[sZ]<;>omega)))|(refine bl_more ?_ ?_ _ _;rotate_left;(simp only[sZ]<;>omega)))));have hBWd:=hBW.drew;have hsW:=hBW.size;clear hW)
   have q1:W.cell? ⟨g,off+k,none⟩=some (.slice (some ⟨g2,off2,none⟩) tn tc):=(hBW.cell (p:=⟨g,off+k,none⟩) hg).trans hcell
   have q3:W.cell? ⟨g2,off2+at_*3+2,none⟩=some (.string (bs y'.data)):=(hBW.cell (p:=⟨g2,off2+at_*3+2,none⟩) hg2).trans c2
   have HCX:=Lib.hid (HC.out.mono (Y:=fun j=>X j∧j≠w.heap.size+1) (fun j h1 h2=>⟨h1,by omega⟩))
   have HXW:=Lib.hid (show ∀ j,W.heap.size≤j→X j∧j≠w.heap.size+1 from fun j hj=>⟨HX.out j (by omega),by omega⟩)
   have at0:(0:Int)≤(at_:Int):=by omega
   have at1:(at_:Int)<(tn:Int):=by omega
   have hgW:g<W.heap.size:=by omega
   have HQ:=Lib.hid hq
   cases he:(bs y'.data).toList.isEmpty
   case' false=>
    have hfb:decide (16-f<(b.length:Int))=true:=by
     apply decide_eq_true
     rcases HQ.out with h|h
     ·rw[bs_isEmpty,h]at he;cases he
     ·omega
   all_goals
    clear hq
    go_wp2_with ((go_at_call 28;refine(line_any' _ _).mono ?_;rintro r w1 ⟨rfl,rfl⟩))
    apply ret_ct2 row35 rfl (w.heap.size+1) (ccC ⟨c.ways,⟨some ⟨g,off,none⟩,sn,sc⟩⟩) rfl (ccC_size _) (hd:=rfl)
    ·apply cc_cells<;>simp[go_sem,hc2,hlt2]
    refine⟨⟨some ⟨g,off,none⟩,sn,sc⟩,by rw[E.out];rfl,?_,?_⟩
    ·rw[E.out]
     exact(((HCX.out.below hBW).same (X:=fun j=>X j∧j≠w.heap.size+1) (by simp only[World.size_setCell];exact Nat.le_refl _) (fun j hj=>Go.Proofs.YtdmhfogegfmnfaaGreatDoor.off2 W _ _ _ j hj.2)).mono (fun j h _=>h.1))
    ·exact(hBW.setCell (p:=⟨w.heap.size+1,0,none⟩) (Nat.le_succ _) _).setCell (p:=⟨w.heap.size+1,1,none⟩) (Nat.le_succ _) _
  ·have E:=Lib.hid (show writeC c ad b=(withC c k (setHead (frontW L at_) fun y=>{ y with data:=y'.data.take f.toNat++b++y'.data.drop (f.toNat+b.length),dirty:=true }),true) by rw[E0,hfd,if_neg hq])
   have hne:y'.data≠[]:=fun h=>hq (Or.inl h)
   have hlen:y'.data.length=16:=by
    rcases hd16 with h|h
    ·exact absurd (List.eq_nil_of_length_eq_zero h) hne
    ·exact h
   have hbl:(b.length:Int)≤16-f:=by
    have:=fun h=>hq (Or.inr h)
    omega
   have he:(bs y'.data).toList.isEmpty=false:=by rw[bs_isEmpty];cases h:y'.data with|nil=>exact absurd h hne|cons _ _=>rfl
   have hfb:decide (16-f<(b.length:Int))=false:=by apply decide_eq_false;omega
   clear E0 hf hc hX hk hLk hgd hSl hWf hr hsn hpl hy hcy hy' hq hd16
   go_enter Tryz.func104,Tryz.ntmps104
   go_upto_region 4 with((first|((with_reducible refine gAl 35 ?_);refine alloc_row (ccC ccZ) zero35 rfl rfl ?_;try simp only[Act.put,xA,xB,xC,fR])|(go_at_call 67;refine(FI.out _ (by(repeat(first|exact Below.refl _ _|(refine Below.alloc ?_ ?_ _;rotate_left;(first|omega|(simp only[sZ]<;>omega))))))).mono ?_;unfold FinP;rw[HK.out];rintro r w1 ⟨rfl,hb⟩;obtain⟨ow,kw,rfl⟩:=more_of hb;clear hb)))
   (refine wp_named ?_;intro W hW;have hG0:W.heap[w.heap.size]?=some (.cells (ccC ⟨c.ways,⟨some ⟨g,off,none⟩,sn,sc⟩⟩) _ (0,0)):=(by rw[hW];(repeat(first|(refine heap_at _ _ _ ?_;(with_reducible rfl))|(refine(more_heap' _ _ _ _ ?_).trans ?_;(simp only[sZ]<;>omega))|(refine(heap_past _ _ _ ?_).trans ?_;(simp only[sZ]<;>omega)))));obtain⟨hlt0,hc0,hd0,hf0,he0⟩:=nmF hG0;have hG2:W.heap[w.heap.size+1]?=some (.cells (ccC ccZ) _ (0,0)):=(by rw[hW];(repeat(first|(refine heap_at _ _ _ ?_;(simp only[sZ]<;>omega))|(refine(more_heap' _ _ _ _ ?_).trans ?_;(simp only[sZ]<;>omega)))));obtain⟨hlt2,hc2,hd2,hf2,he2⟩:=nmF hG2;have hBW:Below w.heap.size w W:=(by rw[hW];(repeat(first|exact Below.refl _ _|(refine Below.alloc ?_ ?_ _;rotate_left;(first|omega|(simp only[sZ]<;>omega)))|(refine bl_more ?_ ?_ _ _;rotate_left;(simp only[sZ]<;>omega)))));have hBWd:=hBW.drew;have hsW:=hBW.size;clear hW)
   have q1:W.cell? ⟨g,off+k,none⟩=some (.slice (some ⟨g2,off2,none⟩) tn tc):=(hBW.cell (p:=⟨g,off+k,none⟩) hg).trans hcell
   have q3:W.cell? ⟨g2,off2+at_*3+2,none⟩=some (.string (bs y'.data)):=(hBW.cell (p:=⟨g2,off2+at_*3+2,none⟩) hg2).trans c2
   have HCX:=Lib.hid (HC.out.mono (Y:=fun j=>X j∧j≠w.heap.size+1) (fun j h1 h2=>⟨h1,by omega⟩))
   have HXW:=Lib.hid (show ∀ j,W.heap.size≤j→X j∧j≠w.heap.size+1 from fun j hj=>⟨HX.out j (by omega),by omega⟩)
   have at0:(0:Int)≤(at_:Int):=by omega
   have at1:(at_:Int)<(tn:Int):=by omega
   have hgW:g<W.heap.size:=by omega
   go_upto_region 9 with((go_at_call 28;refine(line_any' _ _).mono ?_;rintro r w1 ⟨rfl,rfl⟩))
   refine(front_any (some ⟨g2,off2,none⟩) tn tc L at_ _ (HSl.out.below hBW) (fun h=>by cases h) htc hat).mono ?_
   rintro r w1 ⟨v,rfl,ho,hb1⟩
   have hfe:=front_eq HY.out
   rw[hfe]at ho
   obtain⟨gf,cf,cur,rfl,hgf,_,hcf,_,_⟩:=ho.lies (by simp)
   obtain⟨r1,r2⟩:=own_cell ho wyC_size (i:=0) (j:=1) (x:=y') (u:=.bool y'.dirty) rfl rfl
   obtain⟨r3,r4⟩:=own_cell ho wyC_size (i:=0) (j:=2) (x:=y') (u:=.string (bs y'.data)) rfl rfl
   simp only[Nat.zero_mul,Nat.zero_add]at r1 r2 r3 r4
   have HO:=Lib.hid ho
   obtain⟨of_,kf,rfl⟩:=more_of hb1
   clear hb1 ho hfe
   have hlf:(y'::(L.take at_++L.drop (at_+1))).length=tn:=by have:=(HSl.out.len);have:=List.length_take (i:=at_) (l:=L);simp;omega
   rw[hlf]at HO ⊢
   have ngf0:¬ w.heap.size=gf:=by omega
   have ngf2:¬ w.heap.size+1=gf:=by omega
   have tn0:(0:Int)<(tn:Int):=by omega
   go_upto_region 9 with(fail)
   have s1:(bs y'.data).size=16:=by rw[bs_size,hlen]
   have f2:(f:Int)≤16:=by omega
   have f3:f+(b.length:Int)≤16:=by omega
   have f4:0≤f+(b.length:Int):=by omega
   have hstr:(bs y'.data).extract 0 f.toNat++bs b++(bs y'.data).extract (f+(b.length:Int)).toNat 16=bs (y'.data.take f.toNat++b++y'.data.drop (f.toNat+b.length)):=by
    rw[bs_extract,bs_extract,bs_append,bs_append,List.drop_zero,List.take_of_length_le (by omega:y'.data.length≤16),show(f+(b.length:Int)).toNat=f.toNat+b.length by omega]
   have HSTR:=Lib.hid hstr
   clear hstr
   go_region
   rw[HSTR.out]
   obtain⟨D,hD⟩:∃ D,y'.data.take f.toNat++b++y'.data.drop (f.toNat+b.length)=D:=⟨_,rfl⟩
   rw[hD]
   rw[hD]at E
   have hsf:(more W of_ kf).heap.size=W.heap.size+of_.size:=by simp only[more_size]
   have HO2:=Lib.hid ((HO.out.set0 wyC_size (x':={ y' with data:=D }) (u:=.string (bs D)) (j:=2) (by decide) rfl).drew.set0 wyC_size (x':={ y' with data:=D,dirty:=true }) (u:=.bool true) (j:=1) (by decide) rfl)
   clear hD
   go_wp2_with (first|(go_at_call 84;(have hO3:=HO2.out.slv wyC_size;have hB3:Below w.heap.size w ((((more W of_ kf).setCell ⟨gf,2,none⟩ (.string (bs D))).drew).setCell ⟨gf,1,none⟩ (.bool true)):=((((bl_more hBW hsW of_ kf).setCell (p:=⟨gf,2,none⟩) (by show _≤gf;omega) _).drew).setCell (p:=⟨gf,1,none⟩) (by show _≤gf;omega) _);refine(with_any (fun j=>X j∧j≠w.heap.size+1) ⟨some ⟨g,off,none⟩,sn,sc⟩ c k ⟨some ⟨gf,0,none⟩,tn,cf⟩ ({ y' with data:=D,dirty:=true }::(L.take at_++L.drop (at_+1))) _ (fun j hj=>HXW.out j (by simp only[World.size_setCell,World.size_drew,more_size]at hj;omega)) (HCX.out.below hB3) hks hO3.1 hO3.2.1 (fun _ p hp=>by cases hp;exact HXW.out _ hgf)).mono ?_);rintro r w1 ⟨⟨s1,s2,s3⟩,rfl,hca,hb4⟩;obtain⟨ow4,kw4,rfl⟩:=more_of hb4;clear hb4 hO3)|((with_reducible refine gD (Op.store 35 (.tmp 6) (.tmp 76)) ?_);(refine store_row row35 rfl _ _ rfl (w.heap.size+1) (ccC ⟨c.ways,⟨s1,s2,s3⟩⟩) rfl rfl (ccC_size _) (ccC_ones _) (t:=35) (old:=ccC ccZ) (h2:=ccC_size _) ?_ ?_;(·(repeat(first|assumption|(refine(more_heap' _ _ _ _ ?_).trans ?_;(first|omega|(simp only[sZ]<;>omega)))|(refine(Below.heap_setCell _ _ _ _ ?_).trans ?_;(dsimp only;omega))))));try simp only[Act.put,xA,xB,xC,fR]))
   apply ret_ct row35 rfl (w.heap.size+1) (ccC ⟨c.ways,⟨s1,s2,s3⟩⟩) rfl (ccC_size _) (t:=35) (fr:=(0,0)) (hd:=rfl)
   ·refine setRow_heap _ _ (ccC ccZ) _ 35 (0,0) ?_
    (repeat(first|assumption|(refine(more_heap' _ _ _ _ ?_).trans ?_;(first|omega|(simp only[sZ]<;>omega)))|(refine(Below.heap_setCell _ _ _ _ ?_).trans ?_;(dsimp only;omega))))
   refine⟨⟨s1,s2,s3⟩,by rw[E.out];rfl,?_,?_⟩
   ·rw[E.out,front_eq HY.out]
    exact(hca.same (X:=fun j=>X j∧j≠w.heap.size+1) (by rw[row_size];exact Nat.le_refl _) (fun j hj=>row_other _ _ _ _ hj.2)).mono (fun j h _=>h.1)
   ·exact bl_row (bl_more ((((bl_more hBW hsW of_ kf).setCell (p:=⟨gf,2,none⟩) (by show _≤gf;omega) _).drew).setCell (p:=⟨gf,1,none⟩) (by show _≤gf;omega) _) (by simp only[World.size_setCell,World.size_drew,more_size];omega) _ _) (Nat.le_succ _) _
theorem write_any(X:Nat→Prop)(s:Sv)(c:Ca)(ad:U)(b:By)(hb:b.length≤1000000)(w:World)(hX:∀ j,w.heap.size≤j→X j)(hc:CaX X w s c):Calls Tryz.prog 104 #[caV c.ways s,.int .u32 ad.v,.string (bs b)] w (WriP X (writeC c ad b) w):=write_at X s.a s.n s.c c ad b hb w hX hc
def overS(m:By)(p:Pt):By:=if p.addr.v<m.length then lay m p.addr.v.toNat p.data else m
theorem overM_cons(m:By)(p:Pt)(l:List Pt):overM m (p::l)=overM (overS m p) l:=rfl
theorem overM_app:∀(l:List Pt) (m:By) (p:Pt),overM m (l++[p])=overS (overM m l) p
 | [],m,p=>rfl
 | q::l,m,p=>by rw[List.cons_append,overM_cons,overM_app l,overM_cons]
theorem overS_len(m:By)(p:Pt):(overS m p).length=m.length:=by
 have:=p.addr.lo
 unfold overS
 split
 ·exact lay_len _ _ _ (by omega)
 ·rfl
theorem overM_len:∀(l:List Pt) (m:By),(overM m l).length=m.length
 | [],m=>rfl
 | p::l,m=>by rw[overM_cons,overM_len l,overS_len]
theorem overM_take{m:By}{L:List Pt}{k:Nat}{p:Pt}(h:L[k]?=some p):overM m (L.take (k+1))=overS (overM m (L.take k)) p:=by
 have hk:=(List.getElem?_eq_some_iff.1 h).1
 rw[List.take_succ_eq_append_getElem hk,overM_app,(List.getElem?_eq_some_iff.1 h).2]
theorem rowB_str{w:World}{g:Nat}{m:By}(h:RowB w g m):∀ j v,((m.map fun b=>(b.toNat:Int)).map (Value.int .u8))[j]?=some v→w.cell? ⟨g,0+j,none⟩=some v:=by
 intro j v hv
 have hj:=(List.getElem?_eq_some_iff.1 hv).1
 simp only[List.length_map]at hj
 rw[Nat.zero_add,(h.2 j hj).1,← hv]
 simp[hj]
theorem byOf_map(m:By):byOf (m.map fun b=>(b.toNat:Int))=m:=by
 unfold byOf
 rw[List.map_map]
 have:(fun n:Int=>UInt8.ofNat n.toNat) ∘ (fun b:UInt8=>(b.toNat:Int))=id:=by funext b;simp
 rw[this,List.map_id]
theorem over_any(m:By)(hm:m.length≤1000000)(A:Option Addr)(n C:Nat)(L:List Pt)(w:World)(hL:Sl ptC 2 w A n L):Calls Tryz.prog 50 #[.string (bs m),.slice A n C] w fun e w'=>e= .returned (.string (bs (overM m L)))∧Below w.heap.size w w':=by
 have hn:=hL.few
 have HL:=Lib.hid hL
 clear hL
 go_enter Tryz.func50,Tryz.ntmps50
 go_wp2_with (((with_reducible refine gD (Op.convert 9 77 _) ?_);refine conv_bytes rfl _ rfl m rfl ?_;intro CB w1 hrb hcb hbb;have HRB:=Lib.hid hrb;have HBB:=Lib.hid hbb;clear hrb hbb;try simp only[Act.put,xA,xB,xC,fR]))
 go_loopw [12] (fun i wr=>∃(k:Nat),k≤n∧i= .int .i64 k∧Hid (RowB wr w.heap.size (overM m (L.take k)))∧Below w.heap.size w wr) (fun i _=>n-(intOf i).toNat)
 case atStart=>exact⟨0,by omega,rfl,HRB,HBB.out⟩
 case round=>
  obtain⟨k,hk,rfl,HG,HB⟩:=hrel
  have hBs:=HB.size
  have hol:(overM m (L.take k)).length=m.length:=overM_len _ _
  by_cases hlt:k<n
  ·obtain⟨g,off,p,rfl,hg,hp,hc⟩:=(HL.out.below HB).at_ hlt
   have HY:=Lib.hid hp
   have HC:=Lib.hid hc
   have x0:=p.addr.lo
   have x1:=p.addr.hi
   clear hp hc
   obtain⟨M,hM⟩:∃ M,overM m (L.take k)=M:=⟨_,rfl⟩
   rw[hM]at HG hol
   have HM:=Lib.hid hM
   clear hM
   by_cases ha:p.addr.v<m.length
   ·have hsl:p.addr.v≤(m.length:Int):=by omega
    have hcc:¬ CB=p.addr.v.toNat:=by omega
    have hcb2:p.addr.v≤(CB:Int):=by omega
    have hcb3:(m.length:Int)≤(CB:Int):=by omega
    go_wp2_with (first|((with_reducible refine gAl 89 ?_);refine alloc_row (ptC ptZ) zero89 rfl rfl ?_;try simp only[Act.put,xA,xB,xC,fR])|((with_reducible refine gD (Op.store 89 _ _) ?_);apply store_row row89 rfl _ _ rfl _ (ptC _) rfl rfl (ptC_size _) (ptC_ones _) (t:=89) (old:=ptC _) (h2:=ptC_size _);(·(repeat((refine heap_at _ _ _ ?_;(with_reducible rfl)))));try simp only[Act.put,xA,xB,xC,fR];try simp (disch:=(first|with_reducible rfl|fail)) only[more_row,alloc_row_past,alloc_row_at,drew_row,drewN_row])|((with_reducible refine gD (Op.load 89 _) ?_);refine take_el row89 rfl _ rfl g (off+k*2) rfl p (ptC_size p) HC.out ?_;try simp only[Act.put,xA,xB,xC,fR]))
    go_region_law (refine step_copy_lay rfl _ _ rfl w.heap.size p.addr.v.toNat (CB-p.addr.v.toNat) M p.data (by rw[hol];first|rfl) rfl (HG.out.below (by(repeat(first|exact Below.refl _ _|(refine Below.alloc ?_ ?_ _;rotate_left;(omega))|refine Below.drew ?_)))) ?_)
    all_goals
     go_wp2
     go_roundw
     case rel=>
      refine⟨k+1,by omega,by go_num,Lib.hid ?_,?_⟩
      ·rw[overM_take HY.out,HM.out]
       unfold overS
       rw[if_pos (by rw[hol];exact ha)]
       have hx:RowB (wr.alloc (.cells (ptC p) 89)).drew w.heap.size M:=HG.out.below ((Below.refl _ _).alloc (Nat.le_refl _) _).drew
       have hy:=hx.lay p.addr.v.toNat p.data (by omega)
       rw[hol]at hy
       exact hy
      ·first
       | exact bl_cells (by(repeat(first|assumption|(refine Below.alloc ?_ ?_ _;rotate_left;(omega))|refine Below.drew ?_))) (Nat.le_refl _) _ _
       | exact(bl_cells (by(repeat(fail))) (Nat.le_refl _) _ _).drew
     case measure=>simp[intOf];omega
   ·go_wp2_with (first|((with_reducible refine gAl 89 ?_);refine alloc_row (ptC ptZ) zero89 rfl rfl ?_;try simp only[Act.put,xA,xB,xC,fR])|((with_reducible refine gD (Op.store 89 _ _) ?_);apply store_row row89 rfl _ _ rfl _ (ptC _) rfl rfl (ptC_size _) (ptC_ones _) (t:=89) (old:=ptC _) (h2:=ptC_size _);(·(repeat((refine heap_at _ _ _ ?_;(with_reducible rfl)))));try simp only[Act.put,xA,xB,xC,fR];try simp (disch:=(first|with_reducible rfl|fail)) only[more_row,alloc_row_past,alloc_row_at,drew_row,drewN_row])|((with_reducible refine gD (Op.load 89 _) ?_);refine take_el row89 rfl _ rfl g (off+k*2) rfl p (ptC_size p) HC.out ?_;try simp only[Act.put,xA,xB,xC,fR]))
    go_roundw
    case rel=>exact⟨k+1,by omega,by go_num,Lib.hid (by rw[overM_take HY.out,HM.out];unfold overS;rw[if_neg (by omega)];exact HG.out.below (by(repeat(first|exact Below.refl _ _|(refine Below.alloc ?_ ?_ _;rotate_left;(omega)))))),by(repeat(first|assumption|(refine Below.alloc ?_ ?_ _;rotate_left;(omega))))⟩
    case measure=>simp[intOf];omega
  ·have hkn:k=n:=by omega
   subst hkn
   have hfin:L.take k=L:=List.take_of_length_le (by rw[HL.out.len];exact Nat.le_refl _)
   rw[hfin]at HG hol
   clear hfin
   go_wp2_with ((with_reducible refine gD (Op.convert 77 9 _) ?_);refine conv_str rfl _ rfl w.heap.size 0 m.length CB rfl ((overM m L).map fun b=>(b.toNat:Int)) (by rw[List.length_map,hol]) (rowB_str HG.out) ?_;try simp only[Act.put,xA,xB,xC,fR])
   go_ret
   exact⟨by(try rw[byOf_map]);rfl,HB⟩
end Go.Proofs.YtdmhfogegfmnfaaGreatDoor
