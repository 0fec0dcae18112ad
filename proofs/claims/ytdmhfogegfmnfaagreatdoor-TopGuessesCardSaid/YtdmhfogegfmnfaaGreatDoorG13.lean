/- Contracts: a line that is put into a cache. Conditions: the cache reads as one. -/
import Derived.Test.YtdmhfogegfmnfaaGreatDoorG01
import Derived.Test.YtdmhfogegfmnfaaGreatDoorG12
set_option maxRecDepth 100000
set_option maxHeartbeats 8000000
set_option linter.unusedVariables false
set_option linter.unusedSimpArgs false
namespace Go.Proofs.YtdmhfogegfmnfaaGreatDoor
open Go.RowKit
def PutP(X:Nat→Prop)(r:Ca×Wy×Bool)(w:World)(e:Ending)(w':World):Prop:=∃ s',e= .returned (.tuple #[caV r.1.ways s',.agg (wyC r.2.1),.bool r.2.2])∧CaX X w' s' r.1∧Below w.heap.size w w'
theorem ret_cct2{a:Act}{w:World}{fn:Func}{R:Ending→World→Prop}{p q r:Tmp}{T n U' n':Nat}(hT:IsRow T n)(hU:IsRow U' n')(hr:fn.results=#[.cell p T,.cell q U',.tmp r])(g g':Nat)(cs cs':Array Value)(hp:a.tmps.getD p undef= .pointer (some ⟨g,0,none⟩))(hq:a.tmps.getD q undef= .pointer (some ⟨g',0,none⟩))(hs:cs.size=n)(hs':cs'.size=n')
 (hc:∀ j v,cs[j]?=some v→w.cell? ⟨g,j,none⟩=some v) (hc':∀ j v,cs'[j]?=some v→w.cell? ⟨g',j,none⟩=some v) (hd:a.defers=[]) (h:R (.returned (.tuple #[.agg cs,.agg cs',a.tmps.getD r undef])) w):bodyPost Tryz.prog fn R .ret a w:=by
 refine bodyPost_ret (v:=.tuple #[.agg cs,.agg cs',a.tmps.getD r undef]) ?_ hd h
 have hp':a.tmps[p]?.getD undef= .pointer (some ⟨g,0,none⟩):=by simpa using hp
 have hq':a.tmps[q]?.getD undef= .pointer (some ⟨g',0,none⟩):=by simpa using hq
 simp[results,hr,hp',hq',asAddr,load_cs hT hs hc,load_cs hU hs' hc']
def putD(d:By):By:=if d.length≠16 then []else d
theorem put_found{c:Ca}{line:U}{data d:By}{dirty:Bool}{k at_:Nat}{L:List Wy}{y:Wy}(hr:rightC c=true)(hk:findC c line=(k,at_,true))(hgd:c.sets.getD k []=L)(hy:L[at_]?=some y)(hd:putD data=d):putC c line data dirty=(withC c k ({ y with data:=(if d≠[]then d else y.data),dirty:=y.dirty||dirty }::(L.take at_++L.drop (at_+1))),wyZ,false):=by
 unfold putD at hd
 unfold putC
 rw[hr,if_pos rfl]
 simp only[hd,hk,hgd,if_true,front_eq hy]
 rfl
theorem put_no(X:Nat→Prop)(sa:Option Addr)(sn sc:Nat)(c:Ca)(line:U)(data:By)(dirty:Bool)(hdl:data.length≤1000000)(w:World)(hX:∀ j,w.heap.size≤j→X j)(hc:CaX X w ⟨sa,sn,sc⟩ c)(hr:rightC c=false):Calls Tryz.prog 48 #[caV c.ways ⟨sa,sn,sc⟩,.int .u32 line.v,.string (bs data),.bool dirty] w (PutP X (putC c line data dirty) w):=by
 have hn:=hc.toR.few
 simp only at hn
 have HC:=Lib.hid hc
 have HX:=Lib.hid hX
 have FI:=Lib.hid (fun W (h:Below w.heap.size w W)=>find_any ⟨sa,sn,sc⟩ c line W (hc.toR.below h))
 have RI:=Lib.hid (fun W (h:Below w.heap.size w W)=>cright_any ⟨sa,sn,sc⟩ c W (hc.toR.below h))
 have E:=Lib.hid (show putC c line data dirty=(c,wyZ,false) by unfold putC;rw[hr];rfl)
 have HR:=Lib.hid hr
 clear hr hc hX
 go_enter Tryz.func48,Tryz.ntmps48
 go_wp2_with (first|((with_reducible refine gD (Op.store 46 (.tmp 9) (.tmp 24)) ?_);(refine store_row row46 rfl _ _ rfl (w.heap.size+1+1) (wyC wyZ) rfl rfl (wyC_size _) (wyC_ones _) (t:=46) (old:=wyC wyZ) (h2:=wyC_size _) ?_ ?_;(·(repeat(first|(refine heap_at _ _ _ ?_;(simp only[sZ]<;>omega))|(refine(more_heap' _ _ _ _ ?_).trans ?_;(simp only[sZ]<;>omega))))));try simp only[Act.put,xA,xB,xC,fR];try simp (disch:=(first|(simp only[sZ]<;>omega)|fail)) only[more_row,alloc_row_past,alloc_row_at,drew_row,drewN_row])|((with_reducible refine gAl 35 ?_);refine alloc_row (ccC ccZ) zero35 rfl rfl ?_;try simp only[Act.put,xA,xB,xC,fR])|((with_reducible refine gAl 46 ?_);refine alloc_row (wyC wyZ) zero46 rfl rfl ?_;try simp only[Act.put,xA,xB,xC,fR])|(go_at_call 9;refine(RI.out _ (by(repeat(first|exact Below.refl _ _|(refine Below.alloc ?_ ?_ _;rotate_left;(first|omega|(simp only[sZ]<;>omega))))))).mono ?_;rw[HR.out];rintro r w1 ⟨rfl,hb⟩;obtain⟨ow,kw,rfl⟩:=more_of hb;clear hb))
 apply ret_cct2 row35 row46 rfl (w.heap.size+1) (w.heap.size+1+1) (ccC ⟨c.ways,⟨sa,sn,sc⟩⟩) (wyC wyZ) (hd:=rfl)
 all_goals(try rfl)
 ·apply cc_cells<;>simp[go_sem]
 ·apply wy_cells<;>simp[go_sem]
 refine⟨⟨sa,sn,sc⟩,by rw[E.out];rfl,?_,by(repeat(first|exact Below.refl _ _|(refine Below.alloc ?_ ?_ _;rotate_left;(first|omega|(simp only[sZ]<;>omega)))|(refine bl_more ?_ ?_ _ _;rotate_left;(simp only[sZ]<;>omega))))⟩
 rw[E.out]
 exact HC.out.below (by(repeat(first|exact Below.refl _ _|(refine Below.alloc ?_ ?_ _;rotate_left;(first|omega|(simp only[sZ]<;>omega)))|(refine bl_more ?_ ?_ _ _;rotate_left;(simp only[sZ]<;>omega)))))
theorem put_16(X:Nat→Prop)(sa:Option Addr)(sn sc:Nat)(c:Ca)(line:U)(data:By)(dirty:Bool)(hdl:data.length≤1000000)(w:World)(hX:∀ j,w.heap.size≤j→X j)(hc:CaX X w ⟨sa,sn,sc⟩ c)(hr:rightC c=true)(k at_:Nat)(hk:findC c line=(k,at_,true))(h16:(data.length:Int)=16):Calls Tryz.prog 48 #[caV c.ways ⟨sa,sn,sc⟩,.int .u32 line.v,.string (bs data),.bool dirty] w (PutP X (putC c line data dirty) w):=by
 have hn:=hc.toR.few
 simp only at hn
 have HC:=Lib.hid hc
 have HX:=Lib.hid hX
 have FI:=Lib.hid (fun W (h:Below w.heap.size w W)=>find_any ⟨sa,sn,sc⟩ c line W (hc.toR.below h))
 have RI:=Lib.hid (fun W (h:Below w.heap.size w W)=>cright_any ⟨sa,sn,sc⟩ c W (hc.toR.below h))
 have HR:=Lib.hid hr
 obtain⟨g,off,ta,tn,tc,L,y,e0,hg,hks,hLk,hgd,hcell,hSl,hWf,hat,hy,_,hsn,hpl⟩:=find_parts hc.toR hk
 subst e0
 obtain⟨d,hd⟩:∃ d,putD data=d:=⟨_,rfl⟩
 have E:=Lib.hid (put_found (dirty:=dirty) hr hk hgd hy hd)
 have htn:=hSl.few
 have htc:=hWf.le
 have HK:=Lib.hid hk
 have HSl:=Lib.hid hSl
 have HN:=Lib.hid hWf.nil
 have HY:=Lib.hid hy
 have hll:=Lib.hid hSl.len
 have HD:=Lib.hid hd
 have hdd:d=data:=by have:=HD.out;unfold putD at this;rw[if_neg (by omega)]at this;exact this.symm
 subst hdd
 have hne:d≠[]:=fun h=>by rw[h]at h16;simp at h16
 have he:(bs d).toList.isEmpty=false:=by rw[bs_isEmpty];cases h:d with|nil=>exact absurd h hne|cons _ _=>rfl
 rw[if_pos hne]at E
 clear hr hc hX hk hLk hgd hSl hWf hsn hpl hy hd
 go_enter Tryz.func48,Tryz.ntmps48
 go_upto_region 7 with((first|((with_reducible refine gAl 35 ?_);refine alloc_row (ccC ccZ) zero35 rfl rfl ?_;try simp only[Act.put,xA,xB,xC,fR])|((with_reducible refine gAl 46 ?_);refine alloc_row (wyC wyZ) zero46 rfl rfl ?_;try simp only[Act.put,xA,xB,xC,fR])|(go_at_call 9;refine(RI.out _ (by(repeat(first|exact Below.refl _ _|(refine Below.alloc ?_ ?_ _;rotate_left;(first|omega|(simp only[sZ]<;>omega))))))).mono ?_;rw[HR.out];rintro r w1 ⟨rfl,hb⟩;obtain⟨ow,kw,rfl⟩:=more_of hb;clear hb)|(go_at_call 67;refine(FI.out _ (by(repeat(first|exact Below.refl _ _|(refine Below.alloc ?_ ?_ _;rotate_left;(first|omega|(simp only[sZ]<;>omega)))|(refine bl_more ?_ ?_ _ _;rotate_left;(simp only[sZ]<;>omega)))))).mono ?_;unfold FinP;rw[HK.out];rintro r w1 ⟨rfl,hb⟩;obtain⟨ow2,kw2,rfl⟩:=more_of hb;clear hb)))
 (refine wp_named ?_;intro W hW;have hG0:W.heap[w.heap.size]?=some (.cells (ccC ⟨c.ways,⟨some ⟨g,off,none⟩,sn,sc⟩⟩) _ (0,0)):=(by rw[hW];(repeat(first|(refine heap_at _ _ _ ?_;(with_reducible rfl))|(refine(more_heap' _ _ _ _ ?_).trans ?_;(simp only[sZ]<;>omega))|(refine(heap_past _ _ _ ?_).trans ?_;(simp only[sZ]<;>omega)))));obtain⟨hlt0,hc0,hd0,hf0,he0⟩:=nmF hG0;have hG2:W.heap[w.heap.size+1]?=some (.cells (ccC ccZ) _ (0,0)):=(by rw[hW];(repeat(first|(refine heap_at _ _ _ ?_;(simp only[sZ]<;>omega))|(refine(more_heap' _ _ _ _ ?_).trans ?_;(simp only[sZ]<;>omega))|(refine(heap_past _ _ _ ?_).trans ?_;(simp only[sZ]<;>omega)))));obtain⟨hlt2,hc2,hd2,hf2,he2⟩:=nmF hG2;have hG4:W.heap[w.heap.size+1+1]?=some (.cells (wyC wyZ) _ (0,0)):=(by rw[hW];(repeat(first|(refine heap_at _ _ _ ?_;(simp only[sZ]<;>omega))|(refine(more_heap' _ _ _ _ ?_).trans ?_;(simp only[sZ]<;>omega)))));obtain⟨hlt4,hc4,hd4,hf4,he4⟩:=nmF hG4;have hBW:Below w.heap.size w W:=(by rw[hW];(repeat(first|exact Below.refl _ _|(refine Below.alloc ?_ ?_ _;rotate_left;(first|omega|(simp only[sZ]<;>omega)))|(refine bl_more ?_ ?_ _ _;rotate_left;(simp only[sZ]<;>omega)))));have hBWd:=hBW.drew;have hsW:=hBW.size;clear hW)
 have q1:W.cell? ⟨g,off+k,none⟩=some (.slice ta tn tc):=(hBW.cell (p:=⟨g,off+k,none⟩) hg).trans hcell
 have HCX:=Lib.hid (HC.out.mono (Y:=fun j=>X j∧j≠w.heap.size+1∧j≠w.heap.size+1+1) (fun j h1 h2=>⟨h1,by omega,by omega⟩))
 have HXW:=Lib.hid (show ∀ j,W.heap.size≤j→X j∧j≠w.heap.size+1∧j≠w.heap.size+1+1 from fun j hj=>⟨HX.out j (by omega),by omega,by omega⟩)
 have at0:(0:Int)≤(at_:Int):=by omega
 have at1:(at_:Int)<(tn:Int):=by omega
 have hgW:g<W.heap.size:=by omega
 have H35:=Lib.hid hG2
 have H46:=Lib.hid hG4
 clear hG0 hG2 hG4 hd0 hd2 hd4 he0 he2 he4 hf0
 go_upto_region 8 with(fail)
 refine(front_any ta tn tc L at_ _ (HSl.out.below hBW) HN.out htc hat).mono ?_
 rintro r w1 ⟨v,rfl,ho,hb1⟩
 have hfe:=front_eq HY.out
 rw[hfe]at ho
 obtain⟨gf,cf,cur,rfl,hgf,_,hcf,_,_⟩:=ho.lies (by simp)
 obtain⟨r1,r2⟩:=own_cell ho wyC_size (i:=0) (j:=1) (x:=y) (u:=.bool y.dirty) rfl rfl
 obtain⟨r3,r4⟩:=own_cell ho wyC_size (i:=0) (j:=2) (x:=y) (u:=.string (bs y.data)) rfl rfl
 simp only[Nat.zero_mul,Nat.zero_add]at r1 r2 r3 r4
 have HO:=Lib.hid ho
 obtain⟨of_,kf,rfl⟩:=more_of hb1
 clear hb1 ho hfe q1 hcell
 have hlf:(y::(L.take at_++L.drop (at_+1))).length=tn:=by have:=hll.out;have:=List.length_take (i:=at_) (l:=L);simp;omega
 rw[hlf]at HO ⊢
 have ngf0:¬ w.heap.size=gf:=by omega
 have ngf2:¬ w.heap.size+1=gf:=by omega
 have ngf3:¬ w.heap.size+1+1=gf:=by omega
 have tn0:(0:Int)<(tn:Int):=by omega
 have HBW:=Lib.hid hBW
 have HSW:=Lib.hid hsW
 clear hBW hBWd hlf
 cases hyd:y.dirty
 case' true=>
  rw[hyd]at r1 E
  have HO2:=Lib.hid (((HO.out.set0 wyC_size (x':={ y with data:=d }) (u:=.string (bs d)) (j:=2) (by decide) rfl).set0 wyC_size (x':={ y with data:=d,dirty:=true }) (u:=.bool true) (j:=1) (by decide) rfl))
  have HB3:=Lib.hid (show Below w.heap.size w ((((more W of_ kf).setCell ⟨gf,2,none⟩ (.string (bs d))).setCell ⟨gf,1,none⟩ (.bool true)))from((bl_more HBW.out HSW.out of_ kf).setCell (p:=⟨gf,2,none⟩) (by show _≤gf;omega) _).setCell (p:=⟨gf,1,none⟩) (by show _≤gf;omega) _)
  have G1:=Lib.hid (show((((more W of_ kf).setCell ⟨gf,2,none⟩ (.string (bs d))).setCell ⟨gf,1,none⟩ (.bool true))).heap[w.heap.size+1]?=some (.cells (ccC ccZ) 35 (0,0))from(Below.heap_setCell _ _ _ _ (by dsimp only;omega)).trans ((Below.heap_setCell _ _ _ _ (by dsimp only;omega)).trans ((more_heap' _ _ _ _ hlt2).trans H35.out)))
  have G2:=Lib.hid (show((((more W of_ kf).setCell ⟨gf,2,none⟩ (.string (bs d))).setCell ⟨gf,1,none⟩ (.bool true))).heap[w.heap.size+1+1]?=some (.cells (wyC wyZ) 46 (0,0))from(Below.heap_setCell _ _ _ _ (by dsimp only;omega)).trans ((Below.heap_setCell _ _ _ _ (by dsimp only;omega)).trans ((more_heap' _ _ _ _ hlt4).trans H46.out)))
  have GS:((((more W of_ kf).setCell ⟨gf,2,none⟩ (.string (bs d))).setCell ⟨gf,1,none⟩ (.bool true))).heap.size=W.heap.size+of_.size:=by simp only[World.size_setCell,more_size]
 case' false=>
  rw[hyd]at r1 E
  have HO2:=Lib.hid (((HO.out.set0 wyC_size (x':={ y with data:=d }) (u:=.string (bs d)) (j:=2) (by decide) rfl).set0 wyC_size (x':={ y with data:=d,dirty:=dirty }) (u:=.bool dirty) (j:=1) (by decide) rfl))
  have HB3:=Lib.hid (show Below w.heap.size w ((((more W of_ kf).setCell ⟨gf,2,none⟩ (.string (bs d))).setCell ⟨gf,1,none⟩ (.bool dirty)))from((bl_more HBW.out HSW.out of_ kf).setCell (p:=⟨gf,2,none⟩) (by show _≤gf;omega) _).setCell (p:=⟨gf,1,none⟩) (by show _≤gf;omega) _)
  have G1:=Lib.hid (show((((more W of_ kf).setCell ⟨gf,2,none⟩ (.string (bs d))).setCell ⟨gf,1,none⟩ (.bool dirty))).heap[w.heap.size+1]?=some (.cells (ccC ccZ) 35 (0,0))from(Below.heap_setCell _ _ _ _ (by dsimp only;omega)).trans ((Below.heap_setCell _ _ _ _ (by dsimp only;omega)).trans ((more_heap' _ _ _ _ hlt2).trans H35.out)))
  have G2:=Lib.hid (show((((more W of_ kf).setCell ⟨gf,2,none⟩ (.string (bs d))).setCell ⟨gf,1,none⟩ (.bool dirty))).heap[w.heap.size+1+1]?=some (.cells (wyC wyZ) 46 (0,0))from(Below.heap_setCell _ _ _ _ (by dsimp only;omega)).trans ((Below.heap_setCell _ _ _ _ (by dsimp only;omega)).trans ((more_heap' _ _ _ _ hlt4).trans H46.out)))
  have GS:((((more W of_ kf).setCell ⟨gf,2,none⟩ (.string (bs d))).setCell ⟨gf,1,none⟩ (.bool dirty))).heap.size=W.heap.size+of_.size:=by simp only[World.size_setCell,more_size]
 all_goals
  go_wp2_with (first|(go_at_call 84;(have hO3:=HO2.out.slv wyC_size;refine(with_any (fun j=>X j∧j≠w.heap.size+1∧j≠w.heap.size+1+1) ⟨some ⟨g,off,none⟩,sn,sc⟩ c k ⟨some ⟨gf,0,none⟩,tn,cf⟩ ({ y with data:=d,dirty:=true }::(L.take at_++L.drop (at_+1))) _ (fun j hj=>HXW.out j (by rw[GS]at hj;omega)) (HCX.out.below HB3.out) hks hO3.1 hO3.2.1 (fun _ p hp=>by cases hp;exact HXW.out _ hgf)).mono ?_);rintro r w1 ⟨⟨s1,s2,s3⟩,rfl,hca,hb4⟩;have HCA:=Lib.hid hca;obtain⟨ow4,kw4,rfl⟩:=more_of hb4;clear hb4 hO3 hca)|((with_reducible refine gD (Op.store 35 (.tmp 8) (.tmp 62)) ?_);(refine store_row row35 rfl _ _ rfl (w.heap.size+1) (ccC ⟨c.ways,⟨s1,s2,s3⟩⟩) rfl rfl (ccC_size _) (ccC_ones _) (t:=35) (old:=ccC ccZ) ((more_heap' _ _ _ _ (by rw[GS];omega)).trans G1.out) (ccC_size _) ?_);try simp only[Act.put,xA,xB,xC,fR])|((with_reducible refine gD (Op.store 46 (.tmp 9) (.tmp 63)) ?_);(refine store_row row46 rfl _ _ rfl (w.heap.size+1+1) (wyC wyZ) rfl rfl (wyC_size _) (wyC_ones _) (t:=46) (old:=wyC wyZ) ((row_other _ _ _ _ (by omega)).trans ((more_heap' _ _ _ _ (by rw[GS];omega)).trans G2.out)) (wyC_size _) ?_);try simp only[Act.put,xA,xB,xC,fR])|(go_at_call 84;(have hO3:=HO2.out.slv wyC_size;refine(with_any (fun j=>X j∧j≠w.heap.size+1∧j≠w.heap.size+1+1) ⟨some ⟨g,off,none⟩,sn,sc⟩ c k ⟨some ⟨gf,0,none⟩,tn,cf⟩ ({ y with data:=d,dirty:=dirty }::(L.take at_++L.drop (at_+1))) _ (fun j hj=>HXW.out j (by rw[GS]at hj;omega)) (HCX.out.below HB3.out) hks hO3.1 hO3.2.1 (fun _ p hp=>by cases hp;exact HXW.out _ hgf)).mono ?_);rintro r w1 ⟨⟨s1,s2,s3⟩,rfl,hca,hb4⟩;have HCA:=Lib.hid hca;obtain⟨ow4,kw4,rfl⟩:=more_of hb4;clear hb4 hO3 hca))
  apply ret_cct row35 row46 rfl (w.heap.size+1) (w.heap.size+1+1) (ccC ⟨c.ways,⟨s1,s2,s3⟩⟩) (wyC wyZ) (t:=35) (t':=46) (fr:=(0,0)) (fr':=(0,0)) (hd:=rfl)
  all_goals(try rfl)
  ·refine(row_other _ _ _ _ (by omega)).trans ?_
   exact setRow_heap _ _ (ccC ccZ) _ 35 (0,0) ((more_heap' _ _ _ _ (by rw[GS];omega)).trans G1.out)
  ·exact setRow_heap _ _ (wyC wyZ) _ 46 (0,0) ((row_other _ _ _ _ (by omega)).trans ((more_heap' _ _ _ _ (by rw[GS];omega)).trans G2.out))
  refine⟨⟨s1,s2,s3⟩,by rw[E.out];rfl,?_,?_⟩
  ·rw[E.out]
   exact(HCA.out.same (X:=fun j=>X j∧j≠w.heap.size+1∧j≠w.heap.size+1+1) (by rw[row_size,row_size];exact Nat.le_refl _) (fun j hj=>(row_other _ _ _ _ hj.2.2).trans (row_other _ _ _ _ hj.2.1))).mono (fun j h _=>h.1)
  ·exact bl_row (bl_row (bl_more HB3.out (by rw[GS];omega) _ _) (Nat.le_succ _) _) (by omega) _
end Go.Proofs.YtdmhfogegfmnfaaGreatDoor
