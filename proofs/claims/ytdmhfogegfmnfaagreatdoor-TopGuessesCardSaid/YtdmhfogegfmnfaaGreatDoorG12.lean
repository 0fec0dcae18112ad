/- Contracts: bytes written into a line. Conditions: the cache reads as one. Contracts: memory with stores written into it. Conditions: the stores read as a list. Contracts: memory below, under and behind all; a line cut out. Conditions: the requests, the cache, the stores read as such. Contracts: the first store drained. Conditions: the stores, the cache read as such. -/
import Derived.Test.YtdmhfogegfmnfaaGreatDoorG00
import Derived.Test.YtdmhfogegfmnfaaGreatDoorG01
import Derived.Test.YtdmhfogegfmnfaaGreatDoorG02
import Derived.Test.YtdmhfogegfmnfaaGreatDoorG03
import Derived.Test.YtdmhfogegfmnfaaGreatDoorG04
import Derived.Test.YtdmhfogegfmnfaaGreatDoorG08
import Derived.Test.YtdmhfogegfmnfaaGreatDoorG10
import Derived.Test.YtdmhfogegfmnfaaGreatDoorG11
import Derived.Deep.RegionLaw
set_option maxRecDepth 100000
set_option maxHeartbeats 4000000
set_option linter.unusedVariables false
set_option linter.unusedSimpArgs false
namespace Go.Proofs.YtdmhfogegfmnfaaGreatDoor
open Go.RowKit
theorem bs_isEmpty(l:By):(bs l).toList.isEmpty=l.isEmpty:=by rw[ByteArray.toList_eq];simp[bs]
def WriP(X:Nat→Prop)(r:Ca×Bool)(w:World)(e:Ending)(w':World):Prop:=∃ s',e= .returned (.tuple #[caV r.1.ways s',.bool r.2])∧CaX X w' s' r.1∧Below w.heap.size w w'
theorem front_eq{L:List Wy}{at_:Nat}{y:Wy}(h:L[at_]?=some y):frontW L at_=y::(L.take at_++L.drop (at_+1)):=by
 unfold frontW
 rw[List.getD_eq_getElem?_getD,h];rfl
theorem data_16{c:Ca}{k at_:Nat}{L:List Wy}{y:Wy}(hr:rightC c=true)(hL:c.sets[k]?=some L)(hy:L[at_]?=some y):y.data.length=0∨y.data.length=16:=(way_parts.1 (((right_iff.1 hr).2 k L hL).2 at_ y hy)).2.2.1
theorem write_at(X:Nat→Prop)(sa:Option Addr)(sn sc:Nat)(c:Ca)(ad:U)(b:By)(hb:b.length≤1000000)(w:World)(hX:∀ j,w.heap.size≤j→X j)(hc:CaX X w ⟨sa,sn,sc⟩ c):Calls Tryz.prog 104 #[caV c.ways ⟨sa,sn,sc⟩,.int .u32 ad.v,.string (bs b)] w (WriP X (writeC c ad b) w):=by
 have hn:=hc.toR.few
 simp only at hn
 have HC:=Lib.hid hc
 have HX:=Lib.hid hX
 have x0:=ad.lo
 have x1:=ad.hi
 have y0:=(lineU ad).lo
 have y1:=(lineU ad).hi
 have FI:=Lib.hid (fun W (h:Below w.heap.size w W)=>find_any ⟨sa,sn,sc⟩ c ad W (hc.toR.below h))
 cases hf:(findC c ad).2.2 with
 | false=>
  have E:=Lib.hid (show writeC c ad b=(c,false) by unfold writeC;simp[hf])
  have HF:=Lib.hid hf
  clear hf hc hX
  go_enter Tryz.func104,Tryz.ntmps104
  go_wp2_with (first|((with_reducible refine gAl 35 ?_);refine alloc_row (ccC ccZ) zero35 rfl rfl ?_;try simp only[Act.put,xA,xB,xC,fR])|(go_at_call 67;refine(FI.out _ (by(repeat(first|exact Below.refl _ _|(refine Below.alloc ?_ ?_ _;rotate_left;(first|omega|(simp only[sZ]<;>omega))))))).mono ?_;unfold FinP;rw[HF.out];rintro r w1 ⟨rfl,hb⟩;obtain⟨ow,kw,rfl⟩:=more_of hb;clear hb))
  apply ret_ct2 row35 rfl (w.heap.size+1) (ccC ⟨c.ways,⟨sa,sn,sc⟩⟩) rfl (ccC_size _) (hd:=rfl)
  ·apply cc_cells<;>simp[go_sem]
  refine⟨⟨sa,sn,sc⟩,by rw[E.out];rfl,?_,by(repeat(first|exact Below.refl _ _|(refine Below.alloc ?_ ?_ _;rotate_left;(first|omega|(simp only[sZ]<;>omega)))|(refine bl_more ?_ ?_ _ _;rotate_left;(simp only[sZ]<;>omega))))⟩
  rw[E.out]
  exact HC.out.below (by(repeat(first|exact Below.refl _ _|(refine Below.alloc ?_ ?_ _;rotate_left;(first|omega|(simp only[sZ]<;>omega)))|(refine bl_more ?_ ?_ _ _;rotate_left;(simp only[sZ]<;>omega)))))
 | true=>
  obtain⟨k,at_,hk⟩:∃ k at_,findC c ad=(k,at_,true):=⟨_,_,by rw[← hf]⟩
  obtain⟨g,off,ta,tn,tc,L,y,e0,hg,hks,hLk,hgd,hcell,hSl,hWf,hat,hy,hr,hsn,hpl⟩:=find_parts hc.toR hk
  subst e0
  have htn:=hSl.few
  have hd16:=data_16 hr hLk hy
  have hfr:(lineU ad).v=ad.v-ad.v % 16:=by show(ad.v-ad.v % 16) % 4294967296=_;omega
  obtain⟨g2,off2,y',eta,hg2,hy',hcy⟩:=hSl.at_ hat
  have:y'=y:=Option.some.inj (hy'.symm.trans hy)
  subst this
  subst eta
  have c2:w.cell? ⟨g2,off2+at_*3+2,none⟩=some (.string (bs y'.data)):=hcy 2 _ rfl
  have E0:writeC c ad b=if y'.data=[]∨16-((ad.v-(lineU ad).v).toNat:Int)<b.length then(c,false)else(withC c k (setHead (frontW L at_) fun y=>{ y with data:=y'.data.take (ad.v-(lineU ad).v).toNat++b++y'.data.drop ((ad.v-(lineU ad).v).toNat+b.length),dirty:=true }),true):=by
   unfold writeC
   simp only[hk,if_true,hgd,List.getD_eq_getElem?_getD,hy,Option.getD_some]
  obtain⟨f,hfd⟩:∃ f:Int,ad.v-(lineU ad).v=f:=⟨_,rfl⟩
  have f0:0≤f∧f≤15:=by omega
  obtain⟨f0,f1⟩:=f0
  clear hfr
  have HK:=Lib.hid hk
  have HSl:=Lib.hid hSl
  have HWf:=Lib.hid hWf
  have HY:=Lib.hid hy
  have htc:=hWf.le
  by_cases hq:y'.data=[]∨16-(f.toNat:Int)<b.length
  ·have E:=Lib.hid (show writeC c ad b=(c,false) by rw[E0,hfd,if_pos hq])
   clear E0 hf hc hX hk hLk hgd hSl hWf hr hsn hpl hy hcy hy'
   go_enter Tryz.func104,Tryz.ntmps104
   go_upto_region 4 with((first|((with_reducible refine gAl 35 ?_);refine alloc_row (ccC ccZ) zero35 rfl rfl ?_;try simp only[Act.put,xA,xB,xC,fR])|(go_at_call 67;refine(FI.out _ (by(repeat(first|exact Below.refl _ _|(refine Below.alloc ?_ ?_ _;rotate_left;(first|omega|(simp only[sZ]<;>omega))))))).mono ?_;unfold FinP;rw[HK.out];rintro r w1 ⟨rfl,hb⟩;obtain⟨ow,kw,rfl⟩:=more_of hb;clear hb)))
   (refine wp_named ?_;intro W hW;have hG0:W.heap[w.heap.size]?=some (.cells (ccC ⟨c.ways,⟨some ⟨g,off,none⟩,sn,sc⟩⟩) _ (0,0)):=(by rw[hW];(repeat(first|(refine heap_at _ _ _ ?_;(with_reducible rfl))|(refine(more_heap' _ _ _ _ ?_).trans ?_;(simp only[sZ]<;>omega))|(refine(heap_past _ _ _ ?_).trans ?_;(simp only[sZ]<;>omega)))));obtain⟨hlt0,hc0,hd0,hf0,he0⟩:=nmF hG0;have hG2:W.heap[w.heap.size+1]?=some (.cells (ccC ccZ) _ (0,0)):=(by rw[hW];(repeat(first|(refine heap_at _ _ _ ?_;(simp only[sZ]<;>omega))|(refine(more_heap' _ _ _ _ ?_).trans ?_;(simp only[sZ]<;>omega)))));obtain⟨hlt2,hc2,hd2,hf2,he2⟩:=nmF hG2;have hBW:Below w.heap.size w W:=(by rw[hW];(repeat(first|exact Below.refl _ _|(refine Below.alloc ?_ ?_ _;rotate_left;(first|omega|(simp only[sZ]<;>omega)))|(refine bl_more ?_ ?_ _ _;rotate_left;(simp only[sZ]<;>omega)))));have hBWd:=hBW.drew;have hsW:=hBW.size;clear hW)
   have q1:W.cell? ⟨g,off+k,none⟩=some (.slice (some ⟨g2,off2,none⟩) tn tc):=(hBW.cell (p:=⟨g,off+k,none⟩) hg).trans hcell
   have q3:W.cell? ⟨g2,off2+at_*3+2,none⟩=some (.string (bs y'.data)):=(hBW.cell (p:=⟨g2,off2+at_*3+2,none⟩) hg2).trans c2
   have HCX:=Lib.hid (HC.out.mono (Y:=fun j=>X j∧j≠w.heap.size+1) (fun j h1 h2=>⟨h1,by omega⟩))
   have HXW:=Lib.hid (show ∀ j,W.heap.size≤j→X j∧j≠w.heap.size+1 from fun j hj=>⟨HX.out j (by omega),by omega⟩)
   have at0:(0:Int)≤(at_:Int):=by omega
   have at1:(at_:Int)<(tn:Int):=by omega
   have hgW:g<W.heap.size:=by omega
   have HQ:=Lib.hid hq
   cases he:(bs y'.data).toList.isEmpty
   case' false=>
    have hfb:decide (16-f<(b.length:Int))=true:=by
     apply decide_eq_true
     rcases HQ.out with h|h
     ·rw[bs_isEmpty,h]at he;cases he
     ·omega
   all_goals
    clear hq
    go_wp2_with ((go_at_call 28;refine(line_any' _ _).mono ?_;rintro r w1 ⟨rfl,rfl⟩))
    apply ret_ct2 row35 rfl (w.heap.size+1) (ccC ⟨c.ways,⟨some ⟨g,off,none⟩,sn,sc⟩⟩) rfl (ccC_size _) (hd:=rfl)
    ·apply cc_cells<;>simp[go_sem,hc2,hlt2]
    refine⟨⟨some ⟨g,off,none⟩,sn,sc⟩,by rw[E.out];rfl,?_,?_⟩
    ·rw[E.out]
     exact(((HCX.out.below hBW).same (X:=fun j=>X j∧j≠w.heap.size+1) (by simp only[World.size_setCell];exact Nat.le_refl _) (fun j hj=>Go.Proofs.YtdmhfogegfmnfaaGreatDoor.off2 W _ _ _ j hj.2)).mono (fun j h _=>h.1))
    ·exact(hBW.setCell (p:=⟨w.heap.size+1,0,none⟩) (Nat.le_succ _) _).setCell (p:=⟨w.heap.size+1,1,none⟩) (Nat.le_succ _) _
  ·have E:=Lib.hid (show writeC c ad b=(withC c k (setHead (frontW L at_) fun y=>{ y with data:=y'.data.take f.toNat++b++y'.data.drop (f.toNat+b.length),dirty:=true }),true) by rw[E0,hfd,if_neg hq])
   have hne:y'.data≠[]:=fun h=>hq (Or.inl h)
   have hlen:y'.data.length=16:=by
    rcases hd16 with h|h
    ·exact absurd (List.eq_nil_of_length_eq_zero h) hne
    ·exact h
   have hbl:(b.length:Int)≤16-f:=by
    have:=fun h=>hq (Or.inr h)
    omega
   have he:(bs y'.data).toList.isEmpty=false:=by rw[bs_isEmpty];cases h:y'.data with|nil=>exact absurd h hne|cons _ _=>rfl
   have hfb:decide (16-f<(b.length:Int))=false:=by apply decide_eq_false;omega
   clear E0 hf hc hX hk hLk hgd hSl hWf hr hsn hpl hy hcy hy' hq hd16
   go_enter Tryz.func104,Tryz.ntmps104
   go_upto_region 4 with((first|((with_reducible refine gAl 35 ?_);refine alloc_row (ccC ccZ) zero35 rfl rfl ?_;try simp only[Act.put,xA,xB,xC,fR])|(go_at_call 67;refine(FI.out _ (by(repeat(first|exact Below.refl _ _|(refine Below.alloc ?_ ?_ _;rotate_left;(first|omega|(simp only[sZ]<;>omega))))))).mono ?_;unfold FinP;rw[HK.out];rintro r w1 ⟨rfl,hb⟩;obtain⟨ow,kw,rfl⟩:=more_of hb;clear hb)))
   (refine wp_named ?_;intro W hW;have hG0:W.heap[w.heap.size]?=some (.cells (ccC ⟨c.ways,⟨some ⟨g,off,none⟩,sn,sc⟩⟩) _ (0,0)):=(by rw[hW];(repeat(first|(refine heap_at _ _ _ ?_;(with_reducible rfl))|(refine(more_heap' _ _ _ _ ?_).trans ?_;(simp only[sZ]<;>omega))|(refine(heap_past _ _ _ ?_).trans ?_;(simp only[sZ]<;>omega)))));obtain⟨hlt0,hc0,hd0,hf0,he0⟩:=nmF hG0;have hG2:W.heap[w.heap.size+1]?=some (.cells (ccC ccZ) _ (0,0)):=(by rw[hW];(repeat(first|(refine heap_at _ _ _ ?_;(simp only[sZ]<;>omega))|(refine(more_heap' _ _ _ _ ?_).trans ?_;(simp only[sZ]<;>omega)))));obtain⟨hlt2,hc2,hd2,hf2,he2⟩:=nmF hG2;have hBW:Below w.heap.size w W:=(by rw[hW];(repeat(first|exact Below.refl _ _|(refine Below.alloc ?_ ?_ _;rotate_left;(first|omega|(simp only[sZ]<;>omega)))|(refine bl_more ?_ ?_ _ _;rotate_left;(simp only[sZ]<;>omega)))));have hBWd:=hBW.drew;have hsW:=hBW.size;clear hW)
   have q1:W.cell? ⟨g,off+k,none⟩=some (.slice (some ⟨g2,off2,none⟩) tn tc):=(hBW.cell (p:=⟨g,off+k,none⟩) hg).trans hcell
   have q3:W.cell? ⟨g2,off2+at_*3+2,none⟩=some (.string (bs y'.data)):=(hBW.cell (p:=⟨g2,off2+at_*3+2,none⟩) hg2).trans c2
   have HCX:=Lib.hid (HC.out.mono (Y:=fun j=>X j∧j≠w.heap.size+1) (fun j h1 h2=>⟨h1,by omega⟩))
   have HXW:=Lib.hid (show ∀ j,W.heap.size≤j→X j∧j≠w.heap.size+1 from fun j hj=>⟨HX.out j (by omega),by omega⟩)
   have at0:(0:Int)≤(at_:Int):=by omega
   have at1:(at_:Int)<(tn:Int):=by omega
   have hgW:g<W.heap.size:=by omega
   go_upto_region 9 with((go_at_call 28;refine(line_any' _ _).mono ?_;rintro r w1 ⟨rfl,rfl⟩))
   refine(front_any (some ⟨g2,off2,none⟩) tn tc L at_ _ (HSl.out.below hBW) (fun h=>by cases h) htc hat).mono ?_
   rintro r w1 ⟨v,rfl,ho,hb1⟩
   have hfe:=front_eq HY.out
   rw[hfe]at ho
   obtain⟨gf,cf,cur,rfl,hgf,_,hcf,_,_⟩:=ho.lies (by simp)
   obtain⟨r1,r2⟩:=own_cell ho wyC_size (i:=0) (j:=1) (x:=y') (u:=.bool y'.dirty) rfl rfl
   obtain⟨r3,r4⟩:=own_cell ho wyC_size (i:=0) (j:=2) (x:=y') (u:=.string (bs y'.data)) rfl rfl
   simp only[Nat.zero_mul,Nat.zero_add]at r1 r2 r3 r4
   have HO:=Lib.hid ho
   obtain⟨of_,kf,rfl⟩:=more_of hb1
   clear hb1 ho hfe
   have hlf:(y'::(L.take at_++L.drop (at_+1))).length=tn:=by have:=(HSl.out.len);have:=List.length_take (i:=at_) (l:=L);simp;omega
   rw[hlf]at HO ⊢
   have ngf0:¬ w.heap.size=gf:=by omega
   have ngf2:¬ w.heap.size+1=gf:=by omega
   have tn0:(0:Int)<(tn:Int):=by omega
   go_upto_region 9 with(fail)
   have s1:(bs y'.data).size=16:=by rw[bs_size,hlen]
   have f2:(f:Int)≤16:=by omega
   have f3:f+(b.length:Int)≤16:=by omega
   have f4:0≤f+(b.length:Int):=by omega
   have hstr:(bs y'.data).extract 0 f.toNat++bs b++(bs y'.data).extract (f+(b.length:Int)).toNat 16=bs (y'.data.take f.toNat++b++y'.data.drop (f.toNat+b.length)):=by
    rw[bs_extract,bs_extract,bs_append,bs_append,List.drop_zero,List.take_of_length_le (by omega:y'.data.length≤16),show(f+(b.length:Int)).toNat=f.toNat+b.length by omega]
   have HSTR:=Lib.hid hstr
   clear hstr
   go_region
   rw[HSTR.out]
   obtain⟨D,hD⟩:∃ D,y'.data.take f.toNat++b++y'.data.drop (f.toNat+b.length)=D:=⟨_,rfl⟩
   rw[hD]
   rw[hD]at E
   have hsf:(more W of_ kf).heap.size=W.heap.size+of_.size:=by simp only[more_size]
   have HO2:=Lib.hid ((HO.out.set0 wyC_size (x':={ y' with data:=D }) (u:=.string (bs D)) (j:=2) (by decide) rfl).drew.set0 wyC_size (x':={ y' with data:=D,dirty:=true }) (u:=.bool true) (j:=1) (by decide) rfl)
   clear hD
   go_wp2_with (first|(go_at_call 84;(have hO3:=HO2.out.slv wyC_size;have hB3:Below w.heap.size w ((((more W of_ kf).setCell ⟨gf,2,none⟩ (.string (bs D))).drew).setCell ⟨gf,1,none⟩ (.bool true)):=((((bl_more hBW hsW of_ kf).setCell (p:=⟨gf,2,none⟩) (by show _≤gf;omega) _).drew).setCell (p:=⟨gf,1,none⟩) (by show _≤gf;omega) _);refine(with_any (fun j=>X j∧j≠w.heap.size+1) ⟨some ⟨g,off,none⟩,sn,sc⟩ c k ⟨some ⟨gf,0,none⟩,tn,cf⟩ ({ y' with data:=D,dirty:=true }::(L.take at_++L.drop (at_+1))) _ (fun j hj=>HXW.out j (by simp only[World.size_setCell,World.size_drew,more_size]at hj;omega)) (HCX.out.below hB3) hks hO3.1 hO3.2.1 (fun _ p hp=>by cases hp;exact HXW.out _ hgf)).mono ?_);rintro r w1 ⟨⟨s1,s2,s3⟩,rfl,hca,hb4⟩;obtain⟨ow4,kw4,rfl⟩:=more_of hb4;clear hb4 hO3)|((with_reducible refine gD (Op.store 35 (.tmp 6) (.tmp 76)) ?_);(refine store_row row35 rfl _ _ rfl (w.heap.size+1) (ccC ⟨c.ways,⟨s1,s2,s3⟩⟩) rfl rfl (ccC_size _) (ccC_ones _) (t:=35) (old:=ccC ccZ) (h2:=ccC_size _) ?_ ?_;(·(repeat(first|assumption|(refine(more_heap' _ _ _ _ ?_).trans ?_;(first|omega|(simp only[sZ]<;>omega)))|(refine(Below.heap_setCell _ _ _ _ ?_).trans ?_;(dsimp only;omega))))));try simp only[Act.put,xA,xB,xC,fR]))
   apply ret_ct row35 rfl (w.heap.size+1) (ccC ⟨c.ways,⟨s1,s2,s3⟩⟩) rfl (ccC_size _) (t:=35) (fr:=(0,0)) (hd:=rfl)
   ·refine setRow_heap _ _ (ccC ccZ) _ 35 (0,0) ?_
    (repeat(first|assumption|(refine(more_heap' _ _ _ _ ?_).trans ?_;(first|omega|(simp only[sZ]<;>omega)))|(refine(Below.heap_setCell _ _ _ _ ?_).trans ?_;(dsimp only;omega))))
   refine⟨⟨s1,s2,s3⟩,by rw[E.out];rfl,?_,?_⟩
   ·rw[E.out,front_eq HY.out]
    exact(hca.same (X:=fun j=>X j∧j≠w.heap.size+1) (by rw[row_size];exact Nat.le_refl _) (fun j hj=>row_other _ _ _ _ hj.2)).mono (fun j h _=>h.1)
   ·exact bl_row (bl_more ((((bl_more hBW hsW of_ kf).setCell (p:=⟨gf,2,none⟩) (by show _≤gf;omega) _).drew).setCell (p:=⟨gf,1,none⟩) (by show _≤gf;omega) _) (by simp only[World.size_setCell,World.size_drew,more_size];omega) _ _) (Nat.le_succ _) _
theorem write_any(X:Nat→Prop)(s:Sv)(c:Ca)(ad:U)(b:By)(hb:b.length≤1000000)(w:World)(hX:∀ j,w.heap.size≤j→X j)(hc:CaX X w s c):Calls Tryz.prog 104 #[caV c.ways s,.int .u32 ad.v,.string (bs b)] w (WriP X (writeC c ad b) w):=write_at X s.a s.n s.c c ad b hb w hX hc
def overS(m:By)(p:Pt):By:=if p.addr.v<m.length then lay m p.addr.v.toNat p.data else m
theorem overM_cons(m:By)(p:Pt)(l:List Pt):overM m (p::l)=overM (overS m p) l:=rfl
theorem overM_app:∀(l:List Pt) (m:By) (p:Pt),overM m (l++[p])=overS (overM m l) p
 | [],m,p=>rfl
 | q::l,m,p=>by rw[List.cons_append,overM_cons,overM_app l,overM_cons]
theorem overS_len(m:By)(p:Pt):(overS m p).length=m.length:=by
 have:=p.addr.lo
 unfold overS
 split
 ·exact lay_len _ _ _ (by omega)
 ·rfl
theorem overM_len:∀(l:List Pt) (m:By),(overM m l).length=m.length
 | [],m=>rfl
 | p::l,m=>by rw[overM_cons,overM_len l,overS_len]
theorem overM_take{m:By}{L:List Pt}{k:Nat}{p:Pt}(h:L[k]?=some p):overM m (L.take (k+1))=overS (overM m (L.take k)) p:=by
 have hk:=(List.getElem?_eq_some_iff.1 h).1
 rw[List.take_succ_eq_append_getElem hk,overM_app,(List.getElem?_eq_some_iff.1 h).2]
theorem rowB_str{w:World}{g:Nat}{m:By}(h:RowB w g m):∀ j v,((m.map fun b=>(b.toNat:Int)).map (Value.int .u8))[j]?=some v→w.cell? ⟨g,0+j,none⟩=some v:=by
 intro j v hv
 have hj:=(List.getElem?_eq_some_iff.1 hv).1
 simp only[List.length_map]at hj
 rw[Nat.zero_add,(h.2 j hj).1,← hv]
 simp[hj]
theorem byOf_map(m:By):byOf (m.map fun b=>(b.toNat:Int))=m:=by
 unfold byOf
 rw[List.map_map]
 have:(fun n:Int=>UInt8.ofNat n.toNat) ∘ (fun b:UInt8=>(b.toNat:Int))=id:=by funext b;simp
 rw[this,List.map_id]
theorem over_any(m:By)(hm:m.length≤1000000)(A:Option Addr)(n C:Nat)(L:List Pt)(w:World)(hL:Sl ptC 2 w A n L):Calls Tryz.prog 50 #[.string (bs m),.slice A n C] w fun e w'=>e= .returned (.string (bs (overM m L)))∧Below w.heap.size w w':=by
 have hn:=hL.few
 have HL:=Lib.hid hL
 clear hL
 go_enter Tryz.func50,Tryz.ntmps50
 go_wp2_with (((with_reducible refine gD (Op.convert 9 77 _) ?_);refine conv_bytes rfl _ rfl m rfl ?_;intro CB w1 hrb hcb hbb;have HRB:=Lib.hid hrb;have HBB:=Lib.hid hbb;clear hrb hbb;try simp only[Act.put,xA,xB,xC,fR]))
 go_loopw [12] (fun i wr=>∃(k:Nat),k≤n∧i= .int .i64 k∧Hid (RowB wr w.heap.size (overM m (L.take k)))∧Below w.heap.size w wr) (fun i _=>n-(intOf i).toNat)
 case atStart=>exact⟨0,by omega,rfl,HRB,HBB.out⟩
 case round=>
  obtain⟨k,hk,rfl,HG,HB⟩:=hrel
  have hBs:=HB.size
  have hol:(overM m (L.take k)).length=m.length:=overM_len _ _
  by_cases hlt:k<n
  ·obtain⟨g,off,p,rfl,hg,hp,hc⟩:=(HL.out.below HB).at_ hlt
   have HY:=Lib.hid hp
   have HC:=Lib.hid hc
   have x0:=p.addr.lo
   have x1:=p.addr.hi
   clear hp hc
   obtain⟨M,hM⟩:∃ M,overM m (L.take k)=M:=⟨_,rfl⟩
   rw[hM]at HG hol
   have HM:=Lib.hid hM
   clear hM
   by_cases ha:p.addr.v<m.length
   ·have hsl:p.addr.v≤(m.length:Int):=by omega
    have hcc:¬ CB=p.addr.v.toNat:=by omega
    have hcb2:p.addr.v≤(CB:Int):=by omega
    have hcb3:(m.length:Int)≤(CB:Int):=by omega
    go_wp2_with (first|((with_reducible refine gAl 89 ?_);refine alloc_row (ptC ptZ) zero89 rfl rfl ?_;try simp only[Act.put,xA,xB,xC,fR])|((with_reducible refine gD (Op.store 89 _ _) ?_);apply store_row row89 rfl _ _ rfl _ (ptC _) rfl rfl (ptC_size _) (ptC_ones _) (t:=89) (old:=ptC _) (h2:=ptC_size _);(·(repeat((refine heap_at _ _ _ ?_;(with_reducible rfl)))));try simp only[Act.put,xA,xB,xC,fR];try simp (disch:=(first|with_reducible rfl|fail)) only[more_row,alloc_row_past,alloc_row_at,drew_row,drewN_row])|((with_reducible refine gD (Op.load 89 _) ?_);refine take_el row89 rfl _ rfl g (off+k*2) rfl p (ptC_size p) HC.out ?_;try simp only[Act.put,xA,xB,xC,fR]))
    go_region_law (refine step_copy_lay rfl _ _ rfl w.heap.size p.addr.v.toNat (CB-p.addr.v.toNat) M p.data (by rw[hol];first|rfl) rfl (HG.out.below (by(repeat(first|exact Below.refl _ _|(refine Below.alloc ?_ ?_ _;rotate_left;(omega))|refine Below.drew ?_)))) ?_)
    all_goals
     go_wp2
     go_roundw
     case rel=>
      refine⟨k+1,by omega,by go_num,Lib.hid ?_,?_⟩
      ·rw[overM_take HY.out,HM.out]
       unfold overS
       rw[if_pos (by rw[hol];exact ha)]
       have hx:RowB (wr.alloc (.cells (ptC p) 89)).drew w.heap.size M:=HG.out.below ((Below.refl _ _).alloc (Nat.le_refl _) _).drew
       have hy:=hx.lay p.addr.v.toNat p.data (by omega)
       rw[hol]at hy
       exact hy
      ·first
       | exact bl_cells (by(repeat(first|assumption|(refine Below.alloc ?_ ?_ _;rotate_left;(omega))|refine Below.drew ?_))) (Nat.le_refl _) _ _
       | exact(bl_cells (by(repeat(fail))) (Nat.le_refl _) _ _).drew
     case measure=>simp[intOf];omega
   ·go_wp2_with (first|((with_reducible refine gAl 89 ?_);refine alloc_row (ptC ptZ) zero89 rfl rfl ?_;try simp only[Act.put,xA,xB,xC,fR])|((with_reducible refine gD (Op.store 89 _ _) ?_);apply store_row row89 rfl _ _ rfl _ (ptC _) rfl rfl (ptC_size _) (ptC_ones _) (t:=89) (old:=ptC _) (h2:=ptC_size _);(·(repeat((refine heap_at _ _ _ ?_;(with_reducible rfl)))));try simp only[Act.put,xA,xB,xC,fR];try simp (disch:=(first|with_reducible rfl|fail)) only[more_row,alloc_row_past,alloc_row_at,drew_row,drewN_row])|((with_reducible refine gD (Op.load 89 _) ?_);refine take_el row89 rfl _ rfl g (off+k*2) rfl p (ptC_size p) HC.out ?_;try simp only[Act.put,xA,xB,xC,fR]))
    go_roundw
    case rel=>exact⟨k+1,by omega,by go_num,Lib.hid (by rw[overM_take HY.out,HM.out];unfold overS;rw[if_neg (by omega)];exact HG.out.below (by(repeat(first|exact Below.refl _ _|(refine Below.alloc ?_ ?_ _;rotate_left;(omega)))))),by(repeat(first|assumption|(refine Below.alloc ?_ ?_ _;rotate_left;(omega))))⟩
    case measure=>simp[intOf];omega
  ·have hkn:k=n:=by omega
   subst hkn
   have hfin:L.take k=L:=List.take_of_length_le (by rw[HL.out.len];exact Nat.le_refl _)
   rw[hfin]at HG hol
   clear hfin
   go_wp2_with ((with_reducible refine gD (Op.convert 77 9 _) ?_);refine conv_str rfl _ rfl w.heap.size 0 m.length CB rfl ((overM m L).map fun b=>(b.toNat:Int)) (by rw[List.length_map,hol]) (rowB_str HG.out) ?_;try simp only[Act.put,xA,xB,xC,fR])
   go_ret
   exact⟨by(try rw[byOf_map]);rfl,HB⟩
theorem puts_take{L:List Rq}{k:Nat}{y:Rq}(h:L[k]?=some y):writesQ (L.take (k+1))=writesQ (L.take k)++(if y.kind=4 then [⟨y.line,y.data⟩]else []):=by
 have hk:=(List.getElem?_eq_some_iff.1 h).1
 unfold writesQ
 rw[List.take_succ_eq_append_getElem hk,(List.getElem?_eq_some_iff.1 h).2,List.filter_append,List.map_append]
 congr 1
 by_cases q:y.kind=4
 ·simp[q]
 ·simp[q]
theorem slT32:SlT 32 89 2:=⟨Tryz.underlying32,.agg (ptC ptZ),by kernel_rfl,by kernel_rfl,by decide⟩
theorem writes_len(L:List Rq):(writesQ L).length≤L.length:=by unfold writesQ;rw[List.length_map];exact List.length_filter_le _ _
theorem below_any(A:Option Addr)(n C:Nat)(L:List Rq)(m:By)(hm:m.length≤1000000)(w:World)(hL:Sl rqC 4 w A n L):Calls Tryz.prog 112 #[.slice A n C,.string (bs m)] w fun e w'=>e= .returned (.string (bs (belowM L m)))∧Below w.heap.size w w':=by
 have hn:=hL.few
 have HL:=Lib.hid hL
 clear hL
 go_enter Tryz.func112,Tryz.ntmps112
 go_wp2
 go_loopw [5,10] (fun v i wr=>∃(k:Nat),k≤n∧i= .int .i64 k∧Hid (Ow ptC 2 wr w.heap.size 89 v (writesQ (L.take k)))∧Below w.heap.size w wr) (fun _ i _=>n-(intOf i).toNat)
 case atStart=>exact⟨0,by omega,rfl,Lib.hid (Ow.nil _ _ _),Below.refl _ _⟩
 case round=>
  obtain⟨k,hk,rfl,HG,HB⟩:=hrel
  have hBs:=HB.size
  by_cases hlt:k<n
  ·obtain⟨g,off,y,rfl,hg,hy,hc⟩:=(HL.out.below HB).at_ hlt
   have HY:=Lib.hid hy
   have HC:=Lib.hid hc
   clear hy hc
   by_cases hq:y.kind=4
   ·have HQ:=Lib.hid hq
    have hb:(y.kind== 4)=true:=by rw[hq];rfl
    have HLN:=Lib.hid (show(writesQ (L.take k)).length+1≤1000000 by
     have h1:=writes_len (L.take k)
     have h2:(L.take k).length≤k:=by rw[List.length_take];omega
     omega)
    clear hq
    go_wp2_with (first|((with_reducible refine gAl 98 ?_);refine alloc_row (rqC rqZ) zero98 rfl rfl ?_;try simp only[Act.put,xA,xB,xC,fR])|((with_reducible refine gD (Op.store 98 _ _) ?_);apply store_row row98 rfl _ _ rfl _ (rqC _) rfl rfl (rqC_size _) (rqC_ones _) (t:=98) (old:=rqC _) (h2:=rqC_size _);(·(repeat((refine heap_at _ _ _ ?_;(with_reducible rfl)))));try simp only[Act.put,xA,xB,xC,fR];try simp (disch:=(first|with_reducible rfl|fail)) only[more_row,alloc_row_past,alloc_row_at,drew_row,drewN_row])|((with_reducible refine gD (Op.load 98 _) ?_);refine take_el row98 rfl _ rfl g (off+k*4) rfl y (rqC_size y) HC.out ?_;try simp only[Act.put,xA,xB,xC,fR])|(at_builtin;(refine app_sl slT32 ptC_size ptC_ones rfl _ _ rfl w.heap.size _ (writesQ (L.take k)) rfl (HG.out.below (by(repeat(first|exact Below.refl _ _|(refine Below.alloc ?_ ?_ _;rotate_left;(first|omega|(simp only[sZ]<;>omega))))))) (some ⟨wr.heap.size+1,0,none⟩) 1 1 [(⟨y.line,y.data⟩:Pt)] rfl (Sl.new (t:=89) (fr:=(0,0)) ptC_size (heap_at _ _ _ (by simp only[World.size_alloc])) (by simp)) (fun h=>by cases h) HLN.out (by simp only[World.size_alloc];omega) ?_);intro v3 w3 h3 g3;have HB3:=Lib.hid (bl_own ((HB.alloc (by omega) (.cells (rqC y) 98)).alloc (by simp only[World.size_alloc];omega) _) g3 (by simp only[World.size_alloc];omega) HG.out.row);have HO3:=Lib.hid h3;clear h3 g3;try simp only[Act.put,xA,xB,xC,fR]))
    go_roundw
    case rel=>exact⟨k+1,by omega,by go_num,Lib.hid (by rw[puts_take HY.out,if_pos HQ.out];exact HO3.out),HB3.out⟩
    case measure=>simp[intOf];omega
   ·have HQ:=Lib.hid hq
    have hb:(y.kind== 4)=false:=by rw[beq_eq_false_iff_ne];exact hq
    clear hq
    go_wp2_with (first|((with_reducible refine gAl 98 ?_);refine alloc_row (rqC rqZ) zero98 rfl rfl ?_;try simp only[Act.put,xA,xB,xC,fR])|((with_reducible refine gD (Op.store 98 _ _) ?_);apply store_row row98 rfl _ _ rfl _ (rqC _) rfl rfl (rqC_size _) (rqC_ones _) (t:=98) (old:=rqC _) (h2:=rqC_size _);(·(repeat((refine heap_at _ _ _ ?_;(with_reducible rfl)))));try simp only[Act.put,xA,xB,xC,fR];try simp (disch:=(first|with_reducible rfl|fail)) only[more_row,alloc_row_past,alloc_row_at,drew_row,drewN_row])|((with_reducible refine gD (Op.load 98 _) ?_);refine take_el row98 rfl _ rfl g (off+k*4) rfl y (rqC_size y) HC.out ?_;try simp only[Act.put,xA,xB,xC,fR]))
    go_roundw
    case rel=>exact⟨k+1,by omega,by go_num,Lib.hid (by rw[puts_take HY.out,if_neg HQ.out,List.append_nil];exact HG.out.below (by(repeat(first|exact Below.refl _ _|(refine Below.alloc ?_ ?_ _;rotate_left;(omega)))))),by(repeat(first|assumption|(refine Below.alloc ?_ ?_ _;rotate_left;(omega))))⟩
    case measure=>simp[intOf];omega
  ·have hkn:k=n:=by omega
   subst hkn
   have hfin:L.take k=L:=List.take_of_length_le (by rw[HL.out.len];exact Nat.le_refl _)
   rw[hfin]at HG
   clear hfin
   obtain⟨A',C',rfl,f1,f2,f3⟩:=HG.out.sl2 ptC_size
   go_wp2_with (go_at_call 50;refine(over_any m hm A' _ C' (writesQ L) _ f1).mono ?_;rintro r w1 ⟨rfl,hb⟩;obtain⟨o5,k5,rfl⟩:=more_of hb;clear hb)
   go_ret
   exact⟨rfl,by(repeat(first|assumption|(refine bl_more ?_ ?_ _ _;rotate_left;(omega))))⟩
def lp(y:Wy):Pt:=⟨y.line,y.data⟩
theorem flat_len{S:List (List Wy)}{n k:Nat}(h:∀ M∈S,M.length≤k)(hn:S.length≤n):(S.flatten.map lp).length≤n*k:=by
 rw[List.length_map]
 induction S generalizing n with
 | nil=>simp
 | cons M S ih=>
  rw[List.flatten_cons,List.length_append]
  simp only[List.length_cons]at hn
  have h1:=h M (by simp)
  have h2:=ih (n:=n-1) (fun M hM=>h M (by simp[hM])) (by omega)
  have:(n-1)*k+k=n*k:=by rw[← Nat.succ_mul];congr 1;omega
  omega
theorem under_at(sa:Option Addr)(sn sc:Nat)(c:Ca)(A:Option Addr)(n C:Nat)(L:List Rq)(m:By)(hm:m.length≤1000000)(w:World)(hc:CaR w ⟨sa,sn,sc⟩ c)(hsn:sn≤4)(hw2:∀ M∈c.sets,M.length≤2)(hL:Sl rqC 4 w A n L):Calls Tryz.prog 110 #[caV c.ways ⟨sa,sn,sc⟩,.slice A n C,.string (bs m)] w fun e w'=>e= .returned (.string (bs (underM c L m)))∧Below w.heap.size w w':=by
 have hl:=hc.len
 simp only at hl
 obtain⟨W0,hW0⟩:∃ W0,W0=w.alloc (.cells (ccC ⟨c.ways,⟨sa,sn,sc⟩⟩) 35):=⟨_,rfl⟩
 have hs0:W0.heap.size=w.heap.size+1:=by rw[hW0,World.size_alloc]
 have HB0:=Lib.hid (show Below w.heap.size w W0 by rw[hW0];exact(Below.refl _ _).alloc (Nat.le_refl _) _)
 have HC0:=Lib.hid (hc.below HB0.out)
 have HW0:=Lib.hid hW0
 have HL:=Lib.hid hL
 have HLL:=Lib.hid hl
 have HM2:=Lib.hid hw2
 have HE:=Lib.hid (show overM (belowM L m) (c.sets.flatten.map lp)=underM c L m from rfl)
 have hbl:(belowM L m).length≤1000000:=by unfold belowM;rw[overM_len];exact hm
 clear hc hL hl hw2 hW0
 go_enter Tryz.func110,Tryz.ntmps110
 go_wp2
 go_loopw [7,15] (fun v i wr=>∃(k:Nat),k≤sn∧i= .int .i64 k∧Hid (Ow ptC 2 wr W0.heap.size 89 v ((c.sets.take k).flatten.map lp))∧Below W0.heap.size W0 wr) (fun _ i _=>sn-(intOf i).toNat)
 case atStart=>exact⟨0,by omega,rfl,Lib.hid (Ow.nil _ _ _),by rw[HW0.out];exact Below.refl _ _⟩
 case round=>
  rename World=>wo
  obtain⟨k,hk,rfl,HG,HB⟩:=hrel
  have hBs:=HB.size
  have hBwo:Below w.heap.size w wo:=HB0.out.trans (HB.mono (by omega))
  by_cases hlt:k<sn
  ·obtain⟨g,off,⟨ta,tn,tc⟩,M,e0,hg,hMk,hcell,hSl,hWf⟩:=HC0.out.at_ hlt
   simp only at e0 hcell hSl hWf
   subst e0
   have hcell:=(HB.cell (p:=⟨g,off+k,none⟩) hg).trans hcell
   have hg:=Nat.lt_of_lt_of_le hg hBs
   have htn:=hSl.few
   have hml:=hSl.len
   have hM2:=HM2.out M (List.mem_of_getElem? hMk)
   have HML:=Lib.hid hml
   have HSl:=Lib.hid hSl
   have HMk:=Lib.hid hMk
   have tn2:tn≤2:=by omega
   clear hSl hMk hWf hml hM2
   go_wp2
   go_loopw [7,21] (fun v i w2=>∃(j:Nat),j≤tn∧i= .int .i64 j∧Hid (Ow ptC 2 w2 W0.heap.size 89 v ((c.sets.take k).flatten.map lp++(M.take j).map lp))∧Below W0.heap.size W0 w2) (fun _ i _=>tn-(intOf i).toNat)
   case atStart=>exact⟨0,by omega,rfl,Lib.hid (by simpa using HG.out),HB⟩
   case round=>
    obtain⟨j,hj,rfl,HJ,hBi⟩:=hrel
    have hBs2:=hBi.size
    by_cases hjl:j<tn
    ·obtain⟨g2,off2,y,e2,hg2,hy,hcy⟩:=(HSl.out.below hBi).at_ hjl
     subst e2
     have HY:=Lib.hid hy
     have HC2:=Lib.hid hcy
     have HLN:=Lib.hid (show((c.sets.take k).flatten.map lp++(M.take j).map lp).length+1≤1000000 by
      rw[List.length_append]
      have h1:=flat_len (S:=c.sets.take k) (n:=4) (k:=2) (fun N hN=>HM2.out N (List.mem_of_mem_take hN)) (by rw[List.length_take];omega)
      have h2:((M.take j).map lp).length≤2:=by rw[List.length_map,List.length_take];omega
      omega)
     clear hy hcy
     go_wp2_with (first|((with_reducible refine gAl 46 ?_);refine alloc_row (wyC wyZ) zero46 rfl rfl ?_;try simp only[Act.put,xA,xB,xC,fR])|((with_reducible refine gD (Op.store 46 _ _) ?_);apply store_row row46 rfl _ _ rfl _ (wyC _) rfl rfl (wyC_size _) (wyC_ones _) (t:=46) (old:=wyC _) (h2:=wyC_size _);(·(repeat((refine heap_at _ _ _ ?_;(with_reducible rfl)))));try simp only[Act.put,xA,xB,xC,fR];try simp (disch:=(first|with_reducible rfl|fail)) only[more_row,alloc_row_past,alloc_row_at,drew_row,drewN_row])|((with_reducible refine gD (Op.load 46 _) ?_);refine take_el row46 rfl _ rfl g2 (off2+j*3) rfl y (wyC_size y) HC2.out ?_;try simp only[Act.put,xA,xB,xC,fR])|(at_builtin;(refine app_sl slT32 ptC_size ptC_ones rfl _ _ rfl W0.heap.size _ ((c.sets.take k).flatten.map lp++(M.take j).map lp) rfl (HJ.out.below (((Below.refl _ _).alloc (Nat.le_refl _) (.cells (wyC y) 46)).alloc (by simp only[World.size_alloc];omega) _)) (some ⟨wr.heap.size+1,0,none⟩) 1 1 [lp y] rfl (Sl.new (t:=89) (fr:=(0,0)) ptC_size (heap_at _ _ _ (by simp only[World.size_alloc])) (by simp)) (fun h=>by cases h) HLN.out (by simp only[World.size_alloc];omega) ?_);intro v3 w3 h3 g3;have HB3:=Lib.hid (bl_own ((hBi.alloc (by omega) (.cells (wyC y) 46)).alloc (by simp only[World.size_alloc];omega) _) g3 (by simp only[World.size_alloc];omega) HJ.out.row);have HO3:=Lib.hid h3;have HG3:=Lib.hid g3;clear h3 g3;try simp only[Act.put,xA,xB,xC,fR]))
     go_roundw
     case rel=>exact⟨j+1,by omega,by go_num,Lib.hid (by
      have h:=HO3.out
      have hj':=(List.getElem?_eq_some_iff.1 HY.out).1
      rw[List.take_succ_eq_append_getElem hj',(List.getElem?_eq_some_iff.1 HY.out).2,List.map_append,← List.append_assoc]
      exact h),HB3.out⟩
     case measure=>simp[intOf];omega
    ·have hjn:j=tn:=by omega
     subst hjn
     go_wp2
     go_roundw
     case rel=>exact⟨k+1,by omega,by go_num,Lib.hid (by
      have h:=HJ.out
      have e:M.take j=M:=List.take_of_length_le (by rw[HML.out];exact Nat.le_refl _)
      rw[e]at h
      have hk':=(List.getElem?_eq_some_iff.1 HMk.out).1
      rw[List.take_succ_eq_append_getElem hk',(List.getElem?_eq_some_iff.1 HMk.out).2,List.flatten_append,List.map_append]
      rw[List.flatten_cons,List.flatten_nil,List.append_nil];exact h),hBi⟩
     case measure=>simp[intOf];omega
  ·have hkn:k=sn:=by omega
   subst hkn
   have hfin:c.sets.take k=c.sets:=List.take_of_length_le (by rw[HLL.out];exact Nat.le_refl _)
   rw[hfin]at HG
   clear hfin
   obtain⟨A',C',rfl,f1,f2,f3⟩:=HG.out.sl2 ptC_size
   have hf1:=Lib.hid f1
   obtain⟨U,hU⟩:∃ U,c.sets.flatten.map lp=U:=⟨_,rfl⟩
   obtain⟨B,hB⟩:∃ B,belowM L m=B:=⟨_,rfl⟩
   rw[hU]at hf1 HE ⊢
   rw[hB]at hbl HE
   have BE:=Lib.hid (fun W h=>hB▸below_any A n C L m hm W h)
   clear hU hB f1 f2 f3 HG
   go_wp2_with (go_at_call 112;refine(BE.out _ (HL.out.below (hBwo.trans (by exact Below.refl _ _)))).mono ?_;rintro r w1 ⟨rfl,hb⟩;obtain⟨o5,k5,rfl⟩:=more_of hb;clear hb)
   refine(over_any B hbl A' _ C' U _ (hf1.out.below (bl_more (Below.refl _ _) (Nat.le_refl _) _ _))).mono ?_
   rintro r w1 ⟨rfl,hb⟩
   obtain⟨o6,k6,rfl⟩:=more_of hb
   clear hb
   go_wp2
   go_ret
   exact⟨by rw[← HE.out];rfl,bl_more hBwo (by omega) _ _⟩
theorem underM_len(c:Ca)(q:List Rq)(m:By):(underM c q m).length=m.length:=by unfold underM belowM;rw[overM_len,overM_len]
theorem all_at(B:Option Addr)(bn bc:Nat)(S:List Pt)(sa:Option Addr)(sn sc:Nat)(c:Ca)(A:Option Addr)(n C:Nat)(L:List Rq)(m:By)(hm:m.length≤1000000)(w:World)(hS:Sl ptC 2 w B bn S)(hc:CaR w ⟨sa,sn,sc⟩ c)(hsn:sn≤4)(hw2:∀ M∈c.sets,M.length≤2)(hL:Sl rqC 4 w A n L):Calls Tryz.prog 81 #[.slice B bn bc,caV c.ways ⟨sa,sn,sc⟩,.slice A n C,.string (bs m)] w fun e w'=>e= .returned (.string (bs (allM S c L m)))∧Below w.heap.size w w':=by
 have HS:=Lib.hid hS
 obtain⟨U,hU⟩:∃ U,underM c L m=U:=⟨_,rfl⟩
 have hul:U.length≤1000000:=by rw[← hU,underM_len];exact hm
 have HE:=Lib.hid (show overM U S=allM S c L m by rw[← hU];rfl)
 have UE:=Lib.hid (fun W (h:Below w.heap.size w W)=>hU▸under_at sa sn sc c A n C L m hm W (hc.below h) hsn hw2 (hL.below h))
 clear hS hU hc hw2 hL
 go_enter Tryz.func81,Tryz.ntmps81
 go_wp2_with ((go_at_call 110;refine(UE.out _ (by(repeat(first|exact Below.refl _ _|(refine Below.alloc ?_ ?_ _;rotate_left;(omega)))))).mono ?_;rintro r w1 ⟨rfl,hb⟩;obtain⟨o5,k5,rfl⟩:=more_of hb;clear hb))
 refine(over_any U hul B _ bc S _ (HS.out.below (by(repeat(first|exact Below.refl _ _|(refine Below.alloc ?_ ?_ _;rotate_left;(omega))|(refine bl_more ?_ ?_ _ _;rotate_left;(simp only[sZ]<;>omega))))))).mono ?_
 rintro r w1 ⟨rfl,hb⟩
 obtain⟨o6,k6,rfl⟩:=more_of hb
 clear hb
 go_wp2
 go_ret
 exact⟨by rw[← HE.out];rfl,by(repeat(first|exact Below.refl _ _|(refine Below.alloc ?_ ?_ _;rotate_left;(omega))|(refine bl_more ?_ ?_ _ _;rotate_left;(simp only[sZ]<;>omega))))⟩
theorem cut_any(m:By)(line:U)(hm:m.length≤1000000)(w:World):Calls Tryz.prog 111 #[.string (bs m),.int .u32 line.v] w fun e w'=>e= .returned (.string (bs (cutM m line)))∧w=w':=by
 have y0:=(lineU line).lo
 have y1:=(lineU line).hi
 by_cases c:(m.length:Int)≤(lineU line).v
 ·have E:=Lib.hid (show cutM m line=[] by unfold cutM;rw[if_pos c])
  go_enter Tryz.func111,Tryz.ntmps111
  go_wp2_with ((go_at_call 28;refine(line_any' _ _).mono ?_;rintro r w1 ⟨rfl,rfl⟩))
  go_ret
  exact⟨by rw[E.out];rfl,rfl⟩
 ·have E:=Lib.hid (show cutM m line=((m.drop (lineU line).v.toNat).take (min (m.length-(lineU line).v.toNat) 16)) by
   unfold cutM cutB
   rw[if_neg c]
   rcases Nat.le_total (m.length-(lineU line).v.toNat) 16 with h|h
   ·rw[Nat.min_eq_left h,List.take_of_length_le (by rw[List.length_drop];omega),List.take_of_length_le (by rw[List.length_drop];omega)]
   ·rw[Nat.min_eq_right h])
  have c1:(lineU line).v≤(m.length:Int):=by omega
  have c2:(lineU line).v<(m.length:Int):=by omega
  obtain⟨a,ha⟩:∃ a:Nat,(lineU line).v=a:=⟨(lineU line).v.toNat,by omega⟩
  obtain⟨R,hR⟩:∃ R,m.drop (lineU line).v.toNat=R:=⟨_,rfl⟩
  have hRl:R.length=m.length-(lineU line).v.toNat:=by rw[← hR,List.length_drop]
  have HRR:=Lib.hid hR
  have hRm:R.length≤1000000:=by omega
  rw[hR,← hRl]at E
  clear hR ha hRl
  go_enter Tryz.func111,Tryz.ntmps111
  by_cases q:R.length≤16
  have q2:(R.length:Int)≤16:=by omega
  rw[Nat.min_eq_left q]at E
  rotate_left
  have q2:(16:Int)<(R.length:Int):=by omega
  rw[Nat.min_eq_right (by omega)]at E
  rotate_left
  all_goals
   go_wp2_with (first|(go_at_call 28;refine(line_any' _ _).mono ?_;rintro r w1 ⟨rfl,rfl⟩)|((with_reducible refine gD (Op.slice 9 _ _ none none) ?_);refine slice_from rfl _ _ rfl m (lineU line).v _ rfl rfl y0 c1 ?_;rw[HRR.out];try simp only[Act.put,xA,xB,xC,fR])|((with_reducible refine gD (Op.slice 9 _ none _ none) ?_);refine slice_to rfl _ _ rfl R (R.length:Int) _ rfl rfl (by omega) (by omega) ?_;try simp only[Act.put,xA,xB,xC,fR])|((with_reducible refine gD (Op.slice 9 _ none _ none) ?_);refine slice_to rfl _ _ rfl R 16 _ rfl rfl (by omega) (by omega) ?_;try simp only[Act.put,xA,xB,xC,fR]))
   go_ret
   exact⟨by rw[E.out];first|rfl,rfl⟩
def DraP(X:Nat→Prop)(B:Option Addr)(r:List Pt×Ca×Bool)(w:World)(e:Ending)(w':World):Prop:=∃(t s':Sv),e= .returned (.tuple #[.slice t.a t.n t.c,caV r.2.1.ways s',.bool r.2.2])∧Sl ptC 2 w' t.a t.n r.1∧Wf t.a t.n t.c∧(∀ p,t.a=some p→∃ q,B=some q∧p.block=q.block)∧CaX X w' s' r.2.1∧Below w.heap.size w w'
theorem drain_at(X:Nat→Prop)(B:Option Addr)(bn bc:Nat)(S:List Pt)(sa:Option Addr)(sn sc:Nat)(c:Ca)(hd:∀ p∈S,p.data.length≤1000000)(w:World)(hX:∀ j,w.heap.size≤j→X j)(hS:Sl ptC 2 w B bn S)(hW:Wf B bn bc)(hc:CaX X w ⟨sa,sn,sc⟩ c):Calls Tryz.prog 73 #[.slice B bn bc,caV c.ways ⟨sa,sn,sc⟩] w (DraP X B (drainS S c) w):=by
 have hl:=hS.len
 have hn:=hS.few
 have HC:=Lib.hid hc
 have HS:=Lib.hid hS
 have HW:=Lib.hid hW
 have HX:=Lib.hid hX
 have H:=Lo.start w
 match S with
 | []=>
  simp only[List.length_nil]at hl
  subst hl
  clear hc hS hW hX
  go_enter Tryz.func73,Tryz.ntmps73
  go_wp2_with (first|((with_reducible refine gBx 35 1 ?_);refine st_Lbox rfl _ H _ rfl rfl ?_;clear H;intro w1 b1 H;go_frame)|((with_reducible refine gAl 35 ?_);refine st_Lal rfl (ccC ccZ) zero35 H rfl ?_;clear H;intro w1 b1 hlt1 hb1 H;go_frame))
  go_wp2_with fail
  refine beginL 3 (l0:=zz5) H (by kernel_rfl) ?_ (by kernel_rfl);clear H;intro H
  refine tP 0 12 H ?_;go_frame
  refine tC 1 13 rfl (by kernel_rfl) iQ (by(exact yields_row row35 rfl _ rfl _ _ rfl _ rfl (fun w h j v hj=>(h.lcell mm1 _).trans (Sub.all _ j v hj)))) H ?_;go_frame
  refine tP 2 4 H ?_;go_frame
  refine o1N 3 (fun K hK=>?_)
  refine step_Lslw rfl cel35 _ _ _ H _ _ rfl rfl _ rfl rfl rfl rfl ?_;clear H;intro w1 ho1 H
  refine hK.out _ _ (aB rfl) ?_;clear hK K;go_frame
  refine tQ 4 6 rfl ?_;go_frame
  refine dnC ?_ _
  go_wp2_with fail
  apply ret_tct row35 rfl _ #[.int .i64 c.ways,.slice sa sn sc] rfl rfl (t:=35) (fr:=(0,0)) (hd:=rfl) (hg:=H.row mm0)
  exact⟨⟨B,0,bc⟩,⟨sa,sn,sc⟩,rfl,Sl.none_ _,HW.out,fun p hp=>⟨p,hp,rfl⟩,HC.out.below H.bl,H.bl⟩
 | p::T=>
  simp only[List.length_cons]at hl
  obtain⟨g,off,p',e0,hg,hp',hpc⟩:=hS.at_ (i:=0) (by omega)
  simp only[List.getElem?_cons_zero,Option.some.injEq]at hp'
  subst hp'
  subst e0
  have c0:w.cell? ⟨g,off,none⟩=some (.int .u32 p.addr.v):=by have:=hpc 0 (.int .u32 p.addr.v) rfl;simpa using this
  have c1:w.cell? ⟨g,off+1,none⟩=some (.string (bs p.data)):=by have:=hpc 1 (.string (bs p.data)) rfl;simpa using this
  have C0:=Lib.hid c0
  have C1:=Lib.hid c1
  have hdl:=hd p (by simp)
  have hn0:((bn:Int)== 0)=false:=by rw[beq_eq_false_iff_ne];omega
  have hn1:(0:Int)<(bn:Int):=by omega
  have hn2:0<bn:=by omega
  have hn3:(1:Int)≤(bn:Int):=by omega
  have hn4:1≤bn:=by omega
  have HG:=Lib.hid hg
  clear hc hS hW hX hpc hd c0 c1
  go_enter Tryz.func73,Tryz.ntmps73
  go_wp2_with (first|((with_reducible refine gBx 35 1 ?_);refine st_Lbox rfl _ H _ rfl rfl ?_;clear H;intro w1 b1 H;go_frame)|((with_reducible refine gAl 35 ?_);refine st_Lal rfl (ccC ccZ) zero35 H rfl ?_;clear H;intro w1 b1 hlt1 hb1 H;go_frame))
  go_wp2_with fail
  refine beginL 9 (l0:=zz16) H (by kernel_rfl) ?_ (by kernel_rfl);intro H1;clear H;revert H1
  apply meet3
  ·intro rest1
   apply meet2
   ·intro rest0
    intro H
    refine tC 0 15 rfl (by kernel_rfl) iQ (by(exact yields_row row35 rfl _ rfl _ _ rfl _ rfl (fun w h j v hj=>(h.lcell mm1 _).trans (Sub.all _ j v hj)))) H ?_;go_frame
    iterate 3 refine rP H ?_;go_frame
    refine tC 4 19 rfl (by kernel_rfl) iQ (by exact yields_one one28 rfl _ rfl _ rfl _ (fun w h=>(h.bl.cell (p:=⟨g,off,none⟩) HG.out).trans C0.out)) H ?_;go_frame
    iterate 3 refine rP H ?_;go_frame
    refine tC 8 23 rfl (by kernel_rfl) iQ (by exact yields_one one9 rfl _ rfl _ rfl _ (fun w h=>(h.bl.cell (p:=⟨g,off+1,none⟩) HG.out).trans C1.out)) H ?_;go_frame
    refine twoC (i:=9) (j:=13) (oi:=⟨some 24,_,_,_,_,_⟩) (oj:=⟨some 7,_,_,_,_,_⟩) rfl rfl (by kernel_rfl) (fun K hK=>?_) (fun K hK=>?_)
    ·refine step_fn rfl _ _ _ (write_any _ ⟨sa,sn,sc⟩ c p.addr p.data hdl _ (H.xl_new HX.out) (H.ca HC.out)) (by go_simp<;>rfl) ?_;rintro r w1 ⟨s1,rfl,F1,hb⟩;refine⟨_,rfl,?_⟩;replace H:=H.below hb
     refine hK.out _ _ (aB rfl) ?_;clear hK K;go_frame
     iterate 3 refine rQ rfl ?_;go_frame
     refine o1C 13 7 (fun K hK=>?_)
     refine step_Lal rfl (ccC ccZ) zero35 H rfl ?_;clear H;intro w1 b1 hlt1 hb1 H;have F0:=caAl (ccC ccZ) 35 F1 hlt1 hb1;clear F1;have F1:=F0;clear F0
     refine hK.out _ _ (aB rfl) ?_;clear hK K;go_frame
     exact rest1 w1 b1 s1 (And.intro H F1)
    ·refine step_Lal rfl (ccC ccZ) zero35 H rfl ?_;clear H;intro w1 b1 hlt1 hb1 H
     refine hK.out _ _ (fun _=>H.drop) ?_;clear hK K;go_frame
     exact rest0 w1 b1 H
   ·intro w1 b1 H
    refine o1C 9 24 (fun K hK=>?_)
    refine step_fn rfl _ _ _ (write_any _ ⟨sa,sn,sc⟩ c p.addr p.data hdl _ (H.xl_new HX.out) (H.ca HC.out)) (by go_simp<;>rfl) ?_;rintro r w1 ⟨s1,rfl,F1,hb⟩;refine⟨_,rfl,?_⟩;replace H:=H.below hb
    refine hK.out _ _ (aB rfl) ?_;clear hK K;go_frame
    iterate 3 refine rQ rfl ?_;go_frame
    exact rest1 w1 b1 s1 (And.intro H F1)
  rintro w1 b1 s1 ⟨H,F1⟩
  refine o1N 14 (fun K hK=>?_)
  refine step_Lslw rfl cel35 _ _ _ H _ _ rfl rfl _ rfl rfl rfl rfl ?_;intro w1 ho1 H1;have F0:=caOff' F1 ho1 ⟨_,List.mem_cons_self ..,rfl⟩;clear F1;have F1:=F0;clear F0;clear H;have H:=H1;clear H1
  refine hK.out _ _ (aB rfl) ?_;clear hK K;go_frame
  refine tQ 15 8 rfl ?_;go_frame
  refine dnC ?_ _
  cases hwb:(writeC c p.addr p.data).2
  ·have E:=Lib.hid (show drainS (p::T) c=(p::T,c,false) by show(if(writeC c p.addr p.data).2=true then _ else _)=_;rw[hwb];rfl)
   clear hwb
   go_wp2_with fail
   go_wp2_with fail
   refine beginL 3 (l0:=zz5) H (by kernel_rfl) ?_ (by kernel_rfl);clear H;intro H
   refine tP 0 29 H ?_;go_frame
   refine tC 1 30 rfl (by kernel_rfl) iQ (by(exact yields_row row35 rfl _ rfl _ _ rfl _ rfl (fun w h j v hj=>(h.lcell mm2 _).trans (Sub.all _ j v hj)))) H ?_;go_frame
   refine tP 2 4 H ?_;go_frame
   refine o1N 3 (fun K hK=>?_)
   refine step_Lslw2 rfl cel35 _ _ _ _ H _ _ rfl rfl _ rfl rfl rfl rfl ?_;clear H;intro w1 ho1 H
   refine hK.out _ _ (aB rfl) ?_;clear hK K;go_frame
   refine tQ 4 6 rfl ?_;go_frame
   refine dnC ?_ _
   go_wp2_with fail
   apply ret_tct row35 rfl _ #[.int .i64 c.ways,.slice sa sn sc] rfl rfl (t:=35) (fr:=(0,0)) (hd:=rfl) (hg:=H.row mm1)
   rw[E.out]
   exact⟨⟨some ⟨g,off,none⟩,bn,bc⟩,⟨sa,sn,sc⟩,rfl,HS.out.below H.bl,HW.out,fun p hp=>⟨p,hp,rfl⟩,HC.out.below H.bl,H.bl⟩
  ·have E:=Lib.hid (show drainS (p::T) c=(T,(writeC c p.addr p.data).1,true) by show(if(writeC c p.addr p.data).2=true then _ else _)=_;rw[hwb];rfl)
   clear hwb
   have hbc:=HW.out.le
   have hbc1:(1:Int)≤(bc:Int):=by omega
   have hbc2:(bn:Int)≤(bc:Int):=by omega
   have hbc3:=HW.out.few
   go_wp2_with fail
   go_wp2_with fail
   refine beginL 4 (l0:=zz6) H (by kernel_rfl) ?_ (by kernel_rfl);clear H;intro H
   iterate 2 refine rP H ?_;go_frame
   refine tC 2 33 rfl (by kernel_rfl) iQ (by(exact yields_row row35 rfl _ rfl _ _ rfl _ rfl (fun w h j v hj=>(h.lcell mm0 _).trans (Sub.all _ j v hj)))) H ?_;go_frame
   refine tP 3 4 H ?_;go_frame
   refine o1N 4 (fun K hK=>?_)
   refine step_Lslw2 rfl cel35 _ _ _ _ H _ _ rfl rfl _ rfl rfl rfl rfl ?_;intro w1 ho1 H1;have F0:=caOff' (F1.below (Below.refl _ _).drew) ho1 ⟨_,List.mem_cons_of_mem _ mm0,rfl⟩;clear F1;have F1:=F0;clear F0;clear H;have H:=H1;clear H1
   refine hK.out _ _ (aB rfl) ?_;clear hK K;go_frame
   refine tQ 5 6 rfl ?_;go_frame
   refine dnC ?_ _
   go_wp2_with fail
   ·apply ret_tct row35 rfl _ #[.int .i64 (writeC c p.addr p.data).1.ways,.slice s1.a s1.n s1.c] rfl rfl (t:=35) (fr:=(0,0)) (hd:=rfl) (hg:=H.row mm1)
    rw[E.out]
    have hT:T=[]:=List.eq_nil_of_length_eq_zero (by omega)
    refine⟨⟨some ⟨g,off,none⟩,bn-1,0⟩,s1,rfl,?_,⟨(fun h=>by cases h),by show bn-1≤0;omega,by show 0≤_;omega⟩,fun p hp=>⟨p,hp,rfl⟩,Xl.toX F1,H.bl⟩
    rw[hT,show(⟨some ⟨g,off,none⟩,bn-1,0⟩:Sv).n=0 by show bn-1=0;omega]
    exact Sl.none_ _
   ·apply ret_tct row35 rfl _ #[.int .i64 (writeC c p.addr p.data).1.ways,.slice s1.a s1.n s1.c] rfl rfl (t:=35) (fr:=(0,0)) (hd:=rfl) (hg:=H.row mm1)
    rw[E.out]
    have hd:=Sl.drop (i:=1) (C:=bn) (A':=some ⟨g,off+2,none⟩) HS.out (by omega) (Nat.le_refl _) (fun _=>by simp)
    exact⟨⟨some ⟨g,off+2,none⟩,bn-1,bc-1⟩,s1,rfl,hd.below H.bl,⟨(fun h=>by cases h),by show bn-1≤bc-1;omega,by show bc-1≤_;omega⟩,fun p hp=>by cases hp;exact⟨_,rfl,rfl⟩,Xl.toX F1,H.bl⟩
end Go.Proofs.YtdmhfogegfmnfaaGreatDoor
