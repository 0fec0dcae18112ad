/- Contracts: a line that is put anew. Conditions: the cache reads as one. Contracts: a line that is put again, without data. Conditions: the cache reads as one. Contracts: a line put into a cache; a store drained. Conditions: the cache reads as one. -/
import Derived.Test.YtdmhfogegfmnfaaGreatDoorB01
import Derived.Test.YtdmhfogegfmnfaaGreatDoorB14
import Derived.BigRegion
set_option maxRecDepth 100000
set_option maxHeartbeats 8000000
set_option linter.unusedVariables false
set_option linter.unusedSimpArgs false
namespace Go.Proofs.YtdmhfogegfmnfaaGreatDoor
open Go.RowKit
theorem keepC{w w':World}{g g2:Nat}{cs cs2:Array Value}(h:(∀ j,w.cell? ⟨g,j,none⟩=cs[j]?)∧(∀ j,w.cell? ⟨g2,j,none⟩=cs2[j]?))(hb:Below w.heap.size w w')(hg:g<w.heap.size)(hg2:g2<w.heap.size):(∀ j,w'.cell? ⟨g,j,none⟩=cs[j]?)∧(∀ j,w'.cell? ⟨g2,j,none⟩=cs2[j]?):=
 ⟨fun j=>(hb.cell (p:=⟨g,j,none⟩) hg).trans (h.1 j),fun j=>(hb.cell (p:=⟨g2,j,none⟩) hg2).trans (h.2 j)⟩
theorem front_last{Ls:List Wy}{x:Wy}{n:Nat}(h:Ls.length=n):frontW (([]++Ls)++[x]) n=x::Ls:=by
 subst h
 rw[List.nil_append]
 have:(Ls++[x])[Ls.length]?=some x:=by simp
 rw[front_eq this]
 simp
theorem more_off5(W:World){b b':Nat}(v0 v1 u0 u1 u2:Value)(os:Array Obj)(k k':Nat){j:Nat}(h:j≠b)(h':j≠b'):(more (((((W.setCell ⟨b,0,none⟩ v0).setCell ⟨b,1,none⟩ v1).setCell ⟨b',0,none⟩ u0).setCell ⟨b',1,none⟩ u1).setCell ⟨b',2,none⟩ u2) os k').heap[j]?=(more W os k).heap[j]?:=by
 have e:(((((W.setCell ⟨b,0,none⟩ v0).setCell ⟨b,1,none⟩ v1).setCell ⟨b',0,none⟩ u0).setCell ⟨b',1,none⟩ u1).setCell ⟨b',2,none⟩ u2).heap[j]?=W.heap[j]?:=by
  rw[Below.heap_setCell _ _ _ _ h',Below.heap_setCell _ _ _ _ h',Below.heap_setCell _ _ _ _ h',Below.heap_setCell _ _ _ _ h,Below.heap_setCell _ _ _ _ h]
 have s:(((((W.setCell ⟨b,0,none⟩ v0).setCell ⟨b,1,none⟩ v1).setCell ⟨b',0,none⟩ u0).setCell ⟨b',1,none⟩ u1).setCell ⟨b',2,none⟩ u2).heap.size=W.heap.size:=by simp only[World.size_setCell]
 show(_++os)[j]?=(W.heap++os)[j]?
 rw[Array.getElem?_append,Array.getElem?_append,s]
 split
 ·exact e
 ·rfl
def stayL(c:Ca)(L:List Wy):List Wy:=if(L.length:Int)=c.ways then L.take (L.length-1)else L
def goneL(c:Ca)(L:List Wy):Wy:=if(L.length:Int)=c.ways then L.getD (L.length-1) wyZ else wyZ
theorem put_new{c:Ca}{line:U}{data d:By}{dirty:Bool}{k a:Nat}{L:List Wy}(hr:rightC c=true)(hk:findC c line=(k,a,false))(hgd:c.sets.getD k []=L)(hd:putD data=d):putC c line data dirty=(withC c k (⟨lineU line,dirty,d⟩::stayL c L),goneL c L,decide ((L.length:Int)=c.ways)):=by
 unfold putD at hd
 unfold putC stayL goneL
 rw[hr,if_pos rfl]
 simp only[hd,hk,hgd,Bool.false_eq_true,if_false]
 by_cases q:(L.length:Int)=c.ways
 ·simp[q];rfl
 ·simp[q];rfl
theorem find_none{w:World}{sa:Option Addr}{sn sc:Nat}{c:Ca}{line:U}(hc:CaR w ⟨sa,sn,sc⟩ c)(hr:rightC c=true)(hf:(findC c line).2.2=false):∃(k a g off:Nat) (ta:Option Addr) (tn tc:Nat) (L:List Wy),findC c line=(k,a,false)∧sa=some ⟨g,off,none⟩∧g<w.heap.size∧k<sn∧c.sets.getD k []=L∧w.cell? ⟨g,off+k,none⟩=some (.slice ta tn tc)∧Sl wyC 3 w ta tn L∧Wf ta tn tc∧(tn:Int)≤c.ways:=by
 have hl:=hc.len
 simp only at hl
 obtain⟨k,a,hk⟩:∃ k a,findC c line=(k,a,false):=⟨_,_,by rw[← hf]⟩
 have q1:1≤sn:=by have:=(right_iff.1 hr).1.1;omega
 have hke:setNo c (lineU line)=k:=by
  unfold findC at hk
  rw[hr]at hk
  simp only[if_true,Prod.mk.injEq]at hk
  exact hk.1
 have hks:k<sn:=by rw[← hke];exact setNo_lt hl q1
 obtain⟨g,off,⟨ta,tn,tc⟩,L,e0,hg,hLk,hcell,hSl,hWf⟩:=hc.at_ hks
 have hgd:c.sets.getD k []=L:=by rw[List.getD_eq_getElem?_getD,hLk];rfl
 refine⟨k,a,g,off,ta,tn,tc,L,hk,e0,hg,hks,hgd,hcell,hSl,hWf,?_⟩
 have:=((right_iff.1 hr).2 k L hLk).1
 have h2:=hSl.len
 simp only at h2
 omega
theorem put_f1(X:Nat→Prop)(sa:Option Addr)(sn sc:Nat)(c:Ca)(line:U)(data:By)(dirty:Bool)(hdl:data.length≤1000000)(w:World)(hX:∀ j,w.heap.size≤j→X j)(hc:CaX X w ⟨sa,sn,sc⟩ c)(hr:rightC c=true)(hf:(findC c line).2.2=false)(hcase:∀ L,c.sets.getD (findC c line).1 []=L→(L.length:Int)=c.ways∧L.length=1):Calls Tryz.prog 48 #[caV c.ways ⟨sa,sn,sc⟩,.int .u32 line.v,.string (bs data),.bool dirty] w (PutP X (putC c line data dirty) w):=by
 have hn:=hc.toR.few
 simp only at hn
 have x0:=line.lo
 have x1:=line.hi
 have HC:=Lib.hid hc
 have HX:=Lib.hid hX
 have FI:=Lib.hid (fun W (h:Below w.heap.size w W)=>find_any ⟨sa,sn,sc⟩ c line W (hc.toR.below h))
 have RI:=Lib.hid (fun W (h:Below w.heap.size w W)=>cright_any ⟨sa,sn,sc⟩ c W (hc.toR.below h))
 have HR:=Lib.hid hr
 obtain⟨k,a,g,off,ta,tn,tc,L,hk,e0,hg,hks,hgd,hcell,hSl,hWf,hle⟩:=find_none hc.toR hr hf
 subst e0
 obtain⟨d,hd⟩:∃ d,putD data=d:=⟨_,rfl⟩
 have E:=Lib.hid (put_new (dirty:=dirty) hr hk hgd hd)
 have hwy:c.ways=1∨c.ways=2:=(right_iff.1 hr).1.2
 have htn2:tn≤2:=by omega
 have htn:=hSl.few
 have htc:=hWf.le
 have HK:=Lib.hid hk
 have HSl:=Lib.hid hSl
 have HN:=Lib.hid hWf.nil
 have hll:=Lib.hid hSl.len
 have HD:=Lib.hid hd
 have hca0:=hcase L (by rw[hk];exact hgd)
 rw[hSl.len]at hca0
 obtain⟨hfull,h1⟩:=hca0
 clear hcase hwy
 rcases Decidable.em ((data.length:Int)=16)with h16|h16
 have hdd:d=data:=by have:=HD.out;unfold putD at this;rw[if_neg (by omega)]at this;exact this.symm
 subst hdd
 have hbd:bs d=bs d:=rfl
 clear hr hc hX hk hgd hSl hWf hd hf
 rotate_left
 have hdd:d=[]:=by have:=HD.out;unfold putD at this;rw[if_pos (by omega)]at this;exact this.symm
 have hbd:({ data:=#[] }:ByteArray)=bs d:=by rw[hdd];rfl
 clear hr hc hX hk hgd hSl hWf hd hf hdd
 rotate_left
 all_goals
  go_enter Tryz.func48,Tryz.ntmps48
  go_upto_region 12 with((first|((with_reducible refine gAl 35 ?_);refine alloc_row (ccC ccZ) zero35 rfl rfl ?_;try simp only[Act.put,xA,xB,xC,fR])|((with_reducible refine gAl 46 ?_);refine alloc_row (wyC wyZ) zero46 rfl rfl ?_;try simp only[Act.put,xA,xB,xC,fR])|(go_at_call 9;refine(RI.out _ (by(repeat(first|exact Below.refl _ _|(refine Below.alloc ?_ ?_ _;rotate_left;(first|omega|(simp only[sZ]<;>omega))))))).mono ?_;rw[HR.out];rintro r w1 ⟨rfl,hb⟩;obtain⟨ow,kw,rfl⟩:=more_of hb;clear hb)|(go_at_call 67;refine(FI.out _ (by(repeat(first|exact Below.refl _ _|(refine Below.alloc ?_ ?_ _;rotate_left;(first|omega|(simp only[sZ]<;>omega)))|(refine bl_more ?_ ?_ _ _;rotate_left;(simp only[sZ]<;>omega)))))).mono ?_;unfold FinP;rw[HK.out];rintro r w1 ⟨rfl,hb⟩;obtain⟨ow2,kw2,rfl⟩:=more_of hb;clear hb)))
  (try rw[hbd])
  clear hbd
  (refine wp_named ?_;intro W hW;have hG0:W.heap[w.heap.size]?=some (.cells (ccC ⟨c.ways,⟨some ⟨g,off,none⟩,sn,sc⟩⟩) _ (0,0)):=(by rw[hW];(repeat(first|(refine heap_at _ _ _ ?_;(with_reducible rfl))|(refine(more_heap' _ _ _ _ ?_).trans ?_;(simp only[sZ]<;>omega))|(refine(heap_past _ _ _ ?_).trans ?_;(simp only[sZ]<;>omega)))));obtain⟨hlt0,hc0,hd0,hf0,he0⟩:=nmF hG0;have hG2:W.heap[w.heap.size+1]?=some (.cells (ccC ccZ) _ (0,0)):=(by rw[hW];(repeat(first|(refine heap_at _ _ _ ?_;(simp only[sZ]<;>omega))|(refine(more_heap' _ _ _ _ ?_).trans ?_;(simp only[sZ]<;>omega))|(refine(heap_past _ _ _ ?_).trans ?_;(simp only[sZ]<;>omega)))));obtain⟨hlt2,hc2,hd2,hf2,he2⟩:=nmF hG2;have hG4:W.heap[w.heap.size+1+1]?=some (.cells (wyC wyZ) _ (0,0)):=(by rw[hW];(repeat(first|(refine heap_at _ _ _ ?_;(simp only[sZ]<;>omega))|(refine(more_heap' _ _ _ _ ?_).trans ?_;(simp only[sZ]<;>omega)))));obtain⟨hlt4,hc4,hd4,hf4,he4⟩:=nmF hG4;have hBW:Below w.heap.size w W:=(by rw[hW];(repeat(first|exact Below.refl _ _|(refine Below.alloc ?_ ?_ _;rotate_left;(first|omega|(simp only[sZ]<;>omega)))|(refine bl_more ?_ ?_ _ _;rotate_left;(simp only[sZ]<;>omega)))));have hBWd:=hBW.drew;have hsW:=hBW.size;have HWE:=Lib.hid hW;clear hW)
  have q1:W.cell? ⟨g,off+k,none⟩=some (.slice ta tn tc):=(hBW.cell (p:=⟨g,off+k,none⟩) hg).trans hcell
  have hgW:g<W.heap.size:=by omega
  have HF:=Lib.hid hfull
  subst h1
  have hfb:((1:Int)== c.ways)=true:=by rw[← hfull];rfl
  obtain⟨g2,off2,y,e2,hg2,hy,hcy⟩:=HSl.out.at_ (i:=0) (by decide)
  have HLL:=Lib.hid (show L=[y] by
   match L,hll.out,hy with
   | [z],_,h=>simp at h;rw[h])
  subst e2
  have u0:W.cell? ⟨g2,off2,none⟩=some (.int .u32 y.line.v):=(hBW.cell (p:=⟨g2,off2,none⟩) hg2).trans (by have:=hcy 0 (.int .u32 y.line.v) rfl;simpa using this)
  have u1:W.cell? ⟨g2,off2+1,none⟩=some (.bool y.dirty):=(hBW.cell (p:=⟨g2,off2+1,none⟩) hg2).trans (by have:=hcy 1 (.bool y.dirty) rfl;simpa using this)
  have u2:W.cell? ⟨g2,off2+2,none⟩=some (.string (bs y.data)):=(hBW.cell (p:=⟨g2,off2+2,none⟩) hg2).trans (by have:=hcy 2 (.string (bs y.data)) rfl;simpa using this)
  have hgW2:g2<W.heap.size:=by omega
  clear hfull hy hcy hle htn2
  go_upto_region 13 with(fail)
  go_region
  go_upto_region 16 with(fail)
  go_region
  go_upto_region 17 with(fail)
  have hstay:Sl wyC 3 W (some ⟨g2,off2,none⟩) 0 []:=Sl.none_ _
  rename World=>V
  have hGV:(V.alloc (Obj.cells #[Value.int IntKind.u32 y.line.v,Value.bool y.dirty,Value.string (bs y.data)] 46)).drew.drew.heap[V.heap.size]?=some (.cells (wyC y) 46 (0,0)):=heap_alloc_new _ _
  have hVb:Below V.heap.size V (V.alloc (Obj.cells #[Value.int IntKind.u32 y.line.v,Value.bool y.dirty,Value.string (bs y.data)] 46)).drew.drew:=((Below.refl _ _).alloc (Nat.le_refl _) _).drew.drew
  clear hc0 hd0 hf0 he0 hc2 hd2 hf2 he2 hc4 hd4 hf4 he4
  refine wp_named ?_
  intro W hW
  have hVW:Below V.heap.size V W:=by rw[hW];exact hVb
  have hG6:W.heap[V.heap.size]?=some (.cells (wyC y) 46 (0,0)):=by rw[hW];exact hGV
  clear hW hGV hVb u0 u1 u2 q1
  have hW0:W.heap[w.heap.size]?=some (.cells (ccC ⟨c.ways,⟨some ⟨g,off,none⟩,sn,sc⟩⟩) 35 (0,0)):=(hVW.block _ hlt0).trans hG0
  have hW1:W.heap[w.heap.size+1]?=some (.cells (ccC ccZ) 35 (0,0)):=(hVW.block _ hlt2).trans hG2
  have hW2:W.heap[w.heap.size+1+1]?=some (.cells (wyC wyZ) 46 (0,0)):=(hVW.block _ hlt4).trans hG4
  have hVs:=hVW.size
  have hlV:V.heap.size<W.heap.size:=(Array.getElem?_eq_some_iff.1 hG6).1
  have hbW:Below w.heap.size w W:=hBW.trans (hVW.mono hsW)
  have hsz:w.heap.size≤W.heap.size:=by omega
  have HLW:=Lib.hid (hstay.below hVW)
  clear hG0 hG2 hG4 hVW hBW hBWd hstay
  go_upto_region 20 with((first|((with_reducible refine gD (Op.makeSlice 51 _ _) ?_);(refine make_sl (α:=Wy) (lay:=wyC) slT51 rfl _ _ rfl W.heap.size .i64 .i64 (0+1) _ rfl rfl (by first|rfl) (by omega) (Nat.le_refl _) ?_);intro v1 w1 h1 g1;obtain⟨o1,k1,rfl⟩:=more_of (bl_own (Below.refl _ _) g1 (Nat.le_refl _) (fun k h=>by cases h));have HO1:=Lib.hid h1;clear h1 g1;try simp only[Act.put,xA,xB,xC,fR])|(at_builtin;(refine app_sl slT51 wyC_size wyC_ones rfl _ _ rfl W.heap.size v1 [] rfl HO1.out (some ⟨g2,off2,none⟩) (0) (tc) ([]) rfl (HLW.out.below (bl_more (Below.refl _ _) (Nat.le_refl _) _ _)) (fun h=>by cases h) (by simp only[List.length_nil];omega) (by simp only[more_size];omega) ?_);intro v2 w2 h2 g2;obtain⟨o2,k2,rfl⟩:=more_of (bl_own (B:=W.heap.size) (a:=W) (bl_more (Below.refl _ _) (Nat.le_refl _) _ _) g2 (by simp only[more_size];omega) HO1.out.row);have HO2:=Lib.hid h2;clear h2 g2;try simp only[Act.put,xA,xB,xC,fR])|(go_at_call 28;refine(line_any' _ _).mono ?_;rintro r w1 ⟨rfl,rfl⟩)|(at_builtin;(refine app_sl slT51 wyC_size wyC_ones rfl _ _ rfl W.heap.size v2 ([]++([])) rfl (HO2.out.below (by(repeat(first|exact Below.refl _ _|(refine Below.alloc ?_ ?_ _;rotate_left;(omega)))))) (some ⟨W.heap.size+o2.size,0,none⟩) 1 1 [(⟨lineU line,dirty,d⟩:Wy)] rfl (Sl.new (t:=46) (fr:=(0,0)) wyC_size (heap_at _ _ _ (by simp only[more_size])) (by simp)) (fun h=>by cases h) (by simp<;>omega) (by simp only[World.size_alloc,more_size];omega) ?_);intro v3 w3 h3 g3;obtain⟨o3,k3,rfl⟩:=more_of (bl_own (B:=W.heap.size) (a:=W) ((bl_more (Below.refl _ _) (Nat.le_refl _) _ _).alloc (by simp only[more_size];omega) _) g3 (by simp only[World.size_alloc,more_size];omega) HO2.out.row);have HO3:=Lib.hid h3;clear h3 g3;try simp only[Act.put,xA,xB,xC,fR])))
  obtain⟨A3,C3,rfl,f1,f2,f3⟩:=HO3.out.sl2 wyC_size
  have hl3:(([]++([]))++[(⟨lineU line,dirty,d⟩:Wy)]).length=0+1:=by simp
  rw[hl3]at f1 f2 ⊢
  rename World=>P
  (refine wp_named ?_;intro W hW;have hG0:W.heap[w.heap.size]?=some (.cells (ccC ⟨c.ways,⟨some ⟨g,off,none⟩,sn,sc⟩⟩) _ (0,0)):=(by rw[hW];(repeat(first|assumption|(refine(more_heap' _ _ _ _ ?_).trans ?_;(omega)))));obtain⟨hlt0,hc0,hd0,hf0,he0⟩:=nmF hG0;have hG2:W.heap[w.heap.size+1]?=some (.cells (ccC ccZ) _ (0,0)):=(by rw[hW];(repeat(first|assumption|(refine(more_heap' _ _ _ _ ?_).trans ?_;(omega)))));obtain⟨hlt2,hc2,hd2,hf2,he2⟩:=nmF hG2;have hG4:W.heap[w.heap.size+1+1]?=some (.cells (wyC wyZ) _ (0,0)):=(by rw[hW];(repeat(first|assumption|(refine(more_heap' _ _ _ _ ?_).trans ?_;(omega)))));obtain⟨hlt4,hc4,hd4,hf4,he4⟩:=nmF hG4;have hG6:W.heap[V.heap.size]?=some (.cells (wyC (y)) _ (0,0)):=(by rw[hW];(repeat(first|assumption|(refine(more_heap' _ _ _ _ ?_).trans ?_;(omega)))));obtain⟨hlt6,hc6,hd6,hf6,he6⟩:=nmF hG6;have hBW:Below w.heap.size w W:=(by rw[hW];(repeat(first|assumption|(refine bl_more ?_ ?_ _ _;rotate_left;(omega)))));have hBWd:=hBW.drew;have hsW:=hBW.size;have HWE:=Lib.hid hW;clear hW)
  have F1:=Lib.hid (show Sl wyC 3 W A3 (0+1) (([]++([]))++[(⟨lineU line,dirty,d⟩:Wy)]) by rw[HWE.out];exact f1)
  have F2:=Lib.hid f2
  have F3:=Lib.hid f3
  have hsP:P.heap.size≤W.heap.size:=by rw[HWE.out];simp only[more_size];omega
  have hCS:=f2.le
  have HCX:=Lib.hid (HC.out.mono (Y:=fun j=>X j∧j≠w.heap.size+1∧j≠w.heap.size+1+1) (fun j h1 h2=>⟨h1,by omega,by omega⟩))
  have HXW:=Lib.hid (show ∀ j,W.heap.size≤j→X j∧j≠w.heap.size+1∧j≠w.heap.size+1+1 from fun j hj=>⟨HX.out j (by omega),by omega,by omega⟩)
  have HGC:=Lib.hid hG0
  clear hG0 hG2 hG4 hG6 hf0 he0 hf6 he6 f1 f2 f3 hl3 HO1 HO2 HO3 HLW hW0 hW1 hW2
  have hS0:=Lib.hid hc0
  have nv1:¬ V.heap.size=w.heap.size+1:=by omega
  have nv2:¬ V.heap.size=w.heap.size+1+1:=by omega
  have hS6:=Lib.hid hc6
  go_region_held3 (fun w'=>(∀ j,w'.cell? ⟨w.heap.size,j,none⟩=(ccC ⟨c.ways,⟨some ⟨g,off,none⟩,sn,sc⟩⟩)[j]?)∧(∀ j,w'.cell? ⟨V.heap.size,j,none⟩=(wyC (y))[j]?)) (first|(exact⟨hS0.out,hS6.out⟩)|(exact keepC (by assumption) (by assumption) (by simp only[more_size,World.size_drew];omega) (by simp only[more_size,World.size_drew];omega))|(exact⟨fun j=>by simp[go_sem,hS0.out j,hlt0,hlt6,nv1,nv2],fun j=>by simp[go_sem,hS6.out j,hlt0,hlt6,nv1,nv2]⟩)) ((first|(go_at_call 83;(refine(front_any A3 (0+1) C3 (([]++([]))++[(⟨lineU line,dirty,d⟩:Wy)]) 0 _ (F1.out.below (by(repeat(first|exact Below.refl _ _|refine Below.drew ?_)))) F2.out.nil hCS (by omega)).mono ?_);rintro r w1 ⟨v,rfl,ho,hb⟩;obtain⟨A4,C4,rfl,p1,p2,p3⟩:=ho.sl2 wyC_size;obtain⟨o4,k4,rfl⟩:=more_of hb;clear ho)|(go_at_call 84;(refine(with_any (fun j=>X j∧j≠w.heap.size+1∧j≠w.heap.size+1+1) ⟨some ⟨g,off,none⟩,sn,sc⟩ c k ⟨A4,_,C4⟩ (frontW (([]++([]))++[(⟨lineU line,dirty,d⟩:Wy)]) 0) _ (fun j hj=>HXW.out j (by simp only[more_size,World.size_drew]at hj;omega)) (HCX.out.below (by(repeat(first|assumption|(refine bl_more ?_ ?_ _ _;rotate_left;(simp only[sZ]<;>omega)))))) hks p1 p2 (fun _ p hp=>HXW.out _ (p3 p hp))).mono ?_);rintro r w1 ⟨⟨s1,s2,s3⟩,rfl,hca,hb⟩;obtain⟨o5,k5,rfl⟩:=more_of hb)))
  go_wp2
  apply ret_cct2 row35 row46 rfl (w.heap.size+1) (w.heap.size+1+1) (ccC ⟨c.ways,⟨s1,s2,s3⟩⟩) (wyC (y)) (hd:=rfl)
  all_goals(try rfl)
  ·apply cc_cells<;>simp[go_sem,hc2,hlt2,hlt4]
  ·apply wy_cells<;>simp[go_sem,hc4,hlt2,hlt4]
  rw[front_last (by rfl)]at hca
  have EST:stayL c L=[]:=by unfold stayL;rw[HLL.out,if_pos (by simpa using HF.out)];rfl
  have EGO:goneL c L=y:=by unfold goneL;rw[HLL.out,if_pos (by simpa using HF.out)];rfl
  have EDE:decide ((L.length:Int)=c.ways)=true:=by rw[HLL.out];simpa using HF.out
  refine⟨⟨s1,s2,s3⟩,by rw[E.out,EGO,EDE];rfl,?_,?_⟩
  ·rw[E.out,EST]
   (try rw[more_more]at hca)
   refine(hca.same (X:=fun j=>X j∧j≠w.heap.size+1∧j≠w.heap.size+1+1) (by simp only[more_size,World.size_setCell,World.size_drew];omega) (fun j hj=>?_)).mono (fun j h _=>h.1)
   exact more_off5 W _ _ _ _ _ _ _ _ hj.2.1 hj.2.2
  ·exact bl_more (((((hBW.setCell (p:=⟨w.heap.size+1,0,none⟩) (Nat.le_succ _) _).setCell (p:=⟨w.heap.size+1,1,none⟩) (Nat.le_succ _) _).setCell (p:=⟨w.heap.size+1+1,0,none⟩) (by show _≤w.heap.size+1+1;omega) _).setCell (p:=⟨w.heap.size+1+1,1,none⟩) (by show _≤w.heap.size+1+1;omega) _).setCell (p:=⟨w.heap.size+1+1,2,none⟩) (by show _≤w.heap.size+1+1;omega) _) (by simp only[World.size_setCell];omega) _ _
theorem put_f2(X:Nat→Prop)(sa:Option Addr)(sn sc:Nat)(c:Ca)(line:U)(data:By)(dirty:Bool)(hdl:data.length≤1000000)(w:World)(hX:∀ j,w.heap.size≤j→X j)(hc:CaX X w ⟨sa,sn,sc⟩ c)(hr:rightC c=true)(hf:(findC c line).2.2=false)(hcase:∀ L,c.sets.getD (findC c line).1 []=L→(L.length:Int)=c.ways∧L.length=2):Calls Tryz.prog 48 #[caV c.ways ⟨sa,sn,sc⟩,.int .u32 line.v,.string (bs data),.bool dirty] w (PutP X (putC c line data dirty) w):=by
 have hn:=hc.toR.few
 simp only at hn
 have x0:=line.lo
 have x1:=line.hi
 have HC:=Lib.hid hc
 have HX:=Lib.hid hX
 have FI:=Lib.hid (fun W (h:Below w.heap.size w W)=>find_any ⟨sa,sn,sc⟩ c line W (hc.toR.below h))
 have RI:=Lib.hid (fun W (h:Below w.heap.size w W)=>cright_any ⟨sa,sn,sc⟩ c W (hc.toR.below h))
 have HR:=Lib.hid hr
 obtain⟨k,a,g,off,ta,tn,tc,L,hk,e0,hg,hks,hgd,hcell,hSl,hWf,hle⟩:=find_none hc.toR hr hf
 subst e0
 obtain⟨d,hd⟩:∃ d,putD data=d:=⟨_,rfl⟩
 have E:=Lib.hid (put_new (dirty:=dirty) hr hk hgd hd)
 have hwy:c.ways=1∨c.ways=2:=(right_iff.1 hr).1.2
 have htn2:tn≤2:=by omega
 have htn:=hSl.few
 have htc:=hWf.le
 have HK:=Lib.hid hk
 have HSl:=Lib.hid hSl
 have HN:=Lib.hid hWf.nil
 have hll:=Lib.hid hSl.len
 have HD:=Lib.hid hd
 have hca0:=hcase L (by rw[hk];exact hgd)
 rw[hSl.len]at hca0
 obtain⟨hfull,h1⟩:=hca0
 clear hcase hwy
 rcases Decidable.em ((data.length:Int)=16)with h16|h16
 have hdd:d=data:=by have:=HD.out;unfold putD at this;rw[if_neg (by omega)]at this;exact this.symm
 subst hdd
 have hbd:bs d=bs d:=rfl
 clear hr hc hX hk hgd hSl hWf hd hf
 rotate_left
 have hdd:d=[]:=by have:=HD.out;unfold putD at this;rw[if_pos (by omega)]at this;exact this.symm
 have hbd:({ data:=#[] }:ByteArray)=bs d:=by rw[hdd];rfl
 clear hr hc hX hk hgd hSl hWf hd hf hdd
 rotate_left
 all_goals
  go_enter Tryz.func48,Tryz.ntmps48
  go_upto_region 12 with((first|((with_reducible refine gAl 35 ?_);refine alloc_row (ccC ccZ) zero35 rfl rfl ?_;try simp only[Act.put,xA,xB,xC,fR])|((with_reducible refine gAl 46 ?_);refine alloc_row (wyC wyZ) zero46 rfl rfl ?_;try simp only[Act.put,xA,xB,xC,fR])|(go_at_call 9;refine(RI.out _ (by(repeat(first|exact Below.refl _ _|(refine Below.alloc ?_ ?_ _;rotate_left;(first|omega|(simp only[sZ]<;>omega))))))).mono ?_;rw[HR.out];rintro r w1 ⟨rfl,hb⟩;obtain⟨ow,kw,rfl⟩:=more_of hb;clear hb)|(go_at_call 67;refine(FI.out _ (by(repeat(first|exact Below.refl _ _|(refine Below.alloc ?_ ?_ _;rotate_left;(first|omega|(simp only[sZ]<;>omega)))|(refine bl_more ?_ ?_ _ _;rotate_left;(simp only[sZ]<;>omega)))))).mono ?_;unfold FinP;rw[HK.out];rintro r w1 ⟨rfl,hb⟩;obtain⟨ow2,kw2,rfl⟩:=more_of hb;clear hb)))
  (try rw[hbd])
  clear hbd
  (refine wp_named ?_;intro W hW;have hG0:W.heap[w.heap.size]?=some (.cells (ccC ⟨c.ways,⟨some ⟨g,off,none⟩,sn,sc⟩⟩) _ (0,0)):=(by rw[hW];(repeat(first|(refine heap_at _ _ _ ?_;(with_reducible rfl))|(refine(more_heap' _ _ _ _ ?_).trans ?_;(simp only[sZ]<;>omega))|(refine(heap_past _ _ _ ?_).trans ?_;(simp only[sZ]<;>omega)))));obtain⟨hlt0,hc0,hd0,hf0,he0⟩:=nmF hG0;have hG2:W.heap[w.heap.size+1]?=some (.cells (ccC ccZ) _ (0,0)):=(by rw[hW];(repeat(first|(refine heap_at _ _ _ ?_;(simp only[sZ]<;>omega))|(refine(more_heap' _ _ _ _ ?_).trans ?_;(simp only[sZ]<;>omega))|(refine(heap_past _ _ _ ?_).trans ?_;(simp only[sZ]<;>omega)))));obtain⟨hlt2,hc2,hd2,hf2,he2⟩:=nmF hG2;have hG4:W.heap[w.heap.size+1+1]?=some (.cells (wyC wyZ) _ (0,0)):=(by rw[hW];(repeat(first|(refine heap_at _ _ _ ?_;(simp only[sZ]<;>omega))|(refine(more_heap' _ _ _ _ ?_).trans ?_;(simp only[sZ]<;>omega)))));obtain⟨hlt4,hc4,hd4,hf4,he4⟩:=nmF hG4;have hBW:Below w.heap.size w W:=(by rw[hW];(repeat(first|exact Below.refl _ _|(refine Below.alloc ?_ ?_ _;rotate_left;(first|omega|(simp only[sZ]<;>omega)))|(refine bl_more ?_ ?_ _ _;rotate_left;(simp only[sZ]<;>omega)))));have hBWd:=hBW.drew;have hsW:=hBW.size;have HWE:=Lib.hid hW;clear hW)
  have q1:W.cell? ⟨g,off+k,none⟩=some (.slice ta tn tc):=(hBW.cell (p:=⟨g,off+k,none⟩) hg).trans hcell
  have hgW:g<W.heap.size:=by omega
  have HF:=Lib.hid hfull
  subst h1
  have hfb:((2:Int)== c.ways)=true:=by rw[← hfull];rfl
  obtain⟨g2,off2,y,e2,hg2,hy,hcy⟩:=HSl.out.at_ (i:=1) (by decide)
  obtain⟨y0,hLL⟩:∃ y0,L=[y0,y]:=by
   match L,hll.out,hy with
   | [z,z2],_,h=>simp at h;exact⟨z,by rw[h]⟩
  have HLL:=Lib.hid hLL
  subst e2
  have u0:W.cell? ⟨g2,off2+3,none⟩=some (.int .u32 y.line.v):=(hBW.cell (p:=⟨g2,off2+3,none⟩) hg2).trans (by have:=hcy 0 (.int .u32 y.line.v) rfl;simpa using this)
  have v0:W.cell? ⟨g2,off2+3+0,none⟩=some (.int .u32 y.line.v):=u0
  have u1:W.cell? ⟨g2,off2+4,none⟩=some (.bool y.dirty):=(hBW.cell (p:=⟨g2,off2+4,none⟩) hg2).trans (by have:=hcy 1 (.bool y.dirty) rfl;simpa using this)
  have v1:W.cell? ⟨g2,off2+3+1,none⟩=some (.bool y.dirty):=u1
  have u2:W.cell? ⟨g2,off2+5,none⟩=some (.string (bs y.data)):=(hBW.cell (p:=⟨g2,off2+5,none⟩) hg2).trans (by have:=hcy 2 (.string (bs y.data)) rfl;simpa using this)
  have v2:W.cell? ⟨g2,off2+3+2,none⟩=some (.string (bs y.data)):=u2
  have hgW2:g2<W.heap.size:=by omega
  have hst:Sl wyC 3 w (some ⟨g2,off2,none⟩) 1 [y0]:=by have:=HSl.out.take (m:=1) (by decide);rw[hLL]at this;exact this
  have htc1:1≤tc:=by omega
  have htc2:(1:Int)≤(tc:Int):=by omega
  have HST:=Lib.hid (hst.below hBW)
  clear hfull hy hcy hle htn2 hLL hst
  go_upto_region 13 with(fail)
  go_region
  go_upto_region 16 with(fail)
  go_region
  go_upto_region 17 with(fail)
  have hstay:Sl wyC 3 W (some ⟨g2,off2,none⟩) 1 [y0]:=HST.out
  rename World=>V
  have hGV:(V.alloc (Obj.cells #[Value.int IntKind.u32 y.line.v,Value.bool y.dirty,Value.string (bs y.data)] 46)).drew.drew.heap[V.heap.size]?=some (.cells (wyC y) 46 (0,0)):=heap_alloc_new _ _
  have hVb:Below V.heap.size V (V.alloc (Obj.cells #[Value.int IntKind.u32 y.line.v,Value.bool y.dirty,Value.string (bs y.data)] 46)).drew.drew:=((Below.refl _ _).alloc (Nat.le_refl _) _).drew.drew
  clear hc0 hd0 hf0 he0 hc2 hd2 hf2 he2 hc4 hd4 hf4 he4
  refine wp_named ?_
  intro W hW
  have hVW:Below V.heap.size V W:=by rw[hW];exact hVb
  have hG6:W.heap[V.heap.size]?=some (.cells (wyC y) 46 (0,0)):=by rw[hW];exact hGV
  clear hW hGV hVb u0 u1 u2 q1
  have hW0:W.heap[w.heap.size]?=some (.cells (ccC ⟨c.ways,⟨some ⟨g,off,none⟩,sn,sc⟩⟩) 35 (0,0)):=(hVW.block _ hlt0).trans hG0
  have hW1:W.heap[w.heap.size+1]?=some (.cells (ccC ccZ) 35 (0,0)):=(hVW.block _ hlt2).trans hG2
  have hW2:W.heap[w.heap.size+1+1]?=some (.cells (wyC wyZ) 46 (0,0)):=(hVW.block _ hlt4).trans hG4
  have hVs:=hVW.size
  have hlV:V.heap.size<W.heap.size:=(Array.getElem?_eq_some_iff.1 hG6).1
  have hbW:Below w.heap.size w W:=hBW.trans (hVW.mono hsW)
  have hsz:w.heap.size≤W.heap.size:=by omega
  have HLW:=Lib.hid (hstay.below hVW)
  clear hG0 hG2 hG4 hVW hBW hBWd hstay
  go_upto_region 20 with((first|((with_reducible refine gD (Op.makeSlice 51 _ _) ?_);(refine make_sl (α:=Wy) (lay:=wyC) slT51 rfl _ _ rfl W.heap.size .i64 .i64 (1+1) _ rfl rfl (by first|rfl) (by omega) (Nat.le_refl _) ?_);intro v1 w1 h1 g1;obtain⟨o1,k1,rfl⟩:=more_of (bl_own (Below.refl _ _) g1 (Nat.le_refl _) (fun k h=>by cases h));have HO1:=Lib.hid h1;clear h1 g1;try simp only[Act.put,xA,xB,xC,fR])|(at_builtin;(refine app_sl slT51 wyC_size wyC_ones rfl _ _ rfl W.heap.size v1 [] rfl HO1.out (some ⟨g2,off2,none⟩) (1) (tc) ([y0]) rfl (HLW.out.below (bl_more (Below.refl _ _) (Nat.le_refl _) _ _)) (fun h=>by cases h) (by simp only[List.length_nil];omega) (by simp only[more_size];omega) ?_);intro v2 w2 h2 g2;obtain⟨o2,k2,rfl⟩:=more_of (bl_own (B:=W.heap.size) (a:=W) (bl_more (Below.refl _ _) (Nat.le_refl _) _ _) g2 (by simp only[more_size];omega) HO1.out.row);have HO2:=Lib.hid h2;clear h2 g2;try simp only[Act.put,xA,xB,xC,fR])|(go_at_call 28;refine(line_any' _ _).mono ?_;rintro r w1 ⟨rfl,rfl⟩)|(at_builtin;(refine app_sl slT51 wyC_size wyC_ones rfl _ _ rfl W.heap.size v2 ([]++([y0])) rfl (HO2.out.below (by(repeat(first|exact Below.refl _ _|(refine Below.alloc ?_ ?_ _;rotate_left;(omega)))))) (some ⟨W.heap.size+o2.size,0,none⟩) 1 1 [(⟨lineU line,dirty,d⟩:Wy)] rfl (Sl.new (t:=46) (fr:=(0,0)) wyC_size (heap_at _ _ _ (by simp only[more_size])) (by simp)) (fun h=>by cases h) (by simp<;>omega) (by simp only[World.size_alloc,more_size];omega) ?_);intro v3 w3 h3 g3;obtain⟨o3,k3,rfl⟩:=more_of (bl_own (B:=W.heap.size) (a:=W) ((bl_more (Below.refl _ _) (Nat.le_refl _) _ _).alloc (by simp only[more_size];omega) _) g3 (by simp only[World.size_alloc,more_size];omega) HO2.out.row);have HO3:=Lib.hid h3;clear h3 g3;try simp only[Act.put,xA,xB,xC,fR])))
  obtain⟨A3,C3,rfl,f1,f2,f3⟩:=HO3.out.sl2 wyC_size
  have hl3:(([]++([y0]))++[(⟨lineU line,dirty,d⟩:Wy)]).length=1+1:=by simp
  rw[hl3]at f1 f2 ⊢
  rename World=>P
  (refine wp_named ?_;intro W hW;have hG0:W.heap[w.heap.size]?=some (.cells (ccC ⟨c.ways,⟨some ⟨g,off,none⟩,sn,sc⟩⟩) _ (0,0)):=(by rw[hW];(repeat(first|assumption|(refine(more_heap' _ _ _ _ ?_).trans ?_;(omega)))));obtain⟨hlt0,hc0,hd0,hf0,he0⟩:=nmF hG0;have hG2:W.heap[w.heap.size+1]?=some (.cells (ccC ccZ) _ (0,0)):=(by rw[hW];(repeat(first|assumption|(refine(more_heap' _ _ _ _ ?_).trans ?_;(omega)))));obtain⟨hlt2,hc2,hd2,hf2,he2⟩:=nmF hG2;have hG4:W.heap[w.heap.size+1+1]?=some (.cells (wyC wyZ) _ (0,0)):=(by rw[hW];(repeat(first|assumption|(refine(more_heap' _ _ _ _ ?_).trans ?_;(omega)))));obtain⟨hlt4,hc4,hd4,hf4,he4⟩:=nmF hG4;have hG6:W.heap[V.heap.size]?=some (.cells (wyC (y)) _ (0,0)):=(by rw[hW];(repeat(first|assumption|(refine(more_heap' _ _ _ _ ?_).trans ?_;(omega)))));obtain⟨hlt6,hc6,hd6,hf6,he6⟩:=nmF hG6;have hBW:Below w.heap.size w W:=(by rw[hW];(repeat(first|assumption|(refine bl_more ?_ ?_ _ _;rotate_left;(omega)))));have hBWd:=hBW.drew;have hsW:=hBW.size;have HWE:=Lib.hid hW;clear hW)
  have F1:=Lib.hid (show Sl wyC 3 W A3 (1+1) (([]++([y0]))++[(⟨lineU line,dirty,d⟩:Wy)]) by rw[HWE.out];exact f1)
  have F2:=Lib.hid f2
  have F3:=Lib.hid f3
  have hsP:P.heap.size≤W.heap.size:=by rw[HWE.out];simp only[more_size];omega
  have hCS:=f2.le
  have HCX:=Lib.hid (HC.out.mono (Y:=fun j=>X j∧j≠w.heap.size+1∧j≠w.heap.size+1+1) (fun j h1 h2=>⟨h1,by omega,by omega⟩))
  have HXW:=Lib.hid (show ∀ j,W.heap.size≤j→X j∧j≠w.heap.size+1∧j≠w.heap.size+1+1 from fun j hj=>⟨HX.out j (by omega),by omega,by omega⟩)
  have HGC:=Lib.hid hG0
  clear hG0 hG2 hG4 hG6 hf0 he0 hf6 he6 f1 f2 f3 hl3 HO1 HO2 HO3 HLW hW0 hW1 hW2
  have hS0:=Lib.hid hc0
  have nv1:¬ V.heap.size=w.heap.size+1:=by omega
  have nv2:¬ V.heap.size=w.heap.size+1+1:=by omega
  have hS6:=Lib.hid hc6
  go_region_held3 (fun w'=>(∀ j,w'.cell? ⟨w.heap.size,j,none⟩=(ccC ⟨c.ways,⟨some ⟨g,off,none⟩,sn,sc⟩⟩)[j]?)∧(∀ j,w'.cell? ⟨V.heap.size,j,none⟩=(wyC (y))[j]?)) (first|(exact⟨hS0.out,hS6.out⟩)|(exact keepC (by assumption) (by assumption) (by simp only[more_size,World.size_drew];omega) (by simp only[more_size,World.size_drew];omega))|(exact⟨fun j=>by simp[go_sem,hS0.out j,hlt0,hlt6,nv1,nv2],fun j=>by simp[go_sem,hS6.out j,hlt0,hlt6,nv1,nv2]⟩)) ((first|(go_at_call 83;(refine(front_any A3 (1+1) C3 (([]++([y0]))++[(⟨lineU line,dirty,d⟩:Wy)]) 1 _ (F1.out.below (by(repeat(first|exact Below.refl _ _|refine Below.drew ?_)))) F2.out.nil hCS (by omega)).mono ?_);rintro r w1 ⟨v,rfl,ho,hb⟩;obtain⟨A4,C4,rfl,p1,p2,p3⟩:=ho.sl2 wyC_size;obtain⟨o4,k4,rfl⟩:=more_of hb;clear ho)|(go_at_call 84;(refine(with_any (fun j=>X j∧j≠w.heap.size+1∧j≠w.heap.size+1+1) ⟨some ⟨g,off,none⟩,sn,sc⟩ c k ⟨A4,_,C4⟩ (frontW (([]++([y0]))++[(⟨lineU line,dirty,d⟩:Wy)]) 1) _ (fun j hj=>HXW.out j (by simp only[more_size,World.size_drew]at hj;omega)) (HCX.out.below (by(repeat(first|assumption|(refine bl_more ?_ ?_ _ _;rotate_left;(simp only[sZ]<;>omega)))))) hks p1 p2 (fun _ p hp=>HXW.out _ (p3 p hp))).mono ?_);rintro r w1 ⟨⟨s1,s2,s3⟩,rfl,hca,hb⟩;obtain⟨o5,k5,rfl⟩:=more_of hb)))
  go_wp2
  apply ret_cct2 row35 row46 rfl (w.heap.size+1) (w.heap.size+1+1) (ccC ⟨c.ways,⟨s1,s2,s3⟩⟩) (wyC (y)) (hd:=rfl)
  all_goals(try rfl)
  ·apply cc_cells<;>simp[go_sem,hc2,hlt2,hlt4]
  ·apply wy_cells<;>simp[go_sem,hc4,hlt2,hlt4]
  rw[front_last (by rfl)]at hca
  have EST:stayL c L=[y0]:=by unfold stayL;rw[HLL.out,if_pos (by simpa using HF.out)];rfl
  have EGO:goneL c L=y:=by unfold goneL;rw[HLL.out,if_pos (by simpa using HF.out)];rfl
  have EDE:decide ((L.length:Int)=c.ways)=true:=by rw[HLL.out];simpa using HF.out
  refine⟨⟨s1,s2,s3⟩,by rw[E.out,EGO,EDE];rfl,?_,?_⟩
  ·rw[E.out,EST]
   (try rw[more_more]at hca)
   refine(hca.same (X:=fun j=>X j∧j≠w.heap.size+1∧j≠w.heap.size+1+1) (by simp only[more_size,World.size_setCell,World.size_drew];omega) (fun j hj=>?_)).mono (fun j h _=>h.1)
   exact more_off5 W _ _ _ _ _ _ _ _ hj.2.1 hj.2.2
  ·exact bl_more (((((hBW.setCell (p:=⟨w.heap.size+1,0,none⟩) (Nat.le_succ _) _).setCell (p:=⟨w.heap.size+1,1,none⟩) (Nat.le_succ _) _).setCell (p:=⟨w.heap.size+1+1,0,none⟩) (by show _≤w.heap.size+1+1;omega) _).setCell (p:=⟨w.heap.size+1+1,1,none⟩) (by show _≤w.heap.size+1+1;omega) _).setCell (p:=⟨w.heap.size+1+1,2,none⟩) (by show _≤w.heap.size+1+1;omega) _) (by simp only[World.size_setCell];omega) _ _
theorem put_nf(X:Nat→Prop)(sa:Option Addr)(sn sc:Nat)(c:Ca)(line:U)(data:By)(dirty:Bool)(hdl:data.length≤1000000)(w:World)(hX:∀ j,w.heap.size≤j→X j)(hc:CaX X w ⟨sa,sn,sc⟩ c)(hr:rightC c=true)(hf:(findC c line).2.2=false)(hcase:∀ L,c.sets.getD (findC c line).1 []=L→¬ (L.length:Int)=c.ways):Calls Tryz.prog 48 #[caV c.ways ⟨sa,sn,sc⟩,.int .u32 line.v,.string (bs data),.bool dirty] w (PutP X (putC c line data dirty) w):=by
 have hn:=hc.toR.few
 simp only at hn
 have x0:=line.lo
 have x1:=line.hi
 have HC:=Lib.hid hc
 have HX:=Lib.hid hX
 have FI:=Lib.hid (fun W (h:Below w.heap.size w W)=>find_any ⟨sa,sn,sc⟩ c line W (hc.toR.below h))
 have RI:=Lib.hid (fun W (h:Below w.heap.size w W)=>cright_any ⟨sa,sn,sc⟩ c W (hc.toR.below h))
 have HR:=Lib.hid hr
 obtain⟨k,a,g,off,ta,tn,tc,L,hk,e0,hg,hks,hgd,hcell,hSl,hWf,hle⟩:=find_none hc.toR hr hf
 subst e0
 obtain⟨d,hd⟩:∃ d,putD data=d:=⟨_,rfl⟩
 have E:=Lib.hid (put_new (dirty:=dirty) hr hk hgd hd)
 have hwy:c.ways=1∨c.ways=2:=(right_iff.1 hr).1.2
 have htn2:tn≤2:=by omega
 have htn:=hSl.few
 have htc:=hWf.le
 have HK:=Lib.hid hk
 have HSl:=Lib.hid hSl
 have HN:=Lib.hid hWf.nil
 have hll:=Lib.hid hSl.len
 have HD:=Lib.hid hd
 have hca0:=hcase L (by rw[hk];exact hgd)
 rw[hSl.len]at hca0
 have hfull:¬ (tn:Int)=c.ways:=hca0
 clear hcase hwy
 rcases Decidable.em ((data.length:Int)=16)with h16|h16
 have hdd:d=data:=by have:=HD.out;unfold putD at this;rw[if_neg (by omega)]at this;exact this.symm
 subst hdd
 have hbd:bs d=bs d:=rfl
 clear hr hc hX hk hgd hSl hWf hd hf
 rotate_left
 have hdd:d=[]:=by have:=HD.out;unfold putD at this;rw[if_pos (by omega)]at this;exact this.symm
 have hbd:({ data:=#[] }:ByteArray)=bs d:=by rw[hdd];rfl
 clear hr hc hX hk hgd hSl hWf hd hf hdd
 rotate_left
 all_goals
  go_enter Tryz.func48,Tryz.ntmps48
  go_upto_region 12 with((first|((with_reducible refine gAl 35 ?_);refine alloc_row (ccC ccZ) zero35 rfl rfl ?_;try simp only[Act.put,xA,xB,xC,fR])|((with_reducible refine gAl 46 ?_);refine alloc_row (wyC wyZ) zero46 rfl rfl ?_;try simp only[Act.put,xA,xB,xC,fR])|(go_at_call 9;refine(RI.out _ (by(repeat(first|exact Below.refl _ _|(refine Below.alloc ?_ ?_ _;rotate_left;(first|omega|(simp only[sZ]<;>omega))))))).mono ?_;rw[HR.out];rintro r w1 ⟨rfl,hb⟩;obtain⟨ow,kw,rfl⟩:=more_of hb;clear hb)|(go_at_call 67;refine(FI.out _ (by(repeat(first|exact Below.refl _ _|(refine Below.alloc ?_ ?_ _;rotate_left;(first|omega|(simp only[sZ]<;>omega)))|(refine bl_more ?_ ?_ _ _;rotate_left;(simp only[sZ]<;>omega)))))).mono ?_;unfold FinP;rw[HK.out];rintro r w1 ⟨rfl,hb⟩;obtain⟨ow2,kw2,rfl⟩:=more_of hb;clear hb)))
  (try rw[hbd])
  clear hbd
  (refine wp_named ?_;intro W hW;have hG0:W.heap[w.heap.size]?=some (.cells (ccC ⟨c.ways,⟨some ⟨g,off,none⟩,sn,sc⟩⟩) _ (0,0)):=(by rw[hW];(repeat(first|(refine heap_at _ _ _ ?_;(with_reducible rfl))|(refine(more_heap' _ _ _ _ ?_).trans ?_;(simp only[sZ]<;>omega))|(refine(heap_past _ _ _ ?_).trans ?_;(simp only[sZ]<;>omega)))));obtain⟨hlt0,hc0,hd0,hf0,he0⟩:=nmF hG0;have hG2:W.heap[w.heap.size+1]?=some (.cells (ccC ccZ) _ (0,0)):=(by rw[hW];(repeat(first|(refine heap_at _ _ _ ?_;(simp only[sZ]<;>omega))|(refine(more_heap' _ _ _ _ ?_).trans ?_;(simp only[sZ]<;>omega))|(refine(heap_past _ _ _ ?_).trans ?_;(simp only[sZ]<;>omega)))));obtain⟨hlt2,hc2,hd2,hf2,he2⟩:=nmF hG2;have hG4:W.heap[w.heap.size+1+1]?=some (.cells (wyC wyZ) _ (0,0)):=(by rw[hW];(repeat(first|(refine heap_at _ _ _ ?_;(simp only[sZ]<;>omega))|(refine(more_heap' _ _ _ _ ?_).trans ?_;(simp only[sZ]<;>omega)))));obtain⟨hlt4,hc4,hd4,hf4,he4⟩:=nmF hG4;have hBW:Below w.heap.size w W:=(by rw[hW];(repeat(first|exact Below.refl _ _|(refine Below.alloc ?_ ?_ _;rotate_left;(first|omega|(simp only[sZ]<;>omega)))|(refine bl_more ?_ ?_ _ _;rotate_left;(simp only[sZ]<;>omega)))));have hBWd:=hBW.drew;have hsW:=hBW.size;have HWE:=Lib.hid hW;clear hW)
  have q1:W.cell? ⟨g,off+k,none⟩=some (.slice ta tn tc):=(hBW.cell (p:=⟨g,off+k,none⟩) hg).trans hcell
  have hgW:g<W.heap.size:=by omega
  have hfb:((tn:Int)== c.ways)=false:=by rw[beq_eq_false_iff_ne];exact hfull
  have HF:=Lib.hid hfull
  have hst:=HSl.out.below hBW
  have HST:=Lib.hid hst
  have hNl:=HN.out
  obtain⟨y,hyz⟩:∃ y,y=wyZ:=⟨_,rfl⟩
  clear hst
  go_upto_region 13 with(fail)
  go_region
  go_upto_region 17 with(fail)
  have hstay:Sl wyC 3 W ta tn L:=HST.out
  clear hfull
  rename World=>V
  have hGV:(V.alloc (Obj.cells #[Value.int IntKind.u32 0,Value.bool false,Value.string { data:=#[] }] 46)).drew.heap[V.heap.size]?=some (.cells (wyC y) 46 (0,0)):=by rw[hyz];exact heap_alloc_new _ _
  have hVb:Below V.heap.size V (V.alloc (Obj.cells #[Value.int IntKind.u32 0,Value.bool false,Value.string { data:=#[] }] 46)).drew:=((Below.refl _ _).alloc (Nat.le_refl _) _).drew
  clear hc0 hd0 hf0 he0 hc2 hd2 hf2 he2 hc4 hd4 hf4 he4
  refine wp_named ?_
  intro W hW
  have hVW:Below V.heap.size V W:=by rw[hW];exact hVb
  have hG6:W.heap[V.heap.size]?=some (.cells (wyC y) 46 (0,0)):=by rw[hW];exact hGV
  clear hW hGV hVb q1
  have hW0:W.heap[w.heap.size]?=some (.cells (ccC ⟨c.ways,⟨some ⟨g,off,none⟩,sn,sc⟩⟩) 35 (0,0)):=(hVW.block _ hlt0).trans hG0
  have hW1:W.heap[w.heap.size+1]?=some (.cells (ccC ccZ) 35 (0,0)):=(hVW.block _ hlt2).trans hG2
  have hW2:W.heap[w.heap.size+1+1]?=some (.cells (wyC wyZ) 46 (0,0)):=(hVW.block _ hlt4).trans hG4
  have hVs:=hVW.size
  have hlV:V.heap.size<W.heap.size:=(Array.getElem?_eq_some_iff.1 hG6).1
  have hbW:Below w.heap.size w W:=hBW.trans (hVW.mono hsW)
  have hsz:w.heap.size≤W.heap.size:=by omega
  have HLW:=Lib.hid (hstay.below hVW)
  clear hG0 hG2 hG4 hVW hBW hBWd hstay
  go_upto_region 20 with((first|((with_reducible refine gD (Op.makeSlice 51 _ _) ?_);(refine make_sl (α:=Wy) (lay:=wyC) slT51 rfl _ _ rfl W.heap.size .i64 .i64 (tn+1) _ rfl rfl (by first|rfl) (by omega) (Nat.le_refl _) ?_);intro v1 w1 h1 g1;obtain⟨o1,k1,rfl⟩:=more_of (bl_own (Below.refl _ _) g1 (Nat.le_refl _) (fun k h=>by cases h));have HO1:=Lib.hid h1;clear h1 g1;try simp only[Act.put,xA,xB,xC,fR])|(at_builtin;(refine app_sl slT51 wyC_size wyC_ones rfl _ _ rfl W.heap.size v1 [] rfl HO1.out (ta) (tn) (tc) (L) rfl (HLW.out.below (bl_more (Below.refl _ _) (Nat.le_refl _) _ _)) hNl (by simp only[List.length_nil];omega) (by simp only[more_size];omega) ?_);intro v2 w2 h2 g2;obtain⟨o2,k2,rfl⟩:=more_of (bl_own (B:=W.heap.size) (a:=W) (bl_more (Below.refl _ _) (Nat.le_refl _) _ _) g2 (by simp only[more_size];omega) HO1.out.row);have HO2:=Lib.hid h2;clear h2 g2;try simp only[Act.put,xA,xB,xC,fR])|(go_at_call 28;refine(line_any' _ _).mono ?_;rintro r w1 ⟨rfl,rfl⟩)|(at_builtin;(refine app_sl slT51 wyC_size wyC_ones rfl _ _ rfl W.heap.size v2 ([]++(L)) rfl (HO2.out.below (by(repeat(first|exact Below.refl _ _|(refine Below.alloc ?_ ?_ _;rotate_left;(omega)))))) (some ⟨W.heap.size+o2.size,0,none⟩) 1 1 [(⟨lineU line,dirty,d⟩:Wy)] rfl (Sl.new (t:=46) (fr:=(0,0)) wyC_size (heap_at _ _ _ (by simp only[more_size])) (by simp)) (fun h=>by cases h) (by have:=hll.out;simp<;>omega) (by simp only[World.size_alloc,more_size];omega) ?_);intro v3 w3 h3 g3;obtain⟨o3,k3,rfl⟩:=more_of (bl_own (B:=W.heap.size) (a:=W) ((bl_more (Below.refl _ _) (Nat.le_refl _) _ _).alloc (by simp only[more_size];omega) _) g3 (by simp only[World.size_alloc,more_size];omega) HO2.out.row);have HO3:=Lib.hid h3;clear h3 g3;try simp only[Act.put,xA,xB,xC,fR])))
  obtain⟨A3,C3,rfl,f1,f2,f3⟩:=HO3.out.sl2 wyC_size
  have hl3:(([]++(L))++[(⟨lineU line,dirty,d⟩:Wy)]).length=tn+1:=by simp[hll.out]
  rw[hl3]at f1 f2 ⊢
  rename World=>P
  (refine wp_named ?_;intro W hW;have hG0:W.heap[w.heap.size]?=some (.cells (ccC ⟨c.ways,⟨some ⟨g,off,none⟩,sn,sc⟩⟩) _ (0,0)):=(by rw[hW];(repeat(first|assumption|(refine(more_heap' _ _ _ _ ?_).trans ?_;(omega)))));obtain⟨hlt0,hc0,hd0,hf0,he0⟩:=nmF hG0;have hG2:W.heap[w.heap.size+1]?=some (.cells (ccC ccZ) _ (0,0)):=(by rw[hW];(repeat(first|assumption|(refine(more_heap' _ _ _ _ ?_).trans ?_;(omega)))));obtain⟨hlt2,hc2,hd2,hf2,he2⟩:=nmF hG2;have hG4:W.heap[w.heap.size+1+1]?=some (.cells (wyC wyZ) _ (0,0)):=(by rw[hW];(repeat(first|assumption|(refine(more_heap' _ _ _ _ ?_).trans ?_;(omega)))));obtain⟨hlt4,hc4,hd4,hf4,he4⟩:=nmF hG4;have hG6:W.heap[V.heap.size]?=some (.cells (wyC (y)) _ (0,0)):=(by rw[hW];(repeat(first|assumption|(refine(more_heap' _ _ _ _ ?_).trans ?_;(omega)))));obtain⟨hlt6,hc6,hd6,hf6,he6⟩:=nmF hG6;have hBW:Below w.heap.size w W:=(by rw[hW];(repeat(first|assumption|(refine bl_more ?_ ?_ _ _;rotate_left;(omega)))));have hBWd:=hBW.drew;have hsW:=hBW.size;have HWE:=Lib.hid hW;clear hW)
  have F1:=Lib.hid (show Sl wyC 3 W A3 (tn+1) (([]++(L))++[(⟨lineU line,dirty,d⟩:Wy)]) by rw[HWE.out];exact f1)
  have F2:=Lib.hid f2
  have F3:=Lib.hid f3
  have hsP:P.heap.size≤W.heap.size:=by rw[HWE.out];simp only[more_size];omega
  have hCS:=f2.le
  have HCX:=Lib.hid (HC.out.mono (Y:=fun j=>X j∧j≠w.heap.size+1∧j≠w.heap.size+1+1) (fun j h1 h2=>⟨h1,by omega,by omega⟩))
  have HXW:=Lib.hid (show ∀ j,W.heap.size≤j→X j∧j≠w.heap.size+1∧j≠w.heap.size+1+1 from fun j hj=>⟨HX.out j (by omega),by omega,by omega⟩)
  have HGC:=Lib.hid hG0
  clear hG0 hG2 hG4 hG6 hf0 he0 hf6 he6 f1 f2 f3 hl3 HO1 HO2 HO3 HLW hW0 hW1 hW2
  have hS0:=Lib.hid hc0
  have nv1:¬ V.heap.size=w.heap.size+1:=by omega
  have nv2:¬ V.heap.size=w.heap.size+1+1:=by omega
  have hS6:=Lib.hid hc6
  go_region_held3 (fun w'=>(∀ j,w'.cell? ⟨w.heap.size,j,none⟩=(ccC ⟨c.ways,⟨some ⟨g,off,none⟩,sn,sc⟩⟩)[j]?)∧(∀ j,w'.cell? ⟨V.heap.size,j,none⟩=(wyC (y))[j]?)) (first|(exact⟨hS0.out,hS6.out⟩)|(exact keepC (by assumption) (by assumption) (by simp only[more_size,World.size_drew];omega) (by simp only[more_size,World.size_drew];omega))|(exact⟨fun j=>by simp[go_sem,hS0.out j,hlt0,hlt6,nv1,nv2],fun j=>by simp[go_sem,hS6.out j,hlt0,hlt6,nv1,nv2]⟩)) ((first|(go_at_call 83;(refine(front_any A3 (tn+1) C3 (([]++(L))++[(⟨lineU line,dirty,d⟩:Wy)]) tn _ (F1.out.below (by(repeat(first|exact Below.refl _ _|refine Below.drew ?_)))) F2.out.nil hCS (by omega)).mono ?_);rintro r w1 ⟨v,rfl,ho,hb⟩;obtain⟨A4,C4,rfl,p1,p2,p3⟩:=ho.sl2 wyC_size;obtain⟨o4,k4,rfl⟩:=more_of hb;clear ho)|(go_at_call 84;(refine(with_any (fun j=>X j∧j≠w.heap.size+1∧j≠w.heap.size+1+1) ⟨some ⟨g,off,none⟩,sn,sc⟩ c k ⟨A4,_,C4⟩ (frontW (([]++(L))++[(⟨lineU line,dirty,d⟩:Wy)]) tn) _ (fun j hj=>HXW.out j (by simp only[more_size,World.size_drew]at hj;omega)) (HCX.out.below (by(repeat(first|assumption|(refine bl_more ?_ ?_ _ _;rotate_left;(simp only[sZ]<;>omega)))))) hks p1 p2 (fun _ p hp=>HXW.out _ (p3 p hp))).mono ?_);rintro r w1 ⟨⟨s1,s2,s3⟩,rfl,hca,hb⟩;obtain⟨o5,k5,rfl⟩:=more_of hb)))
  go_wp2
  apply ret_cct2 row35 row46 rfl (w.heap.size+1) (w.heap.size+1+1) (ccC ⟨c.ways,⟨s1,s2,s3⟩⟩) (wyC (y)) (hd:=rfl)
  all_goals(try rfl)
  ·apply cc_cells<;>simp[go_sem,hc2,hlt2,hlt4]
  ·apply wy_cells<;>simp[go_sem,hc4,hlt2,hlt4,hyz]
  rw[front_last hll.out]at hca
  have HFL:¬ (L.length:Int)=c.ways:=by rw[hll.out];exact HF.out
  have EST:stayL c L=L:=by unfold stayL;rw[if_neg HFL]
  have EGO:goneL c L=y:=by unfold goneL;rw[if_neg HFL,hyz]
  have EDE:decide ((L.length:Int)=c.ways)=false:=decide_eq_false HFL
  refine⟨⟨s1,s2,s3⟩,by rw[E.out,EGO,EDE];rfl,?_,?_⟩
  ·rw[E.out,EST]
   (try rw[more_more]at hca)
   refine(hca.same (X:=fun j=>X j∧j≠w.heap.size+1∧j≠w.heap.size+1+1) (by simp only[more_size,World.size_setCell,World.size_drew];omega) (fun j hj=>?_)).mono (fun j h _=>h.1)
   exact more_off5 W _ _ _ _ _ _ _ _ hj.2.1 hj.2.2
  ·exact bl_more (((((hBW.setCell (p:=⟨w.heap.size+1,0,none⟩) (Nat.le_succ _) _).setCell (p:=⟨w.heap.size+1,1,none⟩) (Nat.le_succ _) _).setCell (p:=⟨w.heap.size+1+1,0,none⟩) (by show _≤w.heap.size+1+1;omega) _).setCell (p:=⟨w.heap.size+1+1,1,none⟩) (by show _≤w.heap.size+1+1;omega) _).setCell (p:=⟨w.heap.size+1+1,2,none⟩) (by show _≤w.heap.size+1+1;omega) _) (by simp only[World.size_setCell];omega) _ _
theorem put_0(X:Nat→Prop)(sa:Option Addr)(sn sc:Nat)(c:Ca)(line:U)(data:By)(dirty:Bool)(hdl:data.length≤1000000)(w:World)(hX:∀ j,w.heap.size≤j→X j)(hc:CaX X w ⟨sa,sn,sc⟩ c)(hr:rightC c=true)(k at_:Nat)(hk:findC c line=(k,at_,true))(h16:¬ (data.length:Int)=16):Calls Tryz.prog 48 #[caV c.ways ⟨sa,sn,sc⟩,.int .u32 line.v,.string (bs data),.bool dirty] w (PutP X (putC c line data dirty) w):=by
 have hn:=hc.toR.few
 simp only at hn
 have HC:=Lib.hid hc
 have HX:=Lib.hid hX
 have FI:=Lib.hid (fun W (h:Below w.heap.size w W)=>find_any ⟨sa,sn,sc⟩ c line W (hc.toR.below h))
 have RI:=Lib.hid (fun W (h:Below w.heap.size w W)=>cright_any ⟨sa,sn,sc⟩ c W (hc.toR.below h))
 have HR:=Lib.hid hr
 obtain⟨g,off,ta,tn,tc,L,y,e0,hg,hks,hLk,hgd,hcell,hSl,hWf,hat,hy,_,hsn,hpl⟩:=find_parts hc.toR hk
 subst e0
 obtain⟨d,hd⟩:∃ d,putD data=d:=⟨_,rfl⟩
 have E:=Lib.hid (put_found (dirty:=dirty) hr hk hgd hy hd)
 have htn:=hSl.few
 have htc:=hWf.le
 have HK:=Lib.hid hk
 have HSl:=Lib.hid hSl
 have HN:=Lib.hid hWf.nil
 have HY:=Lib.hid hy
 have hll:=Lib.hid hSl.len
 have HD:=Lib.hid hd
 have hdd:d=[]:=by have:=HD.out;unfold putD at this;rw[if_pos (by omega)]at this;exact this.symm
 subst hdd
 rw[if_neg (by simp)]at E
 clear hr hc hX hk hLk hgd hSl hWf hsn hpl hy hd
 go_enter Tryz.func48,Tryz.ntmps48
 go_upto_region 7 with((first|((with_reducible refine gAl 35 ?_);refine alloc_row (ccC ccZ) zero35 rfl rfl ?_;try simp only[Act.put,xA,xB,xC,fR])|((with_reducible refine gAl 46 ?_);refine alloc_row (wyC wyZ) zero46 rfl rfl ?_;try simp only[Act.put,xA,xB,xC,fR])|(go_at_call 9;refine(RI.out _ (by(repeat(first|exact Below.refl _ _|(refine Below.alloc ?_ ?_ _;rotate_left;(first|omega|(simp only[sZ]<;>omega))))))).mono ?_;rw[HR.out];rintro r w1 ⟨rfl,hb⟩;obtain⟨ow,kw,rfl⟩:=more_of hb;clear hb)|(go_at_call 67;refine(FI.out _ (by(repeat(first|exact Below.refl _ _|(refine Below.alloc ?_ ?_ _;rotate_left;(first|omega|(simp only[sZ]<;>omega)))|(refine bl_more ?_ ?_ _ _;rotate_left;(simp only[sZ]<;>omega)))))).mono ?_;unfold FinP;rw[HK.out];rintro r w1 ⟨rfl,hb⟩;obtain⟨ow2,kw2,rfl⟩:=more_of hb;clear hb)))
 (refine wp_named ?_;intro W hW;have hG0:W.heap[w.heap.size]?=some (.cells (ccC ⟨c.ways,⟨some ⟨g,off,none⟩,sn,sc⟩⟩) _ (0,0)):=(by rw[hW];(repeat(first|(refine heap_at _ _ _ ?_;(with_reducible rfl))|(refine(more_heap' _ _ _ _ ?_).trans ?_;(simp only[sZ]<;>omega))|(refine(heap_past _ _ _ ?_).trans ?_;(simp only[sZ]<;>omega)))));obtain⟨hlt0,hc0,hd0,hf0,he0⟩:=nmF hG0;have hG2:W.heap[w.heap.size+1]?=some (.cells (ccC ccZ) _ (0,0)):=(by rw[hW];(repeat(first|(refine heap_at _ _ _ ?_;(simp only[sZ]<;>omega))|(refine(more_heap' _ _ _ _ ?_).trans ?_;(simp only[sZ]<;>omega))|(refine(heap_past _ _ _ ?_).trans ?_;(simp only[sZ]<;>omega)))));obtain⟨hlt2,hc2,hd2,hf2,he2⟩:=nmF hG2;have hG4:W.heap[w.heap.size+1+1]?=some (.cells (wyC wyZ) _ (0,0)):=(by rw[hW];(repeat(first|(refine heap_at _ _ _ ?_;(simp only[sZ]<;>omega))|(refine(more_heap' _ _ _ _ ?_).trans ?_;(simp only[sZ]<;>omega)))));obtain⟨hlt4,hc4,hd4,hf4,he4⟩:=nmF hG4;have hBW:Below w.heap.size w W:=(by rw[hW];(repeat(first|exact Below.refl _ _|(refine Below.alloc ?_ ?_ _;rotate_left;(first|omega|(simp only[sZ]<;>omega)))|(refine bl_more ?_ ?_ _ _;rotate_left;(simp only[sZ]<;>omega)))));have hBWd:=hBW.drew;have hsW:=hBW.size;clear hW)
 have q1:W.cell? ⟨g,off+k,none⟩=some (.slice ta tn tc):=(hBW.cell (p:=⟨g,off+k,none⟩) hg).trans hcell
 have HCX:=Lib.hid (HC.out.mono (Y:=fun j=>X j∧j≠w.heap.size+1∧j≠w.heap.size+1+1) (fun j h1 h2=>⟨h1,by omega,by omega⟩))
 have HXW:=Lib.hid (show ∀ j,W.heap.size≤j→X j∧j≠w.heap.size+1∧j≠w.heap.size+1+1 from fun j hj=>⟨HX.out j (by omega),by omega,by omega⟩)
 have at0:(0:Int)≤(at_:Int):=by omega
 have at1:(at_:Int)<(tn:Int):=by omega
 have hgW:g<W.heap.size:=by omega
 have H35:=Lib.hid hG2
 have H46:=Lib.hid hG4
 clear hG0 hG2 hG4 hd0 hd2 hd4 he0 he2 he4 hf0
 go_upto_region 8 with(fail)
 refine(front_any ta tn tc L at_ _ (HSl.out.below hBW) HN.out htc hat).mono ?_
 rintro r w1 ⟨v,rfl,ho,hb1⟩
 have hfe:=front_eq HY.out
 rw[hfe]at ho
 obtain⟨gf,cf,cur,rfl,hgf,_,hcf,_,_⟩:=ho.lies (by simp)
 obtain⟨r1,r2⟩:=own_cell ho wyC_size (i:=0) (j:=1) (x:=y) (u:=.bool y.dirty) rfl rfl
 obtain⟨r3,r4⟩:=own_cell ho wyC_size (i:=0) (j:=2) (x:=y) (u:=.string (bs y.data)) rfl rfl
 simp only[Nat.zero_mul,Nat.zero_add]at r1 r2 r3 r4
 have HO:=Lib.hid ho
 obtain⟨of_,kf,rfl⟩:=more_of hb1
 clear hb1 ho hfe q1 hcell
 have hlf:(y::(L.take at_++L.drop (at_+1))).length=tn:=by have:=hll.out;have:=List.length_take (i:=at_) (l:=L);simp;omega
 rw[hlf]at HO ⊢
 have ngf0:¬ w.heap.size=gf:=by omega
 have ngf2:¬ w.heap.size+1=gf:=by omega
 have ngf3:¬ w.heap.size+1+1=gf:=by omega
 have tn0:(0:Int)<(tn:Int):=by omega
 have HBW:=Lib.hid hBW
 have HSW:=Lib.hid hsW
 clear hBW hBWd hlf
 cases hyd:y.dirty
 case' true=>
  rw[hyd]at r1 E
  have HO2:=Lib.hid (HO.out.set0 wyC_size (x':={ y with dirty:=true }) (u:=.bool true) (j:=1) (by decide) rfl)
  have HB3:=Lib.hid (show Below w.heap.size w (((more W of_ kf).setCell ⟨gf,1,none⟩ (.bool true)))from(bl_more HBW.out HSW.out of_ kf).setCell (p:=⟨gf,1,none⟩) (by show _≤gf;omega) _)
  have G1:=Lib.hid (show(((more W of_ kf).setCell ⟨gf,1,none⟩ (.bool true))).heap[w.heap.size+1]?=some (.cells (ccC ccZ) 35 (0,0))from(Below.heap_setCell _ _ _ _ (by dsimp only;omega)).trans ((more_heap' _ _ _ _ hlt2).trans H35.out))
  have G2:=Lib.hid (show(((more W of_ kf).setCell ⟨gf,1,none⟩ (.bool true))).heap[w.heap.size+1+1]?=some (.cells (wyC wyZ) 46 (0,0))from(Below.heap_setCell _ _ _ _ (by dsimp only;omega)).trans ((more_heap' _ _ _ _ hlt4).trans H46.out))
  have GS:(((more W of_ kf).setCell ⟨gf,1,none⟩ (.bool true))).heap.size=W.heap.size+of_.size:=by simp only[World.size_setCell,more_size]
 case' false=>
  rw[hyd]at r1 E
  have HO2:=Lib.hid (HO.out.set0 wyC_size (x':={ y with dirty:=dirty }) (u:=.bool dirty) (j:=1) (by decide) rfl)
  have HB3:=Lib.hid (show Below w.heap.size w (((more W of_ kf).setCell ⟨gf,1,none⟩ (.bool dirty)))from(bl_more HBW.out HSW.out of_ kf).setCell (p:=⟨gf,1,none⟩) (by show _≤gf;omega) _)
  have G1:=Lib.hid (show(((more W of_ kf).setCell ⟨gf,1,none⟩ (.bool dirty))).heap[w.heap.size+1]?=some (.cells (ccC ccZ) 35 (0,0))from(Below.heap_setCell _ _ _ _ (by dsimp only;omega)).trans ((more_heap' _ _ _ _ hlt2).trans H35.out))
  have G2:=Lib.hid (show(((more W of_ kf).setCell ⟨gf,1,none⟩ (.bool dirty))).heap[w.heap.size+1+1]?=some (.cells (wyC wyZ) 46 (0,0))from(Below.heap_setCell _ _ _ _ (by dsimp only;omega)).trans ((more_heap' _ _ _ _ hlt4).trans H46.out))
  have GS:(((more W of_ kf).setCell ⟨gf,1,none⟩ (.bool dirty))).heap.size=W.heap.size+of_.size:=by simp only[World.size_setCell,more_size]
 all_goals
  go_wp2_with (first|(go_at_call 84;(have hO3:=HO2.out.slv wyC_size;refine(with_any (fun j=>X j∧j≠w.heap.size+1∧j≠w.heap.size+1+1) ⟨some ⟨g,off,none⟩,sn,sc⟩ c k ⟨some ⟨gf,0,none⟩,tn,cf⟩ ({ y with dirty:=true }::(L.take at_++L.drop (at_+1))) _ (fun j hj=>HXW.out j (by rw[GS]at hj;omega)) (HCX.out.below HB3.out) hks hO3.1 hO3.2.1 (fun _ p hp=>by cases hp;exact HXW.out _ hgf)).mono ?_);rintro r w1 ⟨⟨s1,s2,s3⟩,rfl,hca,hb4⟩;have HCA:=Lib.hid hca;obtain⟨ow4,kw4,rfl⟩:=more_of hb4;clear hb4 hO3 hca)|((with_reducible refine gD (Op.store 35 (.tmp 8) (.tmp 62)) ?_);(refine store_row row35 rfl _ _ rfl (w.heap.size+1) (ccC ⟨c.ways,⟨s1,s2,s3⟩⟩) rfl rfl (ccC_size _) (ccC_ones _) (t:=35) (old:=ccC ccZ) ((more_heap' _ _ _ _ (by rw[GS];omega)).trans G1.out) (ccC_size _) ?_);try simp only[Act.put,xA,xB,xC,fR])|((with_reducible refine gD (Op.store 46 (.tmp 9) (.tmp 63)) ?_);(refine store_row row46 rfl _ _ rfl (w.heap.size+1+1) (wyC wyZ) rfl rfl (wyC_size _) (wyC_ones _) (t:=46) (old:=wyC wyZ) ((row_other _ _ _ _ (by omega)).trans ((more_heap' _ _ _ _ (by rw[GS];omega)).trans G2.out)) (wyC_size _) ?_);try simp only[Act.put,xA,xB,xC,fR])|(go_at_call 84;(have hO3:=HO2.out.slv wyC_size;refine(with_any (fun j=>X j∧j≠w.heap.size+1∧j≠w.heap.size+1+1) ⟨some ⟨g,off,none⟩,sn,sc⟩ c k ⟨some ⟨gf,0,none⟩,tn,cf⟩ ({ y with dirty:=dirty }::(L.take at_++L.drop (at_+1))) _ (fun j hj=>HXW.out j (by rw[GS]at hj;omega)) (HCX.out.below HB3.out) hks hO3.1 hO3.2.1 (fun _ p hp=>by cases hp;exact HXW.out _ hgf)).mono ?_);rintro r w1 ⟨⟨s1,s2,s3⟩,rfl,hca,hb4⟩;have HCA:=Lib.hid hca;obtain⟨ow4,kw4,rfl⟩:=more_of hb4;clear hb4 hO3 hca))
  apply ret_cct row35 row46 rfl (w.heap.size+1) (w.heap.size+1+1) (ccC ⟨c.ways,⟨s1,s2,s3⟩⟩) (wyC wyZ) (t:=35) (t':=46) (fr:=(0,0)) (fr':=(0,0)) (hd:=rfl)
  all_goals(try rfl)
  ·refine(row_other _ _ _ _ (by omega)).trans ?_
   exact setRow_heap _ _ (ccC ccZ) _ 35 (0,0) ((more_heap' _ _ _ _ (by rw[GS];omega)).trans G1.out)
  ·exact setRow_heap _ _ (wyC wyZ) _ 46 (0,0) ((row_other _ _ _ _ (by omega)).trans ((more_heap' _ _ _ _ (by rw[GS];omega)).trans G2.out))
  refine⟨⟨s1,s2,s3⟩,by rw[E.out];rfl,?_,?_⟩
  ·rw[E.out]
   exact(HCA.out.same (X:=fun j=>X j∧j≠w.heap.size+1∧j≠w.heap.size+1+1) (by rw[row_size,row_size];exact Nat.le_refl _) (fun j hj=>(row_other _ _ _ _ hj.2.2).trans (row_other _ _ _ _ hj.2.1))).mono (fun j h _=>h.1)
  ·exact bl_row (bl_row (bl_more HB3.out (by rw[GS];omega) _ _) (Nat.le_succ _) _) (by omega) _
theorem put_any(X:Nat→Prop)(s:Sv)(c:Ca)(line:U)(data:By)(dirty:Bool)(hdl:data.length≤1000000)(w:World)(hX:∀ j,w.heap.size≤j→X j)(hc:CaX X w s c):Calls Tryz.prog 48 #[caV c.ways s,.int .u32 line.v,.string (bs data),.bool dirty] w (PutP X (putC c line data dirty) w):=by
 obtain⟨sa,sn,sc⟩:=s
 cases hr:rightC c with
 | false=>exact put_no X sa sn sc c line data dirty hdl w hX hc hr
 | true=>
  cases hf:(findC c line).2.2 with
  | true=>
   by_cases h16:(data.length:Int)=16
   ·exact put_16 X sa sn sc c line data dirty hdl w hX hc hr (findC c line).1 (findC c line).2.1 (by rw[← hf]) h16
   ·exact put_0 X sa sn sc c line data dirty hdl w hX hc hr (findC c line).1 (findC c line).2.1 (by rw[← hf]) h16
  | false=>
   have hwy:c.ways=1∨c.ways=2:=(right_iff.1 hr).1.2
   by_cases h16:(data.length:Int)=16
   ·by_cases hfull:((c.sets.getD (findC c line).1 []).length:Int)=c.ways
    ·rcases hwy with h|h
     ·exact put_f1 X sa sn sc c line data dirty hdl w hX hc hr hf (fun L e=>by subst e;exact⟨hfull,by omega⟩)
     ·exact put_f2 X sa sn sc c line data dirty hdl w hX hc hr hf (fun L e=>by subst e;exact⟨hfull,by omega⟩)
    ·exact put_nf X sa sn sc c line data dirty hdl w hX hc hr hf (fun L e=>by subst e;exact hfull)
   ·by_cases hfull:((c.sets.getD (findC c line).1 []).length:Int)=c.ways
    ·rcases hwy with h|h
     ·exact put_f1 X sa sn sc c line data dirty hdl w hX hc hr hf (fun L e=>by subst e;exact⟨hfull,by omega⟩)
     ·exact put_f2 X sa sn sc c line data dirty hdl w hX hc hr hf (fun L e=>by subst e;exact⟨hfull,by omega⟩)
    ·exact put_nf X sa sn sc c line data dirty hdl w hX hc hr hf (fun L e=>by subst e;exact hfull)
end Go.Proofs.YtdmhfogegfmnfaaGreatDoor
