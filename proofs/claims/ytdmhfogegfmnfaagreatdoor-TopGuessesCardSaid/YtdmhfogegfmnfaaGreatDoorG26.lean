/- Contracts: the stores, backward, as an iterator. Conditions: the entries, the stores read as lists. Contracts: what a load may do. Conditions: the entries, the stores read as lists; the load stands among the entries. -/
import Derived.Test.YtdmhfogegfmnfaaGreatDoorG01
import Derived.Test.YtdmhfogegfmnfaaGreatDoorG04
import Derived.Test.YtdmhfogegfmnfaaGreatDoorG09
import Derived.Test.YtdmhfogegfmnfaaGreatDoorG17
import Derived.Test.YtdmhfogegfmnfaaGreatDoorG25
set_option maxRecDepth 100000
set_option maxHeartbeats 4000000
set_option linter.unusedVariables false
set_option linter.unusedSimpArgs false
namespace Go.Proofs.YtdmhfogegfmnfaaGreatDoor
open Go.RowKit
section
open Go.RowKit Go.Shelf
attribute [local go_sem] Oper.semAt_some
def sdC(s:Sd):Array Value:=#[.int .u32 s.addr.v,.int .i64 s.size,.string (bs s.data),.bool s.there]
def sdZ:Sd:=⟨U.of 0,0,[],false⟩
theorem row205:IsRow 205 4:=⟨_,Tryz.underlying205,rfl,by kernel_rfl⟩
theorem zero205(w:World):(zeroValue 205).run Tryz.prog w= .ok (.agg (sdC sdZ)) w:=by kernel_rfl
@[go_sem] theorem sdC_size(s:Sd):(sdC s).size=4:=(rfl)
theorem sdC_ones(s:Sd):Ones (sdC s):=(rfl)
@[go_sem] theorem sdC_0(s:Sd):(sdC s)[0]?=some (.int .u32 s.addr.v):=(rfl)
@[go_sem] theorem sdC_1(s:Sd):(sdC s)[1]?=some (.int .i64 s.size):=(rfl)
@[go_sem] theorem sdC_2(s:Sd):(sdC s)[2]?=some (.string (bs s.data)):=(rfl)
@[go_sem] theorem sdC_3(s:Sd):(sdC s)[3]?=some (.bool s.there):=(rfl)
abbrev sdEnc(x:Sd):Array Value:=#[.agg (sdC x)]
theorem sz_bd(op:Int):0≤sz op∧sz op≤4:=by unfold sz;split<;>(try split)<;>(try split)<;>omega
theorem sdE_eq{e:En}{bl:By}{z:Int}(h:bytesS e.value (sz e.i.op)=(bl,z)):sdE e=⟨e.addr,sz e.i.op,bl,decide (e.is=3)⟩:=by
 have:=sz_bd e.i.op
 unfold bytesS at h
 rw[if_neg (by omega)]at h
 unfold sdE
 rw[← (Prod.mk.inj h).1]
def OkS(x:Sd):Prop:=(x.data.length:Int)=x.size∧x.size≤1000000
theorem bytesS_size{x:U}{s:Int}{l:By}{z:Int}(h0:0≤s)(h4:s≤4)(h:bytesS x s=(l,z)):(l.length:Int)=s:=by
 unfold bytesS at h
 rw[if_neg (by omega)]at h
 rw[← (Prod.mk.inj h).1]
 simp[bytesL,byOf]
 omega
theorem okE{e:En}{bl:By}{z:Int}(h:bytesS e.value (sz e.i.op)=(bl,z)):OkS ⟨e.addr,sz e.i.op,bl,decide (e.is=3)⟩:=by
 have:=sz_bd e.i.op
 exact⟨bytesS_size this.1 this.2 h,by show sz e.i.op≤_;omega⟩
def up1(L:List En)(k:Nat):List Sd:=(((L.drop k).filter fun e=>decide (kd e.i.op=4)).map sdE).reverse
def up2(L:List En)(S:List Pt)(k:Nat):List Sd:=up1 L 0++((S.drop k).map sdP).reverse
theorem up1_top(L:List En):up1 L L.length=[]:=by simp[up1]
theorem up1_yes{L:List En}{j:Nat}{y:En}(h:L[j]?=some y)(hk:kd y.i.op=4):up1 L j=up1 L (j+1)++[sdE y]:=by
 obtain⟨h1,h2⟩:=List.getElem?_eq_some_iff.1 h
 unfold up1
 rw[List.drop_eq_getElem_cons h1,h2,List.filter_cons_of_pos (by simp[hk])]
 simp
theorem up1_no{L:List En}{j:Nat}{y:En}(h:L[j]?=some y)(hk:¬ kd y.i.op=4):up1 L j=up1 L (j+1):=by
 obtain⟨h1,h2⟩:=List.getElem?_eq_some_iff.1 h
 unfold up1
 rw[List.drop_eq_getElem_cons h1,h2,List.filter_cons_of_neg (by simp[hk])]
theorem up2_top(L:List En)(S:List Pt):up2 L S S.length=up1 L 0:=by simp[up2]
theorem up2_step{L:List En}{S:List Pt}{j:Nat}{y:Pt}(h:S[j]?=some y):up2 L S j=up2 L S (j+1)++[sdP y]:=by
 obtain⟨h1,h2⟩:=List.getElem?_eq_some_iff.1 h
 unfold up2
 rw[List.drop_eq_getElem_cons h1,h2]
 simp
theorem up2_all(L:List En)(S:List Pt):up2 L S 0=backS L S:=by simp[up2,up1,backS]
theorem up1_pre(L:List En)(k:Nat):up1 L k<+: up1 L 0:=by
 unfold up1
 rw[List.reverse_prefix]
 exact((List.drop_suffix k L).filter _).map _
theorem up1_all(L:List En)(S:List Pt)(k:Nat):up1 L k<+: backS L S:=by
 rw[← up2_all]
 exact(up1_pre L k).trans (List.prefix_append _ _)
theorem up2_pre(L:List En)(S:List Pt)(k:Nat):up2 L S k<+: backS L S:=by
 rw[← up2_all]
 unfold up2
 rw[List.prefix_append_right_inj,List.reverse_prefix]
 exact(List.drop_suffix k S).map _
theorem pre_lt{α:Type}{a b:List α}{x:α}(h:a++[x]<+: b):a.length<b.length:=by
 have:=h.length_le
 simp at this
 omega
theorem bwd1_in(n:Nat)(hn:1≤n)(l Ba Bs nL C sn sc:Nat)(A B:Option Addr)(L:List En)(S:List Pt)(w:World)(J Jx:List Sd→World→Prop)(W:World)(hJ:AbidesFrom W.heap.size J)
 (hY:∀ pre x W,OkS x→J pre W→pre.length<(backS L S).length→YieldAt Fence.wide (n-1) Tryz.prog l (sdEnc x) W fun e W'=>
  (e= .returned (.bool true)∧J (pre++[x]) W'∧Below w.heap.size W W')∨(e= .returned (.bool false)∧Jx (pre++[x]) W'))
 (hL:Sl enC 17 w A nL L) (hS:Sl ptC 2 w B sn S) (hd:∀ p∈S,p.data.length≤1000000) (ha:w.cell? ⟨Ba,0,none⟩=some (.slice A nL C)) (hb:w.cell? ⟨Bs,0,none⟩=some (.slice B sn sc)) (ba:Ba<w.heap.size) (bb:Bs<w.heap.size) (hW:Below w.heap.size w W) (h0:J [] W):
 CallsIn Fence.wide n Tryz.prog 148 #[.func (.yield l) #[] #[],.pointer (some ⟨Ba,0,none⟩),.pointer (some ⟨Bs,0,none⟩)] W fun e W'=>(∃ v,e= .returned v)∧
  ((∃ ys,ys=backS L S∧J ys W')∨(∃ pre,pre<+: backS L S∧Jx pre W')):=by
 have hl:=hL.len
 have hs:=hS.len
 have hLf:=hL.few
 have hSf:=hS.few
 refine callsIn_of_wp Tryz.func148 rfl trivial ?_ rfl
 simp only[Tryz.ntmps148,List.size_toArray,List.length_cons,List.length_nil,Nat.reduceAdd,Nat.reduceSub,Array.replicate_succ,Array.replicate_zero,List.push_toArray,List.append_toArray,List.nil_append,List.cons_append]
 have ha1:=(hW.cell (p:=⟨Ba,0,none⟩) ba).trans ha
 have HY:=Lib.hid hY
 have HJ:=Lib.hid hJ
 have HL:=Lib.hid hL
 have HS:=Lib.hid hS
 have HA:=Lib.hid ha
 have HB:=Lib.hid hb
 have HD:=Lib.hid hd
 have HW:=Lib.hid hW
 have e0:IntKind.i64.wrap ((nL:Int)-1)=(nL:Int)-1:=IntWalk.i64_in _ (by omega)
 clear hY hJ hL hS ha hb hd
 gi_wp2
 clear ha1 e0
 gi_loopw [4] (fun s wr=>∃ k:Nat,k≤nL∧s= .int .i64 ((k:Int)-1)∧J (up1 L k) wr∧Below w.heap.size w wr)
  (fun s _=>(intOf s+1).toNat)
 case atStart=>exact⟨nL,Nat.le_refl _,rfl,by rw[← hl,up1_top];exact h0,HW.out⟩
 case round=>
  obtain⟨k,hk,rfl,hJs,hnx⟩:=hrel
  by_cases hlt:0<k
  ·obtain⟨j,rfl⟩:∃ j,k=j+1:=⟨k-1,by omega⟩
   have ej:((j+1:Nat):Int)-1=(j:Int):=by omega
   rw[ej]
   have ha2:=(hnx.cell (p:=⟨Ba,0,none⟩) ba).trans HA.out
   obtain⟨g,off,y,rfl,hg,hy0,hc⟩:=(HL.out.below hnx).at_ (i:=j) (by omega)
   have HC:=Lib.hid hc
   have HYY:=Lib.hid hy0
   have b1:(0:Int)≤(j:Int):=by omega
   have b2:(j:Int)<(nL:Int):=by omega
   have HK:=Lib.hid hk
   have H:=Lo.start wr
   have HJS:=Lib.hid hJs
   have e3:IntKind.i64.wrap ((j:Int)-1)=(j:Int)-1:=IntWalk.i64_in _ (by omega)
   clear hc hy0 hk hlt ej hJs
   by_cases hkd:kd y.i.op=4
   ·have d1:(kd y.i.op != 4)=false:=by rw[hkd];rfl
    obtain⟨bl,z,hbz⟩:∃ bl z,bytesS y.value (sz y.i.op)=(bl,z):=⟨_,_,rfl⟩
    have BY:=Lib.hid (fun W=>bytes_any y.value (sz y.i.op) W)
    unfold BytP at BY
    rw[hbz]at BY
    have HU:=Lib.hid (up1_yes HYY.out hkd)
    have HO:=Lib.hid (okE hbz)
    rw[sdE_eq hbz]at HU
    clear hkd hbz
    gi_wp2_with (first|((with_reducible show wpListIn _ _ Tryz.prog _ _ (⟨_,Op.load 85 (.tmp 20),_,_,_,_⟩::_) _ _);refine in_lrow wideF rfl row85 _ rfl g (off+j*17) rfl (enC y) (enC_size y) HC.out ?_;try simp only[Act.put,xA,xB,xC,fR])|(refine⟨trivial,?_⟩;gi_at_call 52;refine(callsIn_wide.2 (kind_any _ _ _ _ _ _)).mono ?_;rintro r w1 ⟨rfl,hb⟩;replace H:=H.below hb)|(refine⟨trivial,?_⟩;gi_at_call 82;refine(callsIn_wide.2 (size_any _ _ _ _ _ _)).mono ?_;rintro r w1 ⟨rfl,hb⟩;replace H:=H.below hb)|(refine⟨trivial,?_⟩;gi_at_call 89;refine(callsIn_wide.2 (BY.out _)).mono ?_;rintro r w1 ⟨rfl,hb⟩;replace H:=H.below hb)|((with_reducible show wpListIn _ _ Tryz.prog _ _ (⟨_,Op.call { callee:=Callee.value (.tmp 36),args:=_,argTypes:=_ },_,_,_,_⟩::_) _ _);refine in_yield wideF rfl rfl _ _ rfl rfl (.agg (sdC ⟨y.addr,sz y.i.op,bl,decide (y.is=3)⟩)) rfl (HY.out _ _ _ HO.out (abide_below HJ.out HJS.out H.bl) (pre_lt (x:=⟨y.addr,sz y.i.op,bl,decide (y.is=3)⟩) (by rw[← HU.out];exact up1_all L S j))) ?_)|((with_reducible show wpListIn _ _ Tryz.prog _ _ (⟨_,Op.alloc 85,_,_,_,_⟩::_) _ _);refine in_Lal wideF rfl (enC enZ) zero85 H rfl ?_;clear H;intro w1 b1 hlt1 hb1 H;go_frame)|((with_reducible show wpListIn _ _ Tryz.prog _ _ (⟨_,Op.store 85 (.tmp 5) _,_,_,_,_⟩::_) _ _);refine in_Lslw wideF rfl cel85 _ _ _ H _ _ rfl rfl _ rfl rfl rfl rfl ?_;clear H;intro w1 ho1 H;go_frame)|((with_reducible show wpListIn _ _ Tryz.prog _ _ (⟨_,Op.load 83 (.tmp 22),_,_,_,_⟩::_) _ _);refine in_Lllr wideF rfl row83 H _ rfl _ 2 rfl _ _ mm0 (inC _) rfl (sub_inst _) ?_;go_frame)|((with_reducible show wpListIn _ _ Tryz.prog _ _ (⟨_,Op.load 83 (.tmp 26),_,_,_,_⟩::_) _ _);refine in_Lllr wideF rfl row83 H _ rfl _ 2 rfl _ _ mm0 (inC _) rfl (sub_inst _) ?_;go_frame)|((with_reducible show wpListIn _ _ Tryz.prog _ _ (⟨_,Op.load 28 (.tmp 30),_,_,_,_⟩::_) _ _);refine in_Lll1 wideF rfl one28 H _ rfl _ 10 rfl _ _ mm0 _ (enC_10 _) ?_;go_frame)|((with_reducible show wpListIn _ _ Tryz.prog _ _ (⟨_,Op.load 28 (.tmp 37),_,_,_,_⟩::_) _ _);refine in_Lll1 wideF rfl one28 H _ rfl _ 12 rfl _ _ mm0 _ (enC_12 _) ?_;go_frame)|((with_reducible show wpListIn _ _ Tryz.prog _ _ (⟨_,Op.load 3 (.tmp 41),_,_,_,_⟩::_) _ _);refine in_Lll1 wideF rfl one3 H _ rfl _ 8 rfl _ _ mm0 _ (enC_8 _) ?_;go_frame))
    rintro e W3 (⟨rfl,hJ3,hk3⟩|⟨rfl,hJx3⟩)
    ·refine⟨_,rfl,?_⟩
     have HJ3:=Lib.hid hJ3
     clear hJ3
     gi_wp2
     go_roundw
     case rel=>exact⟨j,by have:=HK.out;omega,rfl,by rw[HU.out];exact HJ3.out,(hnx.trans (H.bl.mono hnx.size)).trans hk3⟩
     case measure=>simp[intOf]<;>omega
    ·refine⟨_,rfl,?_⟩
     have HJ3:=Lib.hid hJx3
     clear hJx3
     gi_wp2
     refine bodyPost_ret (results_none rfl _ _ _) rfl ?_
     exact⟨⟨_,rfl⟩,.inr ⟨_,by rw[← HU.out];exact up1_all L S j,HJ3.out⟩⟩
   ·have d1:(kd y.i.op != 4)=true:=by rw[bne_iff_ne];exact hkd
    have HU:=Lib.hid (up1_no HYY.out hkd)
    clear hkd
    gi_wp2_with (first|((with_reducible show wpListIn _ _ Tryz.prog _ _ (⟨_,Op.load 85 (.tmp 20),_,_,_,_⟩::_) _ _);refine in_lrow wideF rfl row85 _ rfl g (off+j*17) rfl (enC y) (enC_size y) HC.out ?_;try simp only[Act.put,xA,xB,xC,fR])|(refine⟨trivial,?_⟩;gi_at_call 52;refine(callsIn_wide.2 (kind_any _ _ _ _ _ _)).mono ?_;rintro r w1 ⟨rfl,hb⟩;replace H:=H.below hb)|((with_reducible show wpListIn _ _ Tryz.prog _ _ (⟨_,Op.alloc 85,_,_,_,_⟩::_) _ _);refine in_Lal wideF rfl (enC enZ) zero85 H rfl ?_;clear H;intro w1 b1 hlt1 hb1 H;go_frame)|((with_reducible show wpListIn _ _ Tryz.prog _ _ (⟨_,Op.store 85 (.tmp 5) _,_,_,_,_⟩::_) _ _);refine in_Lslw wideF rfl cel85 _ _ _ H _ _ rfl rfl _ rfl rfl rfl rfl ?_;clear H;intro w1 ho1 H;go_frame)|((with_reducible show wpListIn _ _ Tryz.prog _ _ (⟨_,Op.load 83 (.tmp 22),_,_,_,_⟩::_) _ _);refine in_Lllr wideF rfl row83 H _ rfl _ 2 rfl _ _ mm0 (inC _) rfl (sub_inst _) ?_;go_frame))
    go_roundw
    case rel=>exact⟨j,by have:=HK.out;omega,rfl,by rw[HU.out];exact abide_below HJ.out HJS.out H.bl,hnx.trans (H.bl.mono hnx.size)⟩
    case measure=>simp[intOf]<;>omega
  ·obtain rfl:k=0:=by omega
   have HJS:=Lib.hid (show J (up2 L S S.length) wr by rw[up2_top];exact hJs)
   have hb2:=(hnx.cell (p:=⟨Bs,0,none⟩) bb).trans HB.out
   have e0:IntKind.i64.wrap ((sn:Int)-1)=(sn:Int)-1:=IntWalk.i64_in _ (by omega)
   clear hJs
   have e9:((0:Nat):Int)-1= -1:=by omega
   rw[e9]
   clear e9
   gi_wp2
   clear hb2 e0
   gi_loopw [9] (fun s wr=>∃ k:Nat,k≤sn∧s= .int .i64 ((k:Int)-1)∧J (up2 L S k) wr∧Below w.heap.size w wr)
    (fun s _=>(intOf s+1).toNat)
   case atStart=>exact⟨sn,Nat.le_refl _,rfl,by rw[← hs];exact HJS.out,hnx⟩
   case round=>
    clear hnx
    obtain⟨k,hk,rfl,hJs,hnx⟩:=hrel
    by_cases hlt:0<k
    ·obtain⟨j,rfl⟩:∃ j,k=j+1:=⟨k-1,by omega⟩
     have ej:((j+1:Nat):Int)-1=(j:Int):=by omega
     rw[ej]
     have hb2:=(hnx.cell (p:=⟨Bs,0,none⟩) bb).trans HB.out
     obtain⟨g,off,y,rfl,hg,hy0,hc⟩:=(HS.out.below hnx).at_ (i:=j) (by omega)
     have HC:=Lib.hid hc
     have HU:=Lib.hid (up2_step (L:=L) hy0)
     have hyl:=HD.out y (List.mem_of_getElem? hy0)
     have b1:(0:Int)≤(j:Int):=by omega
     have b2:(j:Int)<(sn:Int):=by omega
     have HK:=Lib.hid hk
     have H:=Lo.start wr
     have HJS:=Lib.hid hJs
     have e3:IntKind.i64.wrap ((j:Int)-1)=(j:Int)-1:=IntWalk.i64_in _ (by omega)
     clear hc hy0 hk hlt ej hJs
     gi_wp2_with (first|((with_reducible show wpListIn _ _ Tryz.prog _ _ (⟨_,Op.load 89 (.tmp 56),_,_,_,_⟩::_) _ _);refine in_lrow wideF rfl row89 _ rfl g (off+j*2) rfl (ptC y) (ptC_size y) HC.out ?_;try simp only[Act.put,xA,xB,xC,fR])|((with_reducible show wpListIn _ _ Tryz.prog _ _ (⟨_,Op.call { callee:=Callee.value (.tmp 58),args:=_,argTypes:=_ },_,_,_,_⟩::_) _ _);refine in_yield wideF rfl rfl _ _ rfl rfl (.agg (sdC ⟨y.addr,y.data.length,y.data,true⟩)) rfl (HY.out _ _ _ ⟨rfl,by show(y.data.length:Int)≤_;omega⟩ (abide_below HJ.out HJS.out H.bl) (pre_lt (x:=⟨y.addr,y.data.length,y.data,true⟩) (by rw[show(⟨y.addr,y.data.length,y.data,true⟩:Sd)=sdP y from rfl,← HU.out];exact up2_pre L S j))) ?_)|((with_reducible show wpListIn _ _ Tryz.prog _ _ (⟨_,Op.alloc 89,_,_,_,_⟩::_) _ _);refine in_Lal wideF rfl (ptC ptZ) zero89 H rfl ?_;clear H;intro w1 b1 hlt1 hb1 H;go_frame)|((with_reducible show wpListIn _ _ Tryz.prog _ _ (⟨_,Op.store 89 (.tmp 10) _,_,_,_,_⟩::_) _ _);refine in_Lslw wideF rfl cel89 _ _ _ H _ _ rfl rfl _ rfl rfl rfl rfl ?_;clear H;intro w1 ho1 H;go_frame)|((with_reducible show wpListIn _ _ Tryz.prog _ _ (⟨_,Op.load 28 (.tmp 59),_,_,_,_⟩::_) _ _);refine in_Lll1 wideF rfl one28 H _ rfl _ 0 rfl _ _ mm0 _ (ptC_0 _) ?_;go_frame)|((with_reducible show wpListIn _ _ Tryz.prog _ _ (⟨_,Op.load 9 (.tmp 61),_,_,_,_⟩::_) _ _);refine in_Lll1 wideF rfl one9 H _ rfl _ 1 rfl _ _ mm0 _ (ptC_1 _) ?_;go_frame)|((with_reducible show wpListIn _ _ Tryz.prog _ _ (⟨_,Op.load 9 (.tmp 64),_,_,_,_⟩::_) _ _);refine in_Lll1 wideF rfl one9 H _ rfl _ 1 rfl _ _ mm0 _ (ptC_1 _) ?_;go_frame))
     rintro e W3 (⟨rfl,hJ3,hk3⟩|⟨rfl,hJx3⟩)
     ·refine⟨_,rfl,?_⟩
      have HJ3:=Lib.hid hJ3
      clear hJ3
      gi_wp2
      go_roundw
      case rel=>exact⟨j,by have:=HK.out;omega,rfl,by rw[HU.out];exact HJ3.out,(hnx.trans (H.bl.mono hnx.size)).trans hk3⟩
      case measure=>simp[intOf]<;>omega
     ·refine⟨_,rfl,?_⟩
      have HJ3:=Lib.hid hJx3
      clear hJx3
      gi_wp2
      refine bodyPost_ret (results_none rfl _ _ _) rfl ?_
      exact⟨⟨_,rfl⟩,.inr ⟨_,by rw[show(⟨y.addr,y.data.length,y.data,true⟩:Sd)=sdP y from rfl,← HU.out];exact up2_pre L S j,HJ3.out⟩⟩
    ·obtain rfl:k=0:=by omega
     have e9:((0:Nat):Int)-1= -1:=by omega
     rw[e9]
     gi_wp2
     go_end0
     exact⟨⟨_,rfl⟩,.inl ⟨_,(up2_all L S),hJs⟩⟩
abbrev Sok':={ x:Sd // OkS x }
theorem bwd_stops(n:Nat)(hn:1≤n)(Ba Bs nL C sn sc:Nat)(A B:Option Addr)(L:List En)(S:List Pt)(w:World)(hL:Sl enC 17 w A nL L)(hS:Sl ptC 2 w B sn S)(hd:∀ p∈S,p.data.length≤1000000)(ha:w.cell? ⟨Ba,0,none⟩=some (.slice A nL C))(hb:w.cell? ⟨Bs,0,none⟩=some (.slice B sn sc))(ba:Ba<w.heap.size)(bb:Bs<w.heap.size):
 SeqStopsK Fence.wide n Tryz.prog 148 #[.pointer (some ⟨Ba,0,none⟩),.pointer (some ⟨Bs,0,none⟩)] (fun x:Sok'=>sdEnc x.1) (Below w.heap.size) (fun ys=>ys.map (·.1)=backS L S) (fun pre=>pre.map (·.1)<+: backS L S) (backS L S).length w:=fun l J Jx W hW hJ _ hY h0=>by
 refine(bwd1_in n hn l Ba Bs nL C sn sc A B L S w (fun pre W=>∃ p:List Sok',p.map (·.1)=pre∧J p W) (fun pre W=>∃ p:List Sok',p.map (·.1)=pre∧Jx p W) W ?_ ?_ hL hS hd ha hb ba bb hW ⟨[],rfl,h0⟩).mono ?_
 ·intro s A B row h1 h2 h3
  obtain⟨p,e,h⟩:=h1
  exact⟨p,e,hJ p A B row h h2 h3⟩
 ·rintro pre x W1 hx ⟨p,e,h⟩ hlen
  have hq:=hY p ⟨x,hx⟩ W1 h (by rw[← e]at hlen;simpa using hlen)
  obtain⟨fn,tmps,assign,body,hy,hR⟩:=hq
  refine⟨fn,tmps,assign,body,hy,hR.mono ?_⟩
  rintro e' W' (⟨a1,a2,a3⟩|⟨a1,a2⟩)
  ·exact .inl ⟨a1,⟨_,by rw[List.map_append,e];rfl,a2⟩,a3⟩
  ·exact .inr ⟨a1,⟨_,by rw[List.map_append,e];rfl,a2⟩⟩
 ·rintro e' W' ⟨hv,⟨ys,e,p,e2,h⟩|⟨pre,e,p,e2,h⟩⟩
  ·exact⟨hv,.inl ⟨p,e2.trans e,h⟩⟩
  ·exact⟨hv,.inr ⟨p,by show p.map (·.1)<+: _;rw[e2];exact e,h⟩⟩
theorem bwd_in(n:Nat)(w:World)(A B:Option Addr)(nL C sn sc:Nat):CallsIn Fence.wide n Tryz.prog 133 #[.slice A nL C,.slice B sn sc] w fun e w'=>e= .returned (.func (.func 148) #[] #[.pointer (some ⟨w.heap.size,0,none⟩),.pointer (some ⟨w.heap.size+1,0,none⟩)])∧w'=(w.alloc (.cells #[.slice A nL C] 31)).alloc (.cells #[.slice B sn sc] 32):=by
 refine callsIn_of_wp Tryz.func133 rfl trivial ?_ rfl
 simp only[Tryz.ntmps133,List.size_toArray,List.length_cons,List.length_nil,Nat.reduceAdd,Nat.reduceSub,Array.replicate_succ,Array.replicate_zero,List.push_toArray,List.append_toArray,List.nil_append,List.cons_append]
 gi_wp2
 go_ret
 exact⟨rfl,rfl⟩
end
section
open Go.RowKit Go.Shelf
attribute [local go_sem] Oper.semAt_some
def nonL(at_:U)(n:Int)(L:List Sd):Prop:=∀ x∈L,lapsB x.addr x.size at_ n=false
def hitS(at_:U)(n:Int)(s:Sd):Int×By:=if holdsB s.addr s.size at_ n=false∨s.there=false then(0,[])else(1,cutB s.data (at_.v-s.addr.v).toNat n.toNat)
theorem seek_none{at_:U}{n:Int}:∀ {L:List Sd},nonL at_ n L→seekS at_ n L=(2,[])
 | [],_=>rfl
 | s::L,h=>by
  unfold seekS
  rw[if_pos (h s (by simp))]
  exact seek_none fun x hx=>h x (by simp[hx])
theorem seek_hit{at_:U}{n:Int}{x:Sd}:∀ {pre L:List Sd},pre++[x]<+: L→nonL at_ n pre→lapsB x.addr x.size at_ n=true→seekS at_ n L=hitS at_ n x
 | [],[],h,_,_=>by simp at h
 | [],s::L,h,_,hx=>by
  have:x=s:=by simpa using h
  subst this
  unfold seekS hitS
  rw[if_neg (by rw[hx];simp)]
 | p::pre,[],h,_,_=>by simp at h
 | p::pre,s::L,h,hn,hx=>by
  rw[List.cons_append,List.cons_prefix_cons]at h
  obtain⟨rfl,h⟩:=h
  unfold seekS
  rw[if_pos (hn p (by simp))]
  exact seek_hit h (fun y hy=>hn y (by simp[hy])) hx
def okA(L:List En)(k:Nat):Prop:=∀ y∈L.take k,¬ (kd y.i.op=4∧(y.known=false∨y.halt≠0))
theorem okA_any{L:List En}{k:Nat}(h:okA L k):(L.take k).any (fun f=>decide (kd f.i.op=4)&&(!f.known||!decide (f.halt=0)))=false:=by
 rw[List.any_eq_false]
 intro y hy hc
 refine h y hy ?_
 simp only[Bool.and_eq_true,decide_eq_true_eq,Bool.or_eq_true,Bool.not_eq_true',decide_eq_false_iff_not]at hc
 exact hc
theorem okA_bad{L:List En}{k i:Nat}{y:En}(h:L[k]?=some y)(hk:k<i)(hb:kd y.i.op=4∧(y.known=false∨y.halt≠0)):(L.take i).any (fun f=>decide (kd f.i.op=4)&&(!f.known||!decide (f.halt=0)))=true:=by
 rw[List.any_eq_true]
 refine⟨y,?_,?_⟩
 ·rw[List.mem_take_iff_getElem]
  obtain⟨h1,h2⟩:=List.getElem?_eq_some_iff.1 h
  exact⟨k,by omega,h2⟩
 ·simp only[Bool.and_eq_true,decide_eq_true_eq,Bool.or_eq_true,Bool.not_eq_true',decide_eq_false_iff_not]
  exact hb
theorem okA_next{L:List En}{k:Nat}{y:En}(h:okA L k)(hy:L[k]?=some y)(hb:¬ (kd y.i.op=4∧(y.known=false∨y.halt≠0))):okA L (k+1):=take_more hy h hb
def DecidP(r:Int×By)(w:World)(e:Ending)(w':World):Prop:=e= .returned (.tuple #[.int .i64 r.1,.string (bs r.2)])∧Below w.heap.size w w'
theorem decide_in(A:Option Addr)(nL C:Nat)(L:List En)(B:Option Addr)(sn sc:Nat)(S:List Pt)(i:Nat)(w:World)(hL:Sl enC 17 w A nL L)(hW:Wf A nL C)(hS:Sl ptC 2 w B sn S)(hd:∀ p∈S,p.data.length≤1000000)(hi:i<nL):CallsIn Fence.wide 6 Tryz.prog 119 #[.slice A nL C,.slice B sn sc,.int .i64 (i:Int)] w (DecidP (decideR L S i) w):=by
 have hl:=hL.len
 have hLf:=hL.few
 obtain⟨g,off,y,rfl,hg,hy,hc⟩:=hL.at_ hi
 have hyd:L.getD i default=y:=by rw[List.getD_eq_getElem?_getD,hy];rfl
 have HC:=Lib.hid hc
 have HG:=Lib.hid hg
 have HL:=Lib.hid hL
 have HS:=Lib.hid hS
 have HW:=Lib.hid hW
 have HD:=Lib.hid hd
 have q1:decide ((i:Int)<0)=false:=decide_eq_false (by omega)
 have q2:decide (nL≤i)=false:=decide_eq_false (by omega)
 have q3:(0:Int)≤(i:Int):=by omega
 have q4:(i:Int)<(nL:Int):=by omega
 have H:=Lo.start w
 refine callsIn_of_wp_marks Tryz.func119 rfl trivial ?_ rfl
 simp only[Tryz.ntmps119,List.size_toArray,List.length_cons,List.length_nil,Nat.reduceAdd,Nat.reduceSub,Array.replicate_succ,Array.replicate_zero,List.push_toArray,List.append_toArray,List.nil_append,List.cons_append]
 clear hL hW hS hd hy hc hg
 refine wpIn_wide.2 ?_
 by_cases hk3:kd y.i.op=3
 ·have d1:(kd y.i.op != 3)=false:=by rw[hk3];rfl
  have HE:=Lib.hid (show decideR L S i=if(L.take i).any (fun f=>decide (kd f.i.op=4)&&(!f.known||!decide (f.halt=0)))then(0,[])else seekS y.addr (sz y.i.op) (backS (L.take i) S) by
   unfold decideR
   simp only[hyd]
   rw[if_neg (by rw[hk3];simp)])
  clear hk3 hyd
  have q5:i≤C:=by have:=HW.out.le;omega
  go_wp2_with (first|((with_reducible refine gAl 3 ?_);refine st_Lal1 rfl (.int .i64 0) rfl zero3 H rfl ?_;clear H;intro w1 b6 hlt1 hb1 H;try simp only[Act.put,xA,xB,xC,fR])|((with_reducible refine gAl 9 ?_);refine st_Lal1 rfl (.string (bs [])) rfl zero9 H rfl ?_;clear H;intro w1 b7 hlt1 hb1 H;try simp only[Act.put,xA,xB,xC,fR]))
  go_step3
  go_wp2_with (first|((with_reducible refine gL 83 26 ?_);refine sTj rfl ?_;refine wp_lrow row83 _ rfl g (off+i*17+2) rfl (inC y.i) rfl (fun j v hv=>(H.bl.cell (p:=⟨g,_,none⟩) HG.out).trans (by have h0:=HC.out (2+j) v (sub_inst y j v hv);rw[← Nat.add_assoc]at h0;exact h0)) ?_;try simp only[Act.put,xA,xB,xC,fR])|(go_at_call 52;refine(kind_any _ _ _ _ _ _).mono ?_;rintro r w1 ⟨rfl,hb⟩;replace H:=H.below hb))
  go_loopw [35] (fun s wr=>∃ k:Nat,k≤i∧s= .int .i64 (k:Int)∧Hid (okA L k)∧Lo w wr [(b7,#[.string (bs [])],9),(b6,#[.int .i64 0],3)]) (fun s _=>i-(intOf s).toNat)
  case atStart=>exact⟨0,by omega,rfl,Lib.hid (fun y hy=>by simp at hy),H⟩
  case round=>
   clear H
   obtain⟨k,hk,rfl,HO,H⟩:=hrel
   by_cases hlt:k<i
   ·obtain⟨g2,off2,z,e2,hg2,hz,hc2⟩:=HL.out.at_ (i:=k) (by omega)
    cases e2
    have HZ:=Lib.hid hz
    have HC2:=Lib.hid hc2
    have key:((kd z.i.op== 4)=false∧Hid (¬ (kd z.i.op=4∧(z.known=false∨z.halt≠0))))∨((kd z.i.op== 4)=true∧z.known=false∧Hid (kd z.i.op=4∧(z.known=false∨z.halt≠0)))∨((kd z.i.op== 4)=true∧z.known=true∧(z.halt != 0)=true∧Hid (kd z.i.op=4∧(z.known=false∨z.halt≠0)))∨((kd z.i.op== 4)=true∧z.known=true∧(z.halt != 0)=false∧Hid (¬ (kd z.i.op=4∧(z.known=false∨z.halt≠0)))):=by
     by_cases e1:kd z.i.op=4
     ·cases e2:z.known with
      | false=>exact .inr (.inl ⟨by rw[e1];rfl,rfl,Lib.hid ⟨e1,.inl rfl⟩⟩)
      | true=>
       by_cases e3:z.halt=0
       ·exact .inr (.inr (.inr ⟨by rw[e1];rfl,rfl,by rw[e3];rfl,Lib.hid (fun h=>h.2.elim (fun h=>by cases h) (fun h=>h e3))⟩))
       ·exact .inr (.inr (.inl ⟨by rw[e1];rfl,rfl,by rw[bne_iff_ne];exact e3,Lib.hid ⟨e1,.inr e3⟩⟩))
     ·exact .inl ⟨by rw[beq_eq_false_iff_ne];exact e1,Lib.hid (fun h=>e1 h.1)⟩
    clear hz hc2 hg2
    have HK:=Lib.hid hlt
    rcases key with⟨d2,HB⟩|⟨d2,d3,HB⟩|⟨d2,d3,d4,HB⟩|⟨d2,d3,d4,HB⟩
    all_goals
     go_wp2_with (first|((with_reducible refine gL 85 37 ?_);refine st_lrow rfl row85 _ rfl g (off+k*17) rfl (enC z) rfl (fun j v hv=>(H.bl.cell (p:=⟨g,_,none⟩) HG.out).trans (HC2.out j v hv)) ?_;try simp only[Act.put,xA,xB,xC,fR])|(go_at_call 52;refine(kind_any _ _ _ _ _ _).mono ?_;rintro r w1 ⟨rfl,hb⟩;replace H:=H.below hb)|((with_reducible refine gAl 85 ?_);refine st_Lal rfl (enC enZ) zero85 H rfl ?_;clear H;intro w1 b1 hlt1 hb1 H;go_frame)|((with_reducible refine gS 85 9 ?_);refine st_Lslw rfl cel85 _ _ _ H _ _ rfl rfl _ rfl rfl rfl rfl ?_;clear H;intro w1 ho1 H;go_frame)|((with_reducible refine gL 83 39 ?_);refine st_Lllr rfl row83 H _ rfl _ 2 rfl _ _ mm0 (inC _) rfl (sub_inst _) ?_;go_frame)|((with_reducible refine gS 3 6 ?_);refine st_LslI rfl cel3 2 _ _ _ H rfl _ _ rfl 0 rfl _ rfl rfl rfl (Nat.le_of_ble_eq_true rfl) _ (one_int _ _ _) rfl ?_;clear H;intro w1 ho1 H;go_frame)|((with_reducible refine gS 9 7 ?_);refine st_LslI rfl cel9 1 _ _ _ H rfl _ _ rfl 0 rfl _ rfl rfl rfl (Nat.le_of_ble_eq_true rfl) _ (one_str _ _) rfl ?_;clear H;intro w1 ho1 H;go_frame)|((with_reducible refine gL 4 44 ?_);refine sTj rfl ?_;refine wp_Lll1 one4 H _ rfl _ 15 rfl _ _ mm0 _ (enC_15 _) ?_;go_frame)|((with_reducible refine gL 3 48 ?_);refine sTj rfl ?_;refine wp_Lll1 one3 H _ rfl _ 13 rfl _ _ mm0 _ (enC_13 _) ?_;go_frame))
    ·go_roundw
     case rel=>exact⟨k+1,HK.out,by go_num,Lib.hid (okA_next HO.out HZ.out HB.out),H.drop⟩
     case measure=>have:=HK.out;simp[intOf];omega
    ·rw[Exit.noGoto_ret]
     have c6:=H.lcell (b:=b6) (cs:=#[.int .i64 0]) (T:=3) (by simp) 0
     have c7:=H.lcell (b:=b7) (cs:=#[.string (bs [])]) (T:=9) (by simp[bs]) 0
     refine⟨.tuple #[.int .i64 0,.string (bs [])],?_,?_,H.bl⟩
     ·have q6:(#[Value.int .i64 0]:Array Value)[0]?=some (.int .i64 0):=rfl
      have q7:(#[Value.string (bs [])]:Array Value)[0]?=some (.string (bs [])):=rfl
      rw[q6]at c6
      rw[q7]at c7
      simp[results,Tryz.f119,go_sem,c6,c7]
     ·rw[HE.out,okA_bad HZ.out HK.out HB.out,if_pos rfl]
    ·rw[Exit.noGoto_ret]
     have c6:=H.lcell (b:=b6) (cs:=#[.int .i64 0]) (T:=3) (by simp) 0
     have c7:=H.lcell (b:=b7) (cs:=#[.string (bs [])]) (T:=9) (by simp[bs]) 0
     refine⟨.tuple #[.int .i64 0,.string (bs [])],?_,?_,H.bl⟩
     ·have q6:(#[Value.int .i64 0]:Array Value)[0]?=some (.int .i64 0):=rfl
      have q7:(#[Value.string (bs [])]:Array Value)[0]?=some (.string (bs [])):=rfl
      rw[q6]at c6
      rw[q7]at c7
      simp[results,Tryz.f119,go_sem,c6,c7]
     ·rw[HE.out,okA_bad HZ.out HK.out HB.out,if_pos rfl]
    ·go_roundw
     case rel=>exact⟨k+1,HK.out,by go_num,Lib.hid (okA_next HO.out HZ.out HB.out),H.drop⟩
     case measure=>have:=HK.out;simp[intOf];omega
   ·obtain rfl:k=i:=by omega
    have HE2:=Lib.hid (show decideR L S k=seekS y.addr (sz y.i.op) (backS (L.take k) S) by rw[HE.out,okA_any HO.out,if_neg (by simp)])
    clear HE HO hk hlt
    go_wp2_with fail
    go_wp2_with fail
    try refine only_normal ?_
    refine beginL 13 (l0:=zz15) H (by kernel_rfl) ?_ (by kernel_rfl);intro H1;clear H;revert H1
    apply meet3
    ·intro rest H
     iterate 4 refine rP H ?_;go_frame
     refine tC 4 58 rfl (by kernel_rfl) iQ (by exact yields_one one28 rfl _ rfl _ rfl _ (fun w' h=>(h.bl.cell (p:=⟨g,off+k*17+12,none⟩) HG.out).trans (HC.out 12 _ rfl))) H ?_;go_frame
     iterate 4 refine rP H ?_;go_frame
     refine tC 9 63 rfl (by kernel_rfl) iQ (by exact yields_row row83 rfl _ rfl g (off+k*17+2) rfl (inC y.i) rfl (fun w' h j v hv=>(h.bl.cell (p:=⟨g,_,none⟩) HG.out).trans (by have h0:=HC.out (2+j) v (sub_inst y j v hv);rw[← Nat.add_assoc]at h0;exact h0))) H ?_;go_frame
     refine threeC (i:=10) (j:=11) (k:=12) (oi:=⟨some 64,_,_,_,_,_⟩) (oj:=⟨some 10,_,_,_,_,_⟩) (ok:=⟨some 11,_,_,_,_,_⟩) rfl rfl rfl (by kernel_rfl) (fun K hK=>?_) (fun K hK=>?_) (fun K hK=>?_)
     ·refine step_fn rfl _ _ _ (size_any _ _ _ _ _ _) (by go_simp<;>rfl) ?_;rintro r w1 ⟨rfl,hb⟩;refine⟨_,rfl,?_⟩;replace H:=H.below hb
      refine hK.out _ _ (fun _=>H) ?_;clear hK K;go_frame
      refine twoC (i:=11) (j:=12) (oi:=⟨some 10,_,_,_,_,_⟩) (oj:=⟨some 11,_,_,_,_,_⟩) rfl rfl (by kernel_rfl) (fun K hK=>?_) (fun K hK=>?_)
      ·refine step_Lal1 rfl (.int .u32 0) rfl zero28 H rfl ?_;clear H;intro w1 b10 hlt1 hb1 H
       refine hK.out _ _ (fun _=>H.drop) ?_;clear hK K;go_frame
       refine o1C 12 11 (fun K hK=>?_)
       refine step_Lal1 rfl (.int .i64 0) rfl zero3 H rfl ?_;clear H;intro w1 b11 hlt1 hb1 H
       refine hK.out _ _ (fun _=>H.drop.drop) ?_;clear hK K;go_frame
       exact rest w1 b10 b11 H
      ·refine step_Lal1 rfl (.int .i64 0) rfl zero3 H rfl ?_;clear H;intro w1 b11 hlt1 hb1 H
       refine hK.out _ _ (fun _=>H.drop) ?_;clear hK K;go_frame
       refine o1C 11 10 (fun K hK=>?_)
       refine step_Lal1 rfl (.int .u32 0) rfl zero28 H rfl ?_;clear H;intro w1 b10 hlt1 hb1 H
       refine hK.out _ _ (fun _=>H.drop.drop) ?_;clear hK K;go_frame
       replace H:=H.swap
       exact rest w1 b10 b11 H
     ·refine step_Lal1 rfl (.int .u32 0) rfl zero28 H rfl ?_;clear H;intro w1 b10 hlt1 hb1 H
      refine hK.out _ _ (fun _=>H.drop) ?_;clear hK K;go_frame
      refine twoC (i:=10) (j:=12) (oi:=⟨some 64,_,_,_,_,_⟩) (oj:=⟨some 11,_,_,_,_,_⟩) rfl rfl (by kernel_rfl) (fun K hK=>?_) (fun K hK=>?_)
      ·refine step_fn rfl _ _ _ (size_any _ _ _ _ _ _) (by go_simp<;>rfl) ?_;rintro r w1 ⟨rfl,hb⟩;refine⟨_,rfl,?_⟩;replace H:=H.below hb
       refine hK.out _ _ (fun _=>H.drop) ?_;clear hK K;go_frame
       refine o1C 12 11 (fun K hK=>?_)
       refine step_Lal1 rfl (.int .i64 0) rfl zero3 H rfl ?_;clear H;intro w1 b11 hlt1 hb1 H
       refine hK.out _ _ (fun _=>H.drop.drop) ?_;clear hK K;go_frame
       exact rest w1 b10 b11 H
      ·refine step_Lal1 rfl (.int .i64 0) rfl zero3 H rfl ?_;clear H;intro w1 b11 hlt1 hb1 H
       refine hK.out _ _ (fun _=>H.drop.drop) ?_;clear hK K;go_frame
       refine o1C 10 64 (fun K hK=>?_)
       refine step_fn rfl _ _ _ (size_any _ _ _ _ _ _) (by go_simp<;>rfl) ?_;rintro r w1 ⟨rfl,hb⟩;refine⟨_,rfl,?_⟩;replace H:=H.below hb
       refine hK.out _ _ (fun _=>H.drop.drop) ?_;clear hK K;go_frame
       exact rest w1 b10 b11 H
     ·refine step_Lal1 rfl (.int .i64 0) rfl zero3 H rfl ?_;clear H;intro w1 b11 hlt1 hb1 H
      refine hK.out _ _ (fun _=>H.drop) ?_;clear hK K;go_frame
      refine twoC (i:=10) (j:=11) (oi:=⟨some 64,_,_,_,_,_⟩) (oj:=⟨some 10,_,_,_,_,_⟩) rfl rfl (by kernel_rfl) (fun K hK=>?_) (fun K hK=>?_)
      ·refine step_fn rfl _ _ _ (size_any _ _ _ _ _ _) (by go_simp<;>rfl) ?_;rintro r w1 ⟨rfl,hb⟩;refine⟨_,rfl,?_⟩;replace H:=H.below hb
       refine hK.out _ _ (fun _=>H.drop) ?_;clear hK K;go_frame
       refine o1C 11 10 (fun K hK=>?_)
       refine step_Lal1 rfl (.int .u32 0) rfl zero28 H rfl ?_;clear H;intro w1 b10 hlt1 hb1 H
       refine hK.out _ _ (fun _=>H.drop.drop) ?_;clear hK K;go_frame
       replace H:=H.swap
       exact rest w1 b10 b11 H
      ·refine step_Lal1 rfl (.int .u32 0) rfl zero28 H rfl ?_;clear H;intro w1 b10 hlt1 hb1 H
       refine hK.out _ _ (fun _=>H.drop.drop) ?_;clear hK K;go_frame
       refine o1C 10 64 (fun K hK=>?_)
       refine step_fn rfl _ _ _ (size_any _ _ _ _ _ _) (by go_simp<;>rfl) ?_;rintro r w1 ⟨rfl,hb⟩;refine⟨_,rfl,?_⟩;replace H:=H.below hb
       refine hK.out _ _ (fun _=>H.drop.drop) ?_;clear hK K;go_frame
       replace H:=H.swap
       exact rest w1 b10 b11 H
    intro w1 b10 b11 H
    refine o1N 13 (fun K hK=>?_)
    refine step_LslI rfl cel28 1 _ _ _ H rfl _ _ rfl 0 rfl _ rfl rfl rfl (Nat.le_of_ble_eq_true rfl) _ (one_int _ _ _) rfl ?_;clear H;intro w1 ho1 H
    refine hK.out _ _ (aB rfl) ?_;clear hK K;go_frame
    refine o1N 14 (fun K hK=>?_)
    refine step_LslI rfl cel3 0 _ _ _ H rfl _ _ rfl 0 rfl _ rfl rfl rfl (Nat.le_of_ble_eq_true rfl) _ (one_int _ _ _) rfl ?_;clear H;intro w1 ho1 H
    refine hK.out _ _ (aB rfl) ?_;clear hK K;go_frame
    refine dnC ?_ _
    go_wp2
    go_step3
    go_wp2_with ((go_at_call 133;refine(callsIn_wide.1 (bwd_in 6 _ _ _ _ _ _ _)).mono ?_;rintro e w' ⟨rfl,rfl⟩))
    have H:Lo w w1 [(b11,#[.int .i64 (sz y.i.op)],3),(b10,#[.int .u32 y.addr.v],28),(b7,#[.string (bs [])],9),(b6,#[.int .i64 0],3)]:=H
    have bA:=(Boxed.new w1 31 (.slice (some ⟨g,off,none⟩) k C)).alloc (.cells #[.slice B sn sc] 32)
    have bS:=Boxed.new (w1.alloc (.cells #[.slice (some ⟨g,off,none⟩) k C] 31)) 32 (.slice B sn sc)
    rw[World.size_alloc]at bS
    have hB0:Below w1.heap.size w1 ((w1.alloc (.cells #[.slice (some ⟨g,off,none⟩) k C] 31)).alloc (.cells #[.slice B sn sc] 32)):=((Below.refl _ w1).alloc (Nat.le_refl _) _).alloc (by simp) _
    have hsz:((w1.alloc (.cells #[.slice (some ⟨g,off,none⟩) k C] 31)).alloc (.cells #[.slice B sn sc] 32)).heap.size=w1.heap.size+2:=by simp
    obtain⟨N0,hN0⟩:∃ N0,w1.heap.size=N0:=⟨_,rfl⟩
    obtain⟨W0,hW0⟩:∃ W0,(w1.alloc (.cells #[.slice (some ⟨g,off,none⟩) k C] 31)).alloc (.cells #[.slice B sn sc] 32)=W0:=⟨_,rfl⟩
    have H1:=H.below hB0
    clear H
    have H:=H1
    clear H1
    rw[hW0]at bA bS hsz H ⊢
    rw[hN0]at bA bS hsz
    try rw[hN0]
    clear hW0 hB0
    have hSz:=sz_bd y.i.op
    have p6:b6<W0.heap.size:=H.lt (b:=b6) (cs:=#[.int .i64 0]) (T:=3) (by simp)
    have p7:b7<W0.heap.size:=H.lt (b:=b7) (cs:=#[.string (bs [])]) (T:=9) (by simp)
    have p10:b10<W0.heap.size:=H.lt (b:=b10) (cs:=#[.int .u32 y.addr.v]) (T:=28) (by simp)
    have p11:b11<W0.heap.size:=H.lt (b:=b11) (cs:=#[.int .i64 (sz y.i.op)]) (T:=3) (by simp)
    have hbs:=H.bl.size
    refine(wpIn_wide (n:=6)).1 ?_
    refine wpIn_rangeFunc_ownH rfl (by decide) (gf:=148) (lb:=#[.pointer (some ⟨N0,0,none⟩),.pointer (some ⟨N0+1,0,none⟩)]) rfl trivial (enters_of Tryz.func148 (by kernel_rfl) rfl)
     (bwd_stops _ (by decide) N0 (N0+1) k C sn sc (some ⟨g,off,none⟩) B (L.take k) S W0 ((HL.out.take (Nat.le_of_lt hi)).below H.bl) (HS.out.below H.bl) HD.out bA.cell bS.cell bA.lt bS.lt) belowK_t (belowK_b (Nat.le_refl _)) (Below.refl _ _) (fun _=>rfl)
     (fun(pre:List Sok') W=>(Lo w W [(b11,#[.int .i64 (sz y.i.op)],3),(b10,#[.int .u32 y.addr.v],28),(b7,#[.string (bs [])],9),(b6,#[.int .i64 0],3)]∧nonL y.addr (sz y.i.op) (pre.map (fun x:Sok'=>x.1)))∧Below W0.heap.size W0 W)
     (fun c (pre:List Sok') W=>c= .ret∧∃(pre0:List Sok') (x:Sok'),pre=pre0++[x]∧nonL y.addr (sz y.i.op) (pre0.map (fun x:Sok'=>x.1))∧lapsB x.1.addr x.1.size y.addr (sz y.i.op)=true∧Lo w W [(b7,#[.string (bs (hitS y.addr (sz y.i.op) x.1).2)],9),(b6,#[.int .i64 (hitS y.addr (sz y.i.op) x.1).1],3)])
     (OwnFrom.and (OwnFrom.and (lo_own hbs) (fun _ _ _ _ hs _ _=>hs)) (ownFrom_below (Nat.le_refl _) (Nat.le_refl _)))
     (fun c=>fun pre X Y row hs hg hr=>⟨hs.1,by obtain⟨pre0,x,e1,e2,e3,e4⟩:=hs.2;exact⟨pre0,x,e1,e2,e3,lo_own hbs (l:=fun(_:Unit)=>[(b7,#[.string (bs (hitS y.addr (sz y.i.op) x.1).2)],9),(b6,#[.int .i64 (hitS y.addr (sz y.i.op) x.1).1],3)]) () X Y row e4 hg hr⟩⟩)
     ⟨⟨H,fun x hx=>by cases hx⟩,Below.refl _ _⟩
     (fun x a' W=>∃ Bx,W0.heap.size≤Bx∧W.heap[Bx]?=some (.cells (sdC x.1) 205 (0,0))∧a'={ tmps:=#[Value.slice (some { block:=g,off:=off }) nL C,Value.slice B sn sc,Value.int IntKind.i64 ↑k,undef,undef,undef,Value.pointer (some { block:=b6,off:=0 }),Value.pointer (some { block:=b7,off:=0 }),undef,u9,Value.pointer (some { block:=b10,off:=0 }),Value.pointer (some { block:=b11,off:=0 }),.pointer (some ⟨Bx,0,none⟩),undef,Value.int IntKind.i64 ↑k,Value.bool false,Value.bool false,Value.int IntKind.i64 ↑k,Value.slice (some { block:=g,off:=off }) nL C,Value.int IntKind.i64 ↑nL,Value.bool false,Value.bool false,Value.bool false,Value.slice (some { block:=g,off:=off }) nL C,Value.int IntKind.i64 ↑k,Value.pointer (some { block:=g,off:=off+k*17 }),Value.pointer (some { block:=g,off:=off+k*17+2 }),Value.agg (inC y.i),Value.int IntKind.i64 (kd y.i.op),Value.bool false,Value.bool false,Value.slice (some { block:=g,off:=off }) nL C,Value.int IntKind.i64 ↑k,Value.slice (some { block:=g,off:=off }) k C,Value.int IntKind.i64 ↑k,Value.int IntKind.i64 ↑k,Value.bool false,u37,u38,u39,u40,u41,u42,u43,u44,u45,u46,u47,u48,u49,u50,u51,u52,u53,Value.slice (some { block:=g,off:=off }) nL C,Value.int IntKind.i64 ↑k,Value.pointer (some { block:=g,off:=off+k*17 }),Value.pointer (some { block:=g,off:=off+k*17+12 }),Value.int IntKind.u32 y.addr.v,Value.slice (some { block:=g,off:=off }) nL C,Value.int IntKind.i64 ↑k,Value.pointer (some { block:=g,off:=off+k*17 }),Value.pointer (some { block:=g,off:=off+k*17+2 }),Value.agg (inC y.i),Value.int IntKind.i64 (sz y.i.op),Value.slice (some { block:=g,off:=off }) nL C,Value.int IntKind.i64 ↑k,Value.slice (some { block:=g,off:=off }) k C,Value.slice B sn sc,Value.func (Fn.func 148) #[] #[Value.pointer (some { block:=N0,off:=0 }),Value.pointer (some { block:=N0+1,off:=0 })],.agg (sdC x.1),undef,undef,undef,undef,undef,undef,undef,undef,undef,undef,undef,undef,undef,undef,undef,undef,undef,undef,undef,undef,undef,undef,undef,undef,undef,undef,undef,undef,undef,undef,undef,undef,undef],defers:=[] })
     (fun x a' _ X Y row hs hg hr=>by obtain⟨Bx,h1,h2,h3⟩:=hs;exact⟨Bx,h1,rowB_own Bx (fun(_:Unit)=>sdC x.1) 205 () X Y row h2 hg (fun r e=>(hr r e).2),h3⟩)
     ?assign ?body ?done ?stop
    case assign=>
     rintro l pre x W K ⟨⟨H1,hn1⟩,hB1⟩ hK
     unfold sdEnc
     go_simp
     gi_wp2_with (first|((with_reducible show wpListIn _ _ _ _ _ (⟨_,Op.alloc 205,_,_,_,_⟩::_) _ _);refine al_in (sdC sdZ) zero205 wideF rfl rfl ?_;go_frame)|((with_reducible show wpListIn _ _ _ _ _ (⟨_,Op.store 205 _ _,_,_,_,_⟩::_) _ _);refine st_in row205 wideF rfl _ _ rfl W.heap.size (sdC x.1) rfl rfl (sdC_size _) (sdC_ones _) (t:=205) (old:=sdC sdZ) (heap_at _ _ _ rfl) (sdC_size _) ?_;go_frame))
     try rw[alloc_row_at W _ (sdC x.1) 205 (sdC sdZ) rfl]
     exact hK _ _ ((KeepsOthers.alloc _ _).from _) ((Below.refl _ W).alloc hB1.size _) ⟨⟨H1.below ((Below.refl _ W).alloc (Nat.le_refl _) _),hn1⟩,hB1.alloc hB1.size _⟩ ⟨W.heap.size,hB1.size,heap_at _ _ _ rfl,rfl⟩
    case body=>
     rintro l pre x a' W hl ⟨r,hr⟩ ⟨⟨HI,hn1⟩,hB1⟩ ⟨Bx,hBx,hX,rfl⟩ hlt
     have H:Lo w W ((Bx,sdC x.1,205)::[(b11,#[.int .i64 (sz y.i.op)],3),(b10,#[.int .u32 y.addr.v],28),(b7,#[.string (bs [])],9),(b6,#[.int .i64 0],3)]):=⟨HI.bl,(fun z hz=>by
      rcases List.mem_cons.1 hz with e|hz
      ·subst e;exact⟨hX,by show w.heap.size≤Bx;omega⟩
      ·exact HI.lc z hz),List.pairwise_cons.2 ⟨(fun z hz e=>by
       have h1:=(Array.getElem?_eq_some_iff.1 (HI.lc z hz).1).1
       simp only[List.mem_cons,List.not_mem_nil,or_false]at hz
       rcases hz with rfl|rfl|rfl|rfl<;>simp only at e<;>omega),HI.nd⟩⟩
     obtain⟨xs,hok1,hok2⟩:=x
     have LP:=Lib.hid (fun W=>laps_any xs.addr xs.size y.addr (sz y.i.op) hok2 (by omega) W)
     have HP:=Lib.hid (fun W=>holds_any xs.addr xs.size y.addr (sz y.i.op) hok2 (by omega) W)
     have HB1:=Lib.hid hB1
     have HN1:=Lib.hid hn1
     have HHi:=Lib.hid HI
     have hkf:∀ W',Lo w W' []→True:=fun _ _=>trivial
     clear hX hn1 HI hkf hr hBx
     have W_keep:∀ W':World,Below W.heap.size W W'→KeepsFrom W0.heap.size W W':=fun W' hbw=>⟨hbw.size,fun k o _ hk _=>(hbw.block k (Array.getElem?_eq_some_iff.1 hk).1).trans hk⟩
     have WK:=Lib.hid W_keep
     clear W_keep
     cases hlp:lapsB xs.addr xs.size y.addr (sz y.i.op)with
     | false=>
      rw[hlp]at LP
      have HLP:=Lib.hid hlp
      clear hlp
      gi_wp2_with (first|(refine⟨trivial,?_⟩;gi_at_call 134;refine(CallsIn.inRound l (callsIn_wide.2 (LP.out _))).mono ?_;rintro r w1 ⟨rfl,rfl⟩)|((with_reducible show wpListIn _ _ Tryz.prog _ _ (⟨_,Op.load 28 (.tmp 71),_,_,_,_⟩::_) _ _);refine in_Lll1 wideF rfl one28 H _ rfl _ 0 rfl _ _ mm0 _ (sdC_0 _) ?_;go_frame)|((with_reducible show wpListIn _ _ Tryz.prog _ _ (⟨_,Op.load 3 (.tmp 73),_,_,_,_⟩::_) _ _);refine in_Lll1 wideF rfl one3 H _ rfl _ 1 rfl _ _ mm0 _ (sdC_1 _) ?_;go_frame)|((with_reducible show wpListIn _ _ Tryz.prog _ _ (⟨_,Op.load 28 (.tmp 10),_,_,_,_⟩::_) _ _);refine in_Lll1 wideF rfl one28 H _ rfl _ 0 rfl _ _ mm2 _ rfl ?_;go_frame)|((with_reducible show wpListIn _ _ Tryz.prog _ _ (⟨_,Op.load 3 (.tmp 11),_,_,_,_⟩::_) _ _);refine in_Lll1 wideF rfl one3 H _ rfl _ 0 rfl _ _ mm1 _ rfl ?_;go_frame))
      exact⟨WK.out _ (Below.refl _ _),Below.refl _ _,⟨HHi.out,fun z hz=>by
       rw[List.map_append]at hz
       rcases List.mem_append.1 hz with hz|hz
       ·exact HN1.out z hz
       ·have:z=xs:=by simpa using hz
        rw[this];exact HLP.out⟩,HB1.out⟩
     | true=>
      rw[hlp]at LP
      have HLP:=Lib.hid hlp
      clear hlp
      cases hhp:holdsB xs.addr xs.size y.addr (sz y.i.op)with
      | false=>
       rw[hhp]at HP
       have HIT:=Lib.hid (show hitS y.addr (sz y.i.op) xs=(0,[]) by unfold hitS;rw[if_pos (.inl hhp)])
       clear hhp
       gi_wp2_with (first|(refine⟨trivial,?_⟩;gi_at_call 134;refine(CallsIn.inRound l (callsIn_wide.2 (LP.out _))).mono ?_;rintro r w1 ⟨rfl,rfl⟩)|(refine⟨trivial,?_⟩;gi_at_call 135;refine(CallsIn.inRound l (callsIn_wide.2 (HP.out _))).mono ?_;rintro r w1 ⟨rfl,rfl⟩)|((with_reducible show wpListIn _ _ Tryz.prog _ _ (⟨_,Op.store 3 (.tmp 6) _,_,_,_,_⟩::_) _ _);refine in_LslI wideF rfl cel3 4 _ _ _ H rfl _ _ rfl 0 rfl _ rfl rfl rfl (Nat.le_of_ble_eq_true rfl) _ (one_int _ _ _) rfl ?_;clear H;intro w1 ho1 H;go_frame)|((with_reducible show wpListIn _ _ Tryz.prog _ _ (⟨_,Op.store 9 (.tmp 7) _,_,_,_,_⟩::_) _ _);refine in_LslI wideF rfl cel9 3 _ _ _ H rfl _ _ rfl 0 rfl _ rfl rfl rfl (Nat.le_of_ble_eq_true rfl) _ (one_str _ _) rfl ?_;clear H;intro w1 ho1 H;go_frame)|((with_reducible show wpListIn _ _ Tryz.prog _ _ (⟨_,Op.load 28 (.tmp 71),_,_,_,_⟩::_) _ _);refine in_Lll1 wideF rfl one28 H _ rfl _ 0 rfl _ _ mm0 _ (sdC_0 _) ?_;go_frame)|((with_reducible show wpListIn _ _ Tryz.prog _ _ (⟨_,Op.load 3 (.tmp 73),_,_,_,_⟩::_) _ _);refine in_Lll1 wideF rfl one3 H _ rfl _ 1 rfl _ _ mm0 _ (sdC_1 _) ?_;go_frame)|((with_reducible show wpListIn _ _ Tryz.prog _ _ (⟨_,Op.load 28 (.tmp 10),_,_,_,_⟩::_) _ _);refine in_Lll1 wideF rfl one28 H _ rfl _ 0 rfl _ _ mm2 _ rfl ?_;go_frame)|((with_reducible show wpListIn _ _ Tryz.prog _ _ (⟨_,Op.load 3 (.tmp 11),_,_,_,_⟩::_) _ _);refine in_Lll1 wideF rfl one3 H _ rfl _ 0 rfl _ _ mm1 _ rfl ?_;go_frame)|((with_reducible show wpListIn _ _ Tryz.prog _ _ (⟨_,Op.load 28 (.tmp 79),_,_,_,_⟩::_) _ _);refine in_Lll1 wideF rfl one28 H _ rfl _ 0 rfl _ _ mm0 _ (sdC_0 _) ?_;go_frame)|((with_reducible show wpListIn _ _ Tryz.prog _ _ (⟨_,Op.load 3 (.tmp 81),_,_,_,_⟩::_) _ _);refine in_Lll1 wideF rfl one3 H _ rfl _ 1 rfl _ _ mm0 _ (sdC_1 _) ?_;go_frame))
       exact⟨(keep_off (by assumption) p6).trans (keep_off (by assumption) p7),rfl,pre,⟨xs,⟨hok1,hok2⟩⟩,rfl,HN1.out,HLP.out,by rw[HIT.out];exact Lo.sublist (.cons _ (.cons _ (.cons _ (.cons_cons _ (.cons_cons _ (List.nil_sublist _)))))) H⟩
      | true=>
       rw[hhp]at HP
       cases hth:xs.there with
       | false=>
        have HIT:=Lib.hid (show hitS y.addr (sz y.i.op) xs=(0,[]) by unfold hitS;rw[if_pos (.inr hth)])
        have HTH:=Lib.hid (show(sdC xs)[3]?=some (.bool false) by rw[sdC_3,hth])
        clear hhp hth
        gi_wp2_with (first|(refine⟨trivial,?_⟩;gi_at_call 134;refine(CallsIn.inRound l (callsIn_wide.2 (LP.out _))).mono ?_;rintro r w1 ⟨rfl,rfl⟩)|(refine⟨trivial,?_⟩;gi_at_call 135;refine(CallsIn.inRound l (callsIn_wide.2 (HP.out _))).mono ?_;rintro r w1 ⟨rfl,rfl⟩)|((with_reducible show wpListIn _ _ Tryz.prog _ _ (⟨_,Op.load 4 (.tmp 88),_,_,_,_⟩::_) _ _);refine valInG wideF (by rfl) (fun c e=>by cases e) (ld1_run one4 _ rfl ⟨Bx,3,none⟩ rfl (.bool false) ((H.lcell mm0 3).trans HTH.out)) ?_;try simp only[Act.put,xA,xB,xC,fR])|((with_reducible show wpListIn _ _ Tryz.prog _ _ (⟨_,Op.store 3 (.tmp 6) _,_,_,_,_⟩::_) _ _);refine in_LslI wideF rfl cel3 4 _ _ _ H rfl _ _ rfl 0 rfl _ rfl rfl rfl (Nat.le_of_ble_eq_true rfl) _ (one_int _ _ _) rfl ?_;clear H;intro w1 ho1 H;go_frame)|((with_reducible show wpListIn _ _ Tryz.prog _ _ (⟨_,Op.store 9 (.tmp 7) _,_,_,_,_⟩::_) _ _);refine in_LslI wideF rfl cel9 3 _ _ _ H rfl _ _ rfl 0 rfl _ rfl rfl rfl (Nat.le_of_ble_eq_true rfl) _ (one_str _ _) rfl ?_;clear H;intro w1 ho1 H;go_frame)|((with_reducible show wpListIn _ _ Tryz.prog _ _ (⟨_,Op.load 28 (.tmp 71),_,_,_,_⟩::_) _ _);refine in_Lll1 wideF rfl one28 H _ rfl _ 0 rfl _ _ mm0 _ (sdC_0 _) ?_;go_frame)|((with_reducible show wpListIn _ _ Tryz.prog _ _ (⟨_,Op.load 3 (.tmp 73),_,_,_,_⟩::_) _ _);refine in_Lll1 wideF rfl one3 H _ rfl _ 1 rfl _ _ mm0 _ (sdC_1 _) ?_;go_frame)|((with_reducible show wpListIn _ _ Tryz.prog _ _ (⟨_,Op.load 28 (.tmp 10),_,_,_,_⟩::_) _ _);refine in_Lll1 wideF rfl one28 H _ rfl _ 0 rfl _ _ mm2 _ rfl ?_;go_frame)|((with_reducible show wpListIn _ _ Tryz.prog _ _ (⟨_,Op.load 3 (.tmp 11),_,_,_,_⟩::_) _ _);refine in_Lll1 wideF rfl one3 H _ rfl _ 0 rfl _ _ mm1 _ rfl ?_;go_frame)|((with_reducible show wpListIn _ _ Tryz.prog _ _ (⟨_,Op.load 28 (.tmp 79),_,_,_,_⟩::_) _ _);refine in_Lll1 wideF rfl one28 H _ rfl _ 0 rfl _ _ mm0 _ (sdC_0 _) ?_;go_frame)|((with_reducible show wpListIn _ _ Tryz.prog _ _ (⟨_,Op.load 3 (.tmp 81),_,_,_,_⟩::_) _ _);refine in_Lll1 wideF rfl one3 H _ rfl _ 1 rfl _ _ mm0 _ (sdC_1 _) ?_;go_frame))
        exact⟨(keep_off (by assumption) p6).trans (keep_off (by assumption) p7),rfl,pre,⟨xs,⟨hok1,hok2⟩⟩,rfl,HN1.out,HLP.out,by rw[HIT.out];exact Lo.sublist (.cons _ (.cons _ (.cons _ (.cons_cons _ (.cons_cons _ (List.nil_sublist _)))))) H⟩
       | true=>
        have hho:0<sz y.i.op∧xs.addr.v≤y.addr.v∧y.addr.v+sz y.i.op≤xs.addr.v+(if xs.size<0 then 0 else xs.size):=of_decide_eq_true hhp
        obtain⟨a1,a2,a3⟩:=hho
        rw[if_neg (by omega)]at a3
        obtain⟨f,hf⟩:∃ f,y.addr.v-xs.addr.v=f:=⟨_,rfl⟩
        have x0:=xs.addr.lo
        have x1:=xs.addr.hi
        have y0:=y.addr.lo
        have y1:=y.addr.hi
        have HIT:=Lib.hid (show hitS y.addr (sz y.i.op) xs=(1,cutB xs.data f.toNat (f+sz y.i.op-f).toNat) by
         unfold hitS
         rw[if_neg (by rw[hhp,hth];simp),hf,show f+sz y.i.op-f=sz y.i.op by omega])
        have HTH:=Lib.hid (show(sdC xs)[3]?=some (.bool true) by rw[sdC_3,hth])
        have e1:IntKind.u32.wrap (y.addr.v-xs.addr.v)=f:=by rw[IntKind.wrap_u32];omega
        have e2:(y.addr.v-xs.addr.v) % 4294967296=f:=by omega
        have e3:IntKind.i64.wrap (f+sz y.i.op)=f+sz y.i.op:=IntWalk.i64_in _ (by omega)
        have e4:IntKind.i64.wrap f=f:=IntWalk.i64_in _ (by omega)
        have f0:0≤f:=by omega
        have f1:f+sz y.i.op≤(xs.data.length:Int):=by omega
        have HF1:=Lib.hid f1
        clear hhp hth hf a1 a2 a3 f1
        gi_wp2_with (first|(refine⟨trivial,?_⟩;gi_at_call 134;refine(CallsIn.inRound l (callsIn_wide.2 (LP.out _))).mono ?_;rintro r w1 ⟨rfl,rfl⟩)|(refine⟨trivial,?_⟩;gi_at_call 135;refine(CallsIn.inRound l (callsIn_wide.2 (HP.out _))).mono ?_;rintro r w1 ⟨rfl,rfl⟩)|((with_reducible show wpListIn _ _ Tryz.prog _ _ (⟨_,Op.load 4 (.tmp 88),_,_,_,_⟩::_) _ _);refine valInG wideF (by rfl) (fun c e=>by cases e) (ld1_run one4 _ rfl ⟨Bx,3,none⟩ rfl (.bool true) ((H.lcell mm0 3).trans HTH.out)) ?_;try simp only[Act.put,xA,xB,xC,fR])|((with_reducible show wpListIn _ _ Tryz.prog _ _ (⟨_,Op.load 28 (.tmp 71),_,_,_,_⟩::_) _ _);refine in_Lll1 wideF rfl one28 H _ rfl _ 0 rfl _ _ mm0 _ (sdC_0 _) ?_;go_frame)|((with_reducible show wpListIn _ _ Tryz.prog _ _ (⟨_,Op.load 3 (.tmp 73),_,_,_,_⟩::_) _ _);refine in_Lll1 wideF rfl one3 H _ rfl _ 1 rfl _ _ mm0 _ (sdC_1 _) ?_;go_frame)|((with_reducible show wpListIn _ _ Tryz.prog _ _ (⟨_,Op.load 28 (.tmp 10),_,_,_,_⟩::_) _ _);refine in_Lll1 wideF rfl one28 H _ rfl _ 0 rfl _ _ mm2 _ rfl ?_;go_frame)|((with_reducible show wpListIn _ _ Tryz.prog _ _ (⟨_,Op.load 3 (.tmp 11),_,_,_,_⟩::_) _ _);refine in_Lll1 wideF rfl one3 H _ rfl _ 0 rfl _ _ mm1 _ rfl ?_;go_frame)|((with_reducible show wpListIn _ _ Tryz.prog _ _ (⟨_,Op.load 28 (.tmp 79),_,_,_,_⟩::_) _ _);refine in_Lll1 wideF rfl one28 H _ rfl _ 0 rfl _ _ mm0 _ (sdC_0 _) ?_;go_frame)|((with_reducible show wpListIn _ _ Tryz.prog _ _ (⟨_,Op.load 3 (.tmp 81),_,_,_,_⟩::_) _ _);refine in_Lll1 wideF rfl one3 H _ rfl _ 1 rfl _ _ mm0 _ (sdC_1 _) ?_;go_frame)|((with_reducible show wpListIn _ _ Tryz.prog _ _ (⟨_,Op.load 28 (.tmp 93),_,_,_,_⟩::_) _ _);refine in_Lll1 wideF rfl one28 H _ rfl _ 0 rfl _ _ mm0 _ (sdC_0 _) ?_;go_frame))
        have HF:=H
        clear H
        have H:=Lo.sublist (l':=[(Bx,sdC xs,205),(b11,#[.int .i64 (sz y.i.op)],3)]) (.cons_cons _ (.cons_cons _ (List.nil_sublist _))) HF
        try refine only_normalIn ?_
        refine beginInR 8 (l0:=zz9) H (by kernel_rfl) (fun⟨_,_,h⟩=>h) ?_ (by kernel_rfl);clear H;intro H
        refine tP 0 97 H ?_;go_frame
        refine tC 1 98 rfl (by kernel_rfl) iQ (by(exact yields_one one9 rfl _ rfl _ rfl _ (fun w h=>(h.lcell mm0 2).trans (sdC_2 _)))) H ?_;go_frame
        iterate 2 refine rP H ?_;go_frame
        refine tC 4 101 rfl (by kernel_rfl) iQ (by exact yields_one one3 rfl _ rfl _ rfl _ (fun w' h=>h.lcell mm1 0)) H ?_;go_frame
        refine tP 5 102 H ?_;go_frame
        refine takeP (i:=6) (oi:=⟨some 103,_,_,_,_,_⟩) (v:=.string (bs (cutB xs.data f.toNat (f+sz y.i.op-f).toNat))) rfl (by kernel_rfl) (fun _ _ _ h=>h) (Or.inl ⟨by rfl,fun w' _=>slice_run _ _ _ rfl xs.data f (f+sz y.i.op) .i64 .i64 rfl rfl rfl f0 (by omega) HF1.out w'⟩) (fun _=>H) ?_;go_frame
        refine o1N 7 (fun K hK=>?_)
        refine step_LslI rfl cel3 4 _ _ _ HF.drew rfl _ _ rfl 0 rfl _ rfl rfl rfl (Nat.le_of_ble_eq_true rfl) _ (one_int _ _ _) rfl ?_;intro w1 ho1 H1;clear H HF;have HF:=H1;clear H1;have H:=Lo.sublist (l':=[(Bx,sdC xs,205),(b11,#[.int .i64 (sz y.i.op)],3)]) (.cons_cons _ (.cons_cons _ (List.nil_sublist _))) HF
        refine hK.out _ _ (fun _=>H) ?_;clear hK K;go_frame
        refine o1N 8 (fun K hK=>?_)
        refine step_LslI rfl cel9 3 _ _ _ HF rfl _ _ rfl 0 rfl _ rfl rfl rfl (Nat.le_of_ble_eq_true rfl) _ (one_str _ _) rfl ?_;clear H;intro w1 ho2 H
        refine hK.out _ _ (aB rfl) ?_;clear hK K;go_frame
        refine dnC ?_ _
        gi_wp2
        exact⟨(((KeepsOthers.drew W).from _).trans (keep_off (by assumption) p6)).trans (keep_off (by assumption) p7),rfl,pre,⟨xs,⟨hok1,hok2⟩⟩,rfl,HN1.out,HLP.out,by rw[HIT.out];exact Lo.sublist (.cons _ (.cons _ (.cons _ (.cons_cons _ (.cons_cons _ (List.nil_sublist _)))))) H⟩
    case done=>
     rintro D zs W hD hzs ⟨⟨H,hn1⟩,hB1⟩ hK
     have HS2:=Lib.hid (show decideR L S k=(2,[]) by rw[HE2.out];exact seek_none (by rw[← hzs];exact hn1))
     clear hn1 hB1 hzs
     have n6:D≠b6:=by omega
     have n7:D≠b7:=by omega
     go_wp2_with (first|((with_reducible refine gS 3 6 ?_);refine st_LslI rfl cel3 3 _ _ _ H rfl _ _ rfl 0 rfl _ rfl rfl rfl (Nat.le_of_ble_eq_true rfl) _ (one_int _ _ _) rfl ?_;intro w1 ho1 H1;have hK1:=(ho1.heap D n6).trans hK;clear hK ho1 H;have hK:=hK1;clear hK1;have H:=H1;clear H1;try simp only[Act.put,xA,xB,xC,fR])|((with_reducible refine gS 9 7 ?_);refine st_LslI rfl cel9 2 _ _ _ H rfl _ _ rfl 0 rfl _ rfl rfl rfl (Nat.le_of_ble_eq_true rfl) _ (one_str _ _) rfl ?_;intro w1 ho1 H1;have hK1:=(ho1.heap D n7).trans hK;clear hK ho1 H;have hK:=hK1;clear hK1;have H:=H1;clear H1;try simp only[Act.put,xA,xB,xC,fR]))
     try rw[Exit.noGoto_ret]
     have H:Lo w _ [(b7,#[.string (bs [])],9),(b6,#[.int .i64 2],3)]:=Lo.sublist (.cons _ (.cons _ (.cons_cons _ (.cons_cons _ (List.nil_sublist _))))) H
     have c6:=H.lcell (b:=b6) (cs:=#[.int .i64 2]) (T:=3) (by simp) 0
     have c7:=H.lcell (b:=b7) (cs:=#[.string (bs [])]) (T:=9) (by simp) 0
     refine⟨by simp,.inl ⟨_,_,rfl,run_takeDeferred hK,?_⟩⟩
     have hc6:=cell_kept c6 (grownBy_putObj' _ D (.deferred none)) (fun r e=>by cases e;exact⟨_,hK,rfl⟩)
     have hc7:=cell_kept c7 (grownBy_putObj' _ D (.deferred none)) (fun r e=>by cases e;exact⟨_,hK,rfl⟩)
     refine⟨.tuple #[.int .i64 2,.string (bs [])],?_,by rw[HS2.out],H.bl.trans (belowK_b (w:=w) (Nat.le_refl _) _ D _ _ (by omega) hK rfl rfl)⟩
     simp[results,Tryz.f119,go_sem,hc6,hc7]
    case stop=>
     rintro D c pre W hD hpre ⟨rfl,pre0,x,hp,hn1,hx,H⟩ hK
     have HS2:=Lib.hid (show decideR L S k=hitS y.addr (sz y.i.op) x.1 by
      rw[HE2.out]
      refine seek_hit (pre:=pre0.map (fun x:Sok'=>x.1)) ?_ hn1 hx
      rw[hp]at hpre
      simpa using hpre)
     clear hn1 hpre hx
     gi_wp2
     try rw[Exit.noGoto_ret]
     have c6:=H.lcell (b:=b6) (cs:=#[.int .i64 (hitS y.addr (sz y.i.op) x.1).1]) (T:=3) (by simp) 0
     have c7:=H.lcell (b:=b7) (cs:=#[.string (bs (hitS y.addr (sz y.i.op) x.1).2)]) (T:=9) (by simp) 0
     refine⟨by simp,.inl ⟨_,_,rfl,run_takeDeferred hK,?_⟩⟩
     have hc6:=cell_kept c6 (grownBy_putObj' _ D (.deferred none)) (fun r e=>by cases e;exact⟨_,hK,rfl⟩)
     have hc7:=cell_kept c7 (grownBy_putObj' _ D (.deferred none)) (fun r e=>by cases e;exact⟨_,hK,rfl⟩)
     refine⟨.tuple #[.int .i64 (hitS y.addr (sz y.i.op) x.1).1,.string (bs (hitS y.addr (sz y.i.op) x.1).2)],?_,by rw[HS2.out],H.bl.trans (belowK_b (w:=w) (Nat.le_refl _) W D _ _ (by omega) hK rfl rfl)⟩
     simp[results,Tryz.f119,go_sem,hc6,hc7]
 ·have d1:(kd y.i.op != 3)=true:=by rw[bne_iff_ne];exact hk3
  have HE:=Lib.hid (show decideR L S i=(0,[]) by
   unfold decideR
   simp only[hyd]
   rw[if_pos hk3])
  clear hk3 hyd
  go_wp2_with (first|((with_reducible refine gAl 3 ?_);refine st_Lal1 rfl (.int .i64 0) rfl zero3 H rfl ?_;clear H;intro w1 b6 hlt1 hb1 H;try simp only[Act.put,xA,xB,xC,fR])|((with_reducible refine gAl 9 ?_);refine st_Lal1 rfl (.string (bs [])) rfl zero9 H rfl ?_;clear H;intro w1 b7 hlt1 hb1 H;try simp only[Act.put,xA,xB,xC,fR]))
  go_step3
  go_wp2_with (first|((with_reducible refine gL 83 26 ?_);refine sTj rfl ?_;refine wp_lrow row83 _ rfl g (off+i*17+2) rfl (inC y.i) rfl (fun j v hv=>(H.bl.cell (p:=⟨g,_,none⟩) HG.out).trans (by have h0:=HC.out (2+j) v (sub_inst y j v hv);rw[← Nat.add_assoc]at h0;exact h0)) ?_;try simp only[Act.put,xA,xB,xC,fR])|(go_at_call 52;refine(kind_any _ _ _ _ _ _).mono ?_;rintro r w1 ⟨rfl,hb⟩;replace H:=H.below hb)|((with_reducible refine gS 3 6 ?_);refine st_LslI rfl cel3 1 _ _ _ H rfl _ _ rfl 0 rfl _ rfl rfl rfl (Nat.le_of_ble_eq_true rfl) _ (one_int _ _ _) rfl ?_;clear H;intro w1 ho1 H;go_frame)|((with_reducible refine gS 9 7 ?_);refine st_LslI rfl cel9 0 _ _ _ H rfl _ _ rfl 0 rfl _ rfl rfl rfl (Nat.le_of_ble_eq_true rfl) _ (one_str _ _) rfl ?_;clear H;intro w1 ho1 H;go_frame))
  rw[Exit.noGoto_ret]
  have c6:=H.lcell (b:=b6) (cs:=#[.int .i64 0]) (T:=3) (by simp) 0
  have c7:=H.lcell (b:=b7) (cs:=#[.string (bs [])]) (T:=9) (by simp[bs]) 0
  refine⟨.tuple #[.int .i64 0,.string (bs [])],?_,?_,H.bl⟩
  ·have q6:(#[Value.int .i64 0]:Array Value)[0]?=some (.int .i64 0):=rfl
   have q7:(#[Value.string (bs [])]:Array Value)[0]?=some (.string (bs [])):=rfl
   rw[q6]at c6
   rw[q7]at c7
   simp[results,Tryz.f119,go_sem,c6,c7]
  ·rw[HE.out]
theorem decide_any(A:Option Addr)(nL C:Nat)(L:List En)(B:Option Addr)(sn sc:Nat)(S:List Pt)(i:Nat)(w:World)(hL:Sl enC 17 w A nL L)(hW:Wf A nL C)(hS:Sl ptC 2 w B sn S)(hd:∀ p∈S,p.data.length≤1000000)(hi:i<nL):Calls Tryz.prog 119 #[.slice A nL C,.slice B sn sc,.int .i64 (i:Int)] w (DecidP (decideR L S i) w):=callsIn_wide.1 (decide_in A nL C L B sn sc S i w hL hW hS hd hi)
end
end Go.Proofs.YtdmhfogegfmnfaaGreatDoor
