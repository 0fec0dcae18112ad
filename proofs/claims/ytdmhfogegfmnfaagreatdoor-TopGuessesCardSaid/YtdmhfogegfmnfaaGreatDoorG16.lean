/- Contracts: a request pushed. Conditions: the requests read as a list. Contracts: a line brought into a cache. Conditions: the cache, the requests read as such, memory and the bus are not long. Contracts: a line is brought into the cache of data. Conditions: the machine is one, its memory and bus not long. Contracts: requests. Conditions: the requests read as a list. .. -/
import Derived.Test.YtdmhfogegfmnfaaGreatDoorG00
import Derived.Test.YtdmhfogegfmnfaaGreatDoorG01
import Derived.Test.YtdmhfogegfmnfaaGreatDoorG03
import Derived.Test.YtdmhfogegfmnfaaGreatDoorG04
import Derived.Test.YtdmhfogegfmnfaaGreatDoorG07
import Derived.Test.YtdmhfogegfmnfaaGreatDoorG09
import Derived.Test.YtdmhfogegfmnfaaGreatDoorG10
import Derived.Test.YtdmhfogegfmnfaaGreatDoorG12
import Derived.Test.YtdmhfogegfmnfaaGreatDoorG14
import Derived.Test.YtdmhfogegfmnfaaGreatDoorG15
set_option maxRecDepth 100000
set_option maxHeartbeats 4000000
set_option linter.unusedVariables false
set_option linter.unusedSimpArgs false
namespace Go.Proofs.YtdmhfogegfmnfaaGreatDoor
open Go.RowKit
theorem push_any(A:Option Addr)(n C:Nat)(L:List Rq)(kind:Int)(line:U)(left:Int)(data:By)(w:World)(hL:Sl rqC 4 w A n L)(hW:Wf A n C)(hn:n≤900000):Calls Tryz.prog 101 #[.slice A n C,.int .i64 kind,.int .u32 line.v,.int .i64 left,.string (bs data)] w (OwP rqC 4 98 (pushQ L kind line left data) w):=by
 have hl:=hL.len
 have HL:=Lib.hid hL
 have HA:=Lib.hid hW.nil
 have hw0:w.heap.size≤w.heap.size:=Nat.le_refl _
 clear hL hW
 by_cases c:left<1
 all_goals
  have CC:=Lib.hid c
  go_enter Tryz.func101,Tryz.ntmps101
  go_wp2_with (first|((with_reducible refine gD (Op.makeSlice 36 _ _) ?_);refine make_sl (α:=Rq) (lay:=rqC) slT36 rfl _ _ rfl w.heap.size .i64 .i64 (n+1) _ rfl rfl (by omega) (by omega) (Nat.le_refl _) ?_;intro v1 w1 h1 g1;have HB1:=Lib.hid (bl_own (Below.refl w.heap.size w) g1 (Nat.le_refl _) (fun k h=>by cases h));have hs1:=HB1.out.size;have HO1:=Lib.hid h1;clear h1 g1;try simp only[Act.put,xA,xB,xC,fR])|(at_builtin;refine app_sl slT36 rqC_size rqC_ones rfl _ _ rfl w.heap.size v1 [] rfl HO1.out A n C L rfl (HL.out.below HB1.out) HA.out (by simp;omega) hs1 ?_;intro v2 w2 h2 g2;have HB2:=Lib.hid (bl_own HB1.out g2 hs1 HO1.out.row);have hs2:=HB2.out.size;have HO2:=Lib.hid h2;clear h2 g2;try simp only[Act.put,xA,xB,xC,fR])|(at_builtin;(refine app_sl slT36 rqC_size rqC_ones rfl _ _ rfl w.heap.size v2 ([]++L) rfl (HO2.out.below (by(repeat(first|exact Below.refl _ _|(refine Below.alloc ?_ ?_ _;rotate_left;(omega)))))) (some ⟨w2.heap.size,0,none⟩) 1 1 [(⟨kind,line,if left<1 then 1 else left,data⟩:Rq)] rfl (Sl.new (t:=98) (fr:=(0,0)) rqC_size (by first|(rw[if_pos CC.out];exact heap_alloc_new _ _)|(rw[if_neg CC.out];exact heap_alloc_new _ _)) (by simp)) (fun h=>by cases h) (by simp;omega) (by simp only[World.size_alloc];omega) ?_);intro v3 w3 h3 g3;have HB3:=Lib.hid (bl_own (HB2.out.alloc hs2 _) g3 (by simp only[World.size_alloc];omega) HO2.out.row);have HO3:=Lib.hid h3;clear h3 g3;try simp only[Act.put,xA,xB,xC,fR]))
  go_ret
  exact⟨v3,rfl,by have:=HO3.out;simpa [pushQ] using this,HB3.out⟩
def BriP(X:Nat→Prop)(r:Ca×List Rq×Bool)(w:World)(e:Ending)(w':World):Prop:=∃ s' t:Sv,e= .returned (.tuple #[caV r.1.ways s',.slice t.a t.n t.c,.bool r.2.2])∧CaX X w' s' r.1∧Rd X rqC 4 w' t r.2.1∧Below w.heap.size w w'
theorem cutM_len(m:By)(l:U):(cutM m l).length≤16:=by
 unfold cutM cutB
 split
 ·simp
 ·simp;omega
theorem bring_at(X:Nat→Prop)(sa:Option Addr)(sn sc:Nat)(c:Ca)(A:Option Addr)(n C:Nat)(q:List Rq)(m:By)(line:U)(left:Int)(hm:m.length≤1000000)(hq:n≤900000)(w:World)(hX:∀ j,w.heap.size≤j→X j)(hc:CaX X w ⟨sa,sn,sc⟩ c)(hQ:Rd X rqC 4 w ⟨A,n,C⟩ q):Calls Tryz.prog 85 #[caV c.ways ⟨sa,sn,sc⟩,.slice A n C,.string (bs m),.int .u32 line.v,.int .i64 left] w (BriP X (bringQ c q m line left) w):=by
 have HC:=Lib.hid hc
 have HX:=Lib.hid hX
 have HQ:=Lib.hid hQ
 have H:=Lo.start w
 clear hc hX hQ
 have ZE:∀ j:Nat,True:=fun _=>trivial
 cases hr:rightC c with
 | false=>
  have E:=Lib.hid (show bringQ c q m line left=(c,q,false) by unfold bringQ;rw[hr];rfl)
  have HR:=Lib.hid hr
  clear hr
  go_enter Tryz.func85,Tryz.ntmps85
  go_wp2_with (first|((with_reducible refine gBx 35 0 ?_);refine st_Lbox rfl _ H _ rfl rfl ?_;clear H;intro w1 b1 H;go_frame)|((with_reducible refine gAl 35 ?_);refine st_Lal rfl (ccC ccZ) zero35 H rfl ?_;clear H;intro w1 b1 hlt1 hb1 H;go_frame)|((with_reducible refine gL 35 5 ?_);refine st_Lllr rfl row35 H _ rfl _ 0 rfl _ _ mm1 _ rfl (Sub.all _) ?_;go_frame)|((with_reducible refine gS 35 10 ?_);refine st_Lslw rfl cel35 _ _ _ H _ _ rfl rfl _ rfl rfl rfl rfl ?_;clear H;intro w1 ho1 H;go_frame)|(go_at_call 9;refine(cright_any ⟨sa,sn,sc⟩ c _ (HC.out.toR.below H.bl)).mono ?_;rw[HR.out];rintro r w1 ⟨rfl,hb⟩;replace H:=H.below hb))
  apply ret_ctt row35 rfl _ #[.int .i64 c.ways,.slice sa sn sc] rfl rfl (t:=35) (fr:=(0,0)) (hd:=rfl) (hg:=H.row mm0)
  rw[E.out]
  exact⟨⟨sa,sn,sc⟩,⟨A,n,C⟩,rfl,HC.out.below H.bl,HQ.out.below H.bl,H.bl⟩
 | true=>
  have HR:=Lib.hid hr
  cases hf:(findC c (lineU line)).2.2 with
  | true=>
   have E:=Lib.hid (show bringQ c q m line left=(touchC c (lineU line),q,false) by unfold bringQ;rw[hr,hf];rfl)
   have HF:=Lib.hid hf
   have TW:=Lib.hid (show(touchC c (lineU line)).ways=c.ways by unfold touchC withC;simp only;split<;>rfl)
   clear hr hf
   go_enter Tryz.func85,Tryz.ntmps85
   go_wp2_with (first|((with_reducible refine gBx 35 0 ?_);refine st_Lbox rfl _ H _ rfl rfl ?_;clear H;intro w1 b1 H;go_frame)|((with_reducible refine gAl 35 ?_);refine st_Lal rfl (ccC ccZ) zero35 H rfl ?_;clear H;intro w1 b1 hlt1 hb1 H;go_frame)|((with_reducible refine gL 35 5 ?_);refine st_Lllr rfl row35 H _ rfl _ 0 rfl _ _ mm1 _ rfl (Sub.all _) ?_;go_frame)|((with_reducible refine gS 35 10 ?_);refine st_Lslw rfl cel35 _ _ _ H _ _ rfl rfl _ rfl rfl rfl rfl ?_;clear H;intro w1 ho1 H;go_frame)|(go_at_call 9;refine(cright_any ⟨sa,sn,sc⟩ c _ (HC.out.toR.below H.bl)).mono ?_;rw[HR.out];rintro r w1 ⟨rfl,hb⟩;replace H:=H.below hb)|(go_at_call 28;refine(line_any' line _).mono ?_;rintro r w1 ⟨rfl,rfl⟩)|(go_at_call 67;refine(find_any ⟨sa,sn,sc⟩ c (lineU line) _ (HC.out.toR.below H.bl)).mono ?_;unfold FinP;rw[HF.out];rintro r w1 ⟨rfl,hb⟩;replace H:=H.below hb)|(go_at_call 71;refine(touch_any _ ⟨sa,sn,sc⟩ c (lineU line) _ (H.xl_new HX.out) (H.ca HC.out)).mono ?_;rintro r w1 ⟨s1,rfl,F1,hb⟩;replace H:=H.below hb))
   apply ret_ctt row35 rfl _ #[.int .i64 (touchC c (lineU line)).ways,.slice s1.a s1.n s1.c] rfl rfl (t:=35) (fr:=(0,0)) (hd:=rfl) (hg:=H.row mm0)
   rw[E.out]
   have F0:=caOff' F1 ho1 ⟨_,List.mem_cons_self ..,rfl⟩
   exact⟨s1,⟨A,n,C⟩,rfl,Xl.toX F0,HQ.out.below H.bl,H.bl⟩
  | false=>
   obtain⟨pc,pw,pb,hp⟩:∃ pc pw pb,putC c (lineU line) (cutM (belowM q m) (lineU line)) false=(pc,pw,pb):=⟨_,_,_,rfl⟩
   have HF:=Lib.hid hf
   have HP:=Lib.hid hp
   have EE:=Lib.hid (show bringQ c q m line left=if pb&&pw.dirty&&!decide (pw.data=[])then(pc,pushQ q 4 pw.line left pw.data,true)else(pc,q,false) by unfold bringQ;rw[hr,hf];simp only[Bool.false_eq_true,if_false,if_true,hp])
   clear hr hf hp
   go_enter Tryz.func85,Tryz.ntmps85
   go_wp2_with (first|((with_reducible refine gBx 35 0 ?_);refine st_Lbox rfl _ H _ rfl rfl ?_;clear H;intro w1 b1 H;go_frame)|((with_reducible refine gAl 35 ?_);refine st_Lal rfl (ccC ccZ) zero35 H rfl ?_;clear H;intro w1 b1 hlt1 hb1 H;go_frame)|((with_reducible refine gL 35 5 ?_);refine st_Lllr rfl row35 H _ rfl _ 0 rfl _ _ mm1 _ rfl (Sub.all _) ?_;go_frame)|(go_at_call 9;refine(cright_any ⟨sa,sn,sc⟩ c _ (HC.out.toR.below H.bl)).mono ?_;rw[HR.out];rintro r w1 ⟨rfl,hb⟩;replace H:=H.below hb)|(go_at_call 28;refine(line_any' line _).mono ?_;rintro r w1 ⟨rfl,rfl⟩)|(go_at_call 67;refine(find_any ⟨sa,sn,sc⟩ c (lineU line) _ (HC.out.toR.below H.bl)).mono ?_;unfold FinP;rw[HF.out];rintro r w1 ⟨rfl,hb⟩;replace H:=H.below hb))
   go_wp2_with fail
   refine beginL 7 (l0:=zz16) H (by kernel_rfl) ?_ (by kernel_rfl);intro H1;clear H;revert H1
   apply meet3
   ·intro rest3
    apply meet2
    ·intro rest2
     apply meet2
     ·intro rest1
      apply meet2
      ·intro rest0
       intro H
       refine tC 0 38 rfl (by kernel_rfl) iQ (by(exact yields_row row35 rfl _ rfl _ _ rfl _ rfl (fun w h j v hj=>(h.lcell mm1 _).trans (Sub.all _ j v hj)))) H ?_;go_frame
       iterate 4 refine rP H ?_;go_frame
       refine twoC (i:=4) (j:=12) (oi:=⟨some 42,_,_,_,_,_⟩) (oj:=⟨some 16,_,_,_,_,_⟩) rfl rfl (by kernel_rfl) (fun K hK=>?_) (fun K hK=>?_)
       ·refine step_fn rfl _ _ _ (below_any A n C q m hm _ (HQ.out.sl.below H.bl)) (by go_simp<;>rfl) ?_;rintro r w1 ⟨rfl,hb⟩;refine⟨_,rfl,?_⟩;replace H:=H.below hb
        refine hK.out _ _ (fun _=>H) ?_;clear hK K;go_frame
        refine twoC (i:=6) (j:=12) (oi:=⟨some 44,_,_,_,_,_⟩) (oj:=⟨some 16,_,_,_,_,_⟩) rfl rfl (by kernel_rfl) (fun K hK=>?_) (fun K hK=>?_)
        ·refine step_fn rfl _ _ _ (cut_any (belowM q m) (lineU line) (by unfold belowM;rw[overM_len];exact hm) _) (by go_simp<;>rfl) ?_;rintro r w1 ⟨rfl,rfl⟩;refine⟨_,rfl,?_⟩
         refine hK.out _ _ (fun _=>H) ?_;clear hK K;go_frame
         refine twoC (i:=7) (j:=12) (oi:=⟨some 45,_,_,_,_,_⟩) (oj:=⟨some 16,_,_,_,_,_⟩) rfl rfl (by kernel_rfl) (fun K hK=>?_) (fun K hK=>?_)
         ·refine step_fn rfl _ _ _ (put_any _ ⟨sa,sn,sc⟩ c (lineU line) (cutM (belowM q m) (lineU line)) false (Nat.le_trans (cutM_len _ _) (by decide)) _ (H.xl_new HX.out) (H.ca HC.out)) (by go_simp<;>rfl) ?_;unfold PutP;rw[HP.out];rintro r w1 ⟨s1,rfl,F1,hb⟩;refine⟨_,rfl,?_⟩;replace H:=H.below hb
          refine hK.out _ _ (aB rfl) ?_;clear hK K;go_frame
          iterate 4 refine rQ rfl ?_;go_frame
          refine o1C 12 16 (fun K hK=>?_)
          refine step_Lal rfl (wyC wyZ) zero46 H rfl ?_;clear H;intro w1 b1 hlt1 hb1 H;have F0:=caAl (wyC wyZ) 46 F1 hlt1 hb1;clear F1;have F1:=F0;clear F0
          refine hK.out _ _ (aB rfl) ?_;clear hK K;go_frame
          exact rest3 w1 b1 s1 (And.intro H F1)
         ·refine step_Lal rfl (wyC wyZ) zero46 H rfl ?_;clear H;intro w1 b1 hlt1 hb1 H
          refine hK.out _ _ (fun _=>H.drop) ?_;clear hK K;go_frame
          exact rest2 w1 b1 H
        ·refine step_Lal rfl (wyC wyZ) zero46 H rfl ?_;clear H;intro w1 b1 hlt1 hb1 H
         refine hK.out _ _ (fun _=>H.drop) ?_;clear hK K;go_frame
         exact rest1 w1 b1 H
       ·refine step_Lal rfl (wyC wyZ) zero46 H rfl ?_;clear H;intro w1 b1 hlt1 hb1 H
        refine hK.out _ _ (fun _=>H.drop) ?_;clear hK K;go_frame
        exact rest0 w1 b1 H
      ·intro w1 b1 H
       refine o1C 4 42 (fun K hK=>?_)
       refine step_fn rfl _ _ _ (below_any A n C q m hm _ (HQ.out.sl.below H.bl)) (by go_simp<;>rfl) ?_;rintro r w1 ⟨rfl,hb⟩;refine⟨_,rfl,?_⟩;replace H:=H.below hb
       refine hK.out _ _ (fun _=>H.drop) ?_;clear hK K;go_frame
       exact rest1 w1 b1 H
     ·intro w1 b1 H
      refine o1C 6 44 (fun K hK=>?_)
      refine step_fn rfl _ _ _ (cut_any (belowM q m) (lineU line) (by unfold belowM;rw[overM_len];exact hm) _) (by go_simp<;>rfl) ?_;rintro r w1 ⟨rfl,rfl⟩;refine⟨_,rfl,?_⟩
      refine hK.out _ _ (fun _=>H.drop) ?_;clear hK K;go_frame
      exact rest2 w1 b1 H
    ·intro w1 b1 H
     refine o1C 7 45 (fun K hK=>?_)
     refine step_fn rfl _ _ _ (put_any _ ⟨sa,sn,sc⟩ c (lineU line) (cutM (belowM q m) (lineU line)) false (Nat.le_trans (cutM_len _ _) (by decide)) _ (H.xl_new HX.out) (H.ca HC.out)) (by go_simp<;>rfl) ?_;unfold PutP;rw[HP.out];rintro r w1 ⟨s1,rfl,F1,hb⟩;refine⟨_,rfl,?_⟩;replace H:=H.below hb
     refine hK.out _ _ (aB rfl) ?_;clear hK K;go_frame
     iterate 4 refine rQ rfl ?_;go_frame
     exact rest3 w1 b1 s1 (And.intro H F1)
   rintro w1 b1 s1 ⟨H,F1⟩
   refine o1N 13 (fun K hK=>?_)
   replace H:=H.rot3;refine step_Lslw rfl cel35 _ _ _ H _ _ rfl rfl _ rfl rfl rfl rfl ?_;intro w1 ho1 H1;have F0:=caOff' F1 ho1 ⟨_,List.mem_cons_of_mem _ mm1,rfl⟩;clear F1;have F1:=F0;clear F0;clear H;have H:=H1;clear H1
   refine hK.out _ _ (aB rfl) ?_;clear hK K;go_frame
   refine o1N 14 (fun K hK=>?_)
   refine step_Lslw2 rfl cel46 _ _ _ _ H _ _ rfl rfl _ rfl rfl rfl rfl ?_;intro w1 ho1 H1;have F0:=caOff' F1 ho1 ⟨_,List.mem_cons_self ..,rfl⟩;clear F1;have F1:=F0;clear F0;clear H;have H:=H1;clear H1
   refine hK.out _ _ (aB rfl) ?_;clear hK K;go_frame
   refine tQ 15 17 rfl ?_;go_frame
   refine dnC ?_ _
   rcases pw with⟨ln,dy,dt⟩
   by_cases hcase:pb=true∧dy=true∧dt≠[]
   ·obtain⟨rfl,rfl,hne⟩:=hcase
    have he:(bs dt).toList.isEmpty=false:=by rw[bs_isEmpty];cases dt with|nil=>exact absurd rfl hne|cons _ _=>rfl
    have E:=Lib.hid (show bringQ c q m line left=(pc,pushQ q 4 ln left dt,true) by rw[EE.out];simp[hne])
    clear EE hne
    go_wp2_with (first|((with_reducible refine gL 4 51 ?_);refine sTj rfl ?_;refine wp_Lll1 one4 H _ rfl _ 1 rfl _ _ mm1 _ (wyC_1 _) ?_;go_frame)|((with_reducible refine gL 9 55 ?_);refine sTj rfl ?_;refine wp_Lll1 one9 H _ rfl _ 2 rfl _ _ mm1 _ (wyC_2 _) ?_;go_frame))
    go_wp2_with fail
    refine beginL 8 (l0:=zz11) H (by kernel_rfl) ?_ (by kernel_rfl);clear H;intro H
    refine tC 0 59 rfl (by kernel_rfl) iQ (by(exact yields_row row35 rfl _ rfl _ _ rfl _ rfl (fun w h j v hj=>(h.lcell mm0 _).trans (Sub.all _ j v hj)))) H ?_;go_frame
    iterate 2 refine rP H ?_;go_frame
    refine tC 3 62 rfl (by kernel_rfl) iQ (by(exact yields_one one28 rfl _ rfl _ rfl _ (fun w h=>(h.lcell mm1 0).trans (wyC_0 _)))) H ?_;go_frame
    iterate 2 refine rP H ?_;go_frame
    refine tC 6 65 rfl (by kernel_rfl) iQ (by(exact yields_one one9 rfl _ rfl _ rfl _ (fun w h=>(h.lcell mm1 2).trans (wyC_2 _)))) H ?_;go_frame
    refine o1C 7 66 (fun K hK=>?_)
    refine step_fn rfl _ _ _ (push_any A n C q 4 ln left dt _ (HQ.out.sl.below H.bl) HQ.out.wf hq) (by go_simp<;>rfl) ?_;rintro r w1 ⟨v,rfl,how,hb⟩;refine⟨_,rfl,?_⟩;obtain⟨A1,C1,rfl,f1,f2,f3⟩:=how.sl2 rqC_size;have hz:=H.xl_new HX.out;have FR:Rd (Xl X _) rqC 4 w1 ⟨A1,_,C1⟩ _:=⟨f1,f2,fun _ p hp=>hz _ (f3 p hp)⟩;have F0:=(F1.below (Below.refl _ _).drew).below hb;clear F1;have F1:=F0;clear F0;replace H:=H.below hb
    refine hK.out _ _ (fun _=>H) ?_;clear hK K;go_frame
    refine o1N 8 (fun K hK=>?_)
    replace H:=H.rot3;refine step_Lslw rfl cel35 _ _ _ H _ _ rfl rfl _ rfl rfl rfl rfl ?_;clear H;intro w1 ho1 H
    refine hK.out _ _ (aB rfl) ?_;clear hK K;go_frame
    iterate 2 refine rQ rfl ?_;go_frame
    refine dnC ?_ _
    have F0:=caOff' F1 ho1 ⟨_,List.mem_cons_of_mem _ mm0,rfl⟩
    have R0:=rdOff' FR ho1 ⟨_,List.mem_cons_of_mem _ mm1,rfl⟩
    go_wp2_with fail
    apply ret_ctt row35 rfl _ #[.int .i64 pc.ways,.slice s1.a s1.n s1.c] rfl rfl (t:=35) (fr:=(0,0)) (hd:=rfl) (hg:=H.row mm0)
    rw[E.out]
    exact⟨s1,⟨A1,_,C1⟩,rfl,Xl.toX F0,Xl.toR R0,H.bl⟩
   ·have E:=Lib.hid (show bringQ c q m line left=(pc,q,false) by
     rw[EE.out,if_neg]
     intro h
     simp only[Bool.and_eq_true,Bool.not_eq_true',decide_eq_false_iff_not]at h
     exact hcase ⟨h.1.1,h.1.2,h.2⟩)
    clear EE
    cases pb
    ·clear hcase
     go_wp2_with (first|((with_reducible refine gS 35 10 ?_);replace H:=H.rot3;refine st_Lslw rfl cel35 _ _ _ H _ _ rfl rfl _ rfl rfl rfl rfl ?_;clear H;intro w1 ho1 H;go_frame)|((with_reducible refine gL 35 5 ?_);refine st_Lllr rfl row35 H _ rfl _ 0 rfl _ _ mm0 _ rfl (Sub.all _) ?_;go_frame))
     apply ret_ctt row35 rfl _ #[.int .i64 pc.ways,.slice s1.a s1.n s1.c] rfl rfl (t:=35) (fr:=(0,0)) (hd:=rfl) (hg:=H.row mm0)
     rw[E.out]
     have F0:=caOff' F1 ho1 ⟨_,List.mem_cons_of_mem _ mm0,rfl⟩
     exact⟨s1,⟨A,n,C⟩,rfl,Xl.toX F0,HQ.out.below H.bl,H.bl⟩
    ·cases dy
     rotate_left
     have hd:dt=[]:=Classical.byContradiction fun h=>hcase ⟨rfl,rfl,h⟩
     subst hd
     have he:(bs []).toList.isEmpty=true:=by rw[bs_isEmpty];rfl
     rotate_left
     all_goals
      clear hcase
      go_wp2_with (first|((with_reducible refine gS 35 10 ?_);replace H:=H.rot3;refine st_Lslw rfl cel35 _ _ _ H _ _ rfl rfl _ rfl rfl rfl rfl ?_;clear H;intro w1 ho1 H;go_frame)|((with_reducible refine gL 35 5 ?_);refine st_Lllr rfl row35 H _ rfl _ 0 rfl _ _ mm0 _ rfl (Sub.all _) ?_;go_frame)|((with_reducible refine gL 4 51 ?_);refine sTj rfl ?_;refine wp_Lll1 one4 H _ rfl _ 1 rfl _ _ mm1 _ (wyC_1 _) ?_;go_frame)|((with_reducible refine gL 9 55 ?_);refine sTj rfl ?_;refine wp_Lll1 one9 H _ rfl _ 2 rfl _ _ mm1 _ (wyC_2 _) ?_;go_frame))
      apply ret_ctt row35 rfl _ #[.int .i64 pc.ways,.slice s1.a s1.n s1.c] rfl rfl (t:=35) (fr:=(0,0)) (hd:=rfl) (hg:=H.row mm0)
      rw[E.out]
      have F0:=caOff' F1 ho1 ⟨_,List.mem_cons_of_mem _ mm0,rfl⟩
      exact⟨s1,⟨A,n,C⟩,rfl,Xl.toX F0,HQ.out.below H.bl,H.bl⟩
theorem bring_m(w0 w:World)(g:Nat)(κ:Nat→Nat)(c:Co)(s:Ss)(line:U)(M:MS w0 w g κ c s)(hm:c.mem.length≤1000000)(hn:c.bus.length≤900000):Calls Tryz.prog 49 #[.pointer (some ⟨g,0,none⟩),.int .u32 line.v] w fun e w'=>e= .returned (.tuple #[])∧MP w0 w g κ (bringC c line) w':=by
 have H:=St'.start M
 have hn':s.bus.n≤900000:=by rw[← M.r.bus.sl.len];exact hn
 obtain⟨rc,rq,rb,hr⟩:∃ rc rq rb,bringQ c.data c.bus c.mem line (latF c.conf c.asked)=(rc,rq,rb):=⟨_,_,_,rfl⟩
 have E:=Lib.hid (show bringC c line={ c with data:=rc,bus:=rq,asked:=if rb then wrap64 (c.asked+1)else c.asked } by unfold bringC;rw[hr])
 have HB:=Lib.hid hr
 clear M hr
 cases rb
 all_goals
  skip
  go_enter Tryz.func49,Tryz.ntmps49
  go_wp2_with fail
  go_wp2_with fail
  refine beginS 29 (l0:=zz43) H (by kernel_rfl) ?_ (by kernel_rfl);clear H;intro H
  iterate 6 refine rP H ?_;go_frame
  refine tC 6 12 rfl (by kernel_rfl) iQ (by(exact yields_row row35 rfl _ rfl _ _ rfl _ rfl (fun w h j v hj=>(h.cell _).trans (sub_data _ _ j v hj)))) H ?_;go_frame
  iterate 4 refine rP H ?_;go_frame
  refine tC 11 17 rfl (by kernel_rfl) iQ (by(exact yields_one one36 rfl _ rfl _ rfl _ (fun w h=>(h.cell 55).trans (coC_55 _ _)))) H ?_;go_frame
  iterate 4 refine rP H ?_;go_frame
  refine tC 16 22 rfl (by kernel_rfl) iQ (by(exact yields_one one9 rfl _ rfl _ rfl _ (fun w h=>(h.cell 58).trans (coC_58 _ _)))) H ?_;go_frame
  iterate 5 refine rP H ?_;go_frame
  refine tC 22 28 rfl (by kernel_rfl) iQ (by(exact yields_row row25 rfl _ rfl _ _ rfl _ rfl (fun w h j v hj=>(h.cell _).trans (sub_conf _ _ j v hj)))) H ?_;go_frame
  iterate 4 refine rP H ?_;go_frame
  refine tC 27 33 rfl (by kernel_rfl) iQ (by(exact yields_one one3 rfl _ rfl _ rfl _ (fun w h=>(h.cell 56).trans (coC_56 _ _)))) H ?_;go_frame
  refine o1C 28 34 (fun K hK=>?_)
  refine step_fn rfl _ _ _ (lat_co c.conf s.lat s.tape c.asked _ H.m.r.lat.sl H.m.r.tape.sl) (by go_simp<;>rfl) ?_;rintro r w1 ⟨rfl,hb⟩;refine⟨_,rfl,?_⟩;replace H:=H.below hb
  refine hK.out _ _ (fun _=>H) ?_;clear hK K;go_frame
  refine o1C 29 35 (fun K hK=>?_)
  refine step_fn rfl _ _ _ (bring_at (fun j=>κ j=0) s.data.a s.data.n s.data.c c.data s.bus.a s.bus.n s.bus.c c.bus c.mem line (latF c.conf c.asked) hm hn' _ H.zero H.m.r.data H.m.r.bus) (by go_simp<;>rfl) ?_;unfold BriP;rw[HB.out];rintro r w1 ⟨s1,t1,rfl,F1,F2,hb⟩;refine⟨_,rfl,?_⟩;replace H:=H.below hb
  refine hK.out _ _ (aB rfl) ?_;clear hK K;go_frame
  iterate 7 refine rQ rfl ?_;go_frame
  refine o1N 37 (fun K hK=>?_)
  refine step_sbo rfl cel35 (H.md (H.m.r.s_data ⟨s1.a,s1.n,s1.c⟩ _ F1)) _ _ rfl 51 rfl _ rfl rfl rfl (by decide) (coU_data _ _ _ s1.a s1.n s1.c) ?_;intro w1 ho H1;have F3:=F2.off ho H.g0;clear F1 F2 H ho;have H:=H1;clear H1
  refine hK.out _ _ (aB rfl) ?_;clear hK K;go_frame
  iterate 3 refine rQ rfl ?_;go_frame
  refine o1N 41 (fun K hK=>?_)
  refine step_sb rfl cel36 (H.md (H.m.r.s_bus ⟨t1.a,t1.n,t1.c⟩ _ F3)) _ _ rfl 55 rfl _ rfl rfl rfl (by decide) (coU_bus _ _ _ t1.a t1.n t1.c) ?_;intro w1 H1;clear F3 H;have H:=H1;clear H1
  refine hK.out _ _ (aB rfl) ?_;clear hK K;go_frame
  refine tQ 42 4 rfl ?_;go_frame
  refine dnC ?_ _
  go_wp2_with (first|((with_reducible refine gL 3 49 ?_);refine st_ld1 rfl one3 H _ rfl 56 rfl _ (coC_56 _ _) ?_;go_frame)|((with_reducible refine gS 3 54 ?_);refine st_sb rfl cel3 (H.md (H.m.r.s_asked _)) _ _ rfl 56 rfl _ rfl rfl rfl (by decide) (coU_asked _ _ _) ?_;clear H;intro w1 H;go_frame))
  go_end0
  rw[E.out]
  exact⟨rfl,H.mp⟩
theorem reads_nil(L:List Rq)(n:Nat)(h:L.length=n)(c:Int)(e:c+((L.drop n).filter fun r=>decide (r.kind≠4)).length=(readsQ L:Int)):c=(readsQ L:Int):=by
 rw[List.drop_of_length_le (by omega)]at e
 simpa using e
theorem reads_cons(L:List Rq)(k:Nat)(y:Rq)(h:L[k]?=some y)(c r:Int)(e:c+((L.drop k).filter fun r=>decide (r.kind≠4)).length=r):(if y.kind≠4 then c+1 else c)+((L.drop (k+1)).filter fun r=>decide (r.kind≠4)).length=r:=by
 have hk:k<L.length:=(List.getElem?_eq_some_iff.1 h).1
 have hy:L[k]=y:=(List.getElem?_eq_some_iff.1 h).2
 rw[List.drop_eq_getElem_cons hk,hy,List.filter_cons]at e
 by_cases q:y.kind≠4
 ·rw[if_pos q];rw[if_pos (by simpa using q)]at e;simp only[List.length_cons]at e;omega
 ·rw[if_neg q];rw[if_neg (by simpa using q)]at e;exact e
theorem readsQ_any(A:Option Addr)(n C:Nat)(L:List Rq)(w:World)(hL:Sl rqC 4 w A n L):Calls Tryz.prog 100 #[.slice A n C] w fun e w'=>e= .returned (.int .i64 (readsQ L))∧Below w.heap.size w w':=by
 have hn:=hL.few
 have HL:=Lib.hid hL
 clear hL
 go_enter Tryz.func100,Tryz.ntmps100
 go_wp2
 go_loopw [3,8] (fun c i wr=>∃(k:Nat) (a:Int),k≤n∧0≤a∧a≤k∧c= .int .i64 a∧i= .int .i64 k∧Hid (a+((L.drop k).filter fun r=>decide (r.kind≠4)).length=(readsQ L:Int))∧Below w.heap.size w wr) (fun _ i _=>n-(intOf i).toNat)
 case atStart=>exact⟨0,0,by omega,by omega,by omega,rfl,rfl,Lib.hid (by simp[readsQ]),Below.refl _ _⟩
 case round=>
  obtain⟨k,a,hk,ha0,ha1,rfl,rfl,HG,HB⟩:=hrel
  have hBs:=HB.size
  by_cases hlt:k<n
  ·obtain⟨g,off,y,rfl,hg,hy,hc⟩:=(HL.out.below HB).at_ hlt
   have HY:=Lib.hid hy
   have HC:=Lib.hid hc
   clear hy hc
   by_cases hq:y.kind=4
   all_goals
    have HQ:=Lib.hid hq
    go_wp2_with (first|((with_reducible refine gAl 98 ?_);refine alloc_row (rqC rqZ) zero98 rfl rfl ?_;try simp only[Act.put,xA,xB,xC,fR])|((with_reducible refine gD (Op.store 98 _ _) ?_);apply store_row row98 rfl _ _ rfl _ (rqC _) rfl rfl (rqC_size _) (rqC_ones _) (t:=98) (old:=rqC _) (h2:=rqC_size _);(·(repeat((refine heap_at _ _ _ ?_;(with_reducible rfl)))));try simp only[Act.put,xA,xB,xC,fR];try simp (disch:=(first|with_reducible rfl|fail)) only[more_row,alloc_row_past,alloc_row_at,drew_row,drewN_row])|((with_reducible refine gD (Op.load 98 _) ?_);refine take_el row98 rfl _ rfl g (off+k*4) rfl y (rqC_size y) HC.out ?_;try simp only[Act.put,xA,xB,xC,fR]))
    go_roundw
    case rel=>exact⟨k+1,_,by omega,by omega,by omega,rfl,by go_num,Lib.hid (by have:=reads_cons L k y HY.out a _ HG.out;first|rwa [if_pos HQ.out]at this|(rw[if_neg (by rw[HQ.out];simp)]at this;exact this)),by(repeat(first|assumption|(refine Below.alloc ?_ ?_ _;rotate_left;(omega))))⟩
    case measure=>simp[intOf];omega
  ·have hkn:k=n:=by omega
   subst hkn
   go_wp2
   go_ret
   exact⟨ret_i (reads_nil L k HL.out.len a HG.out),HB⟩
theorem room_any(w0 w:World)(g:Nat)(κ:Nat→Nat)(c:Co)(s:Ss)(first:Bool)(M:MS w0 w g κ c s)(hf:rightF c.conf=true):Calls Tryz.prog 69 #[.pointer (some ⟨g,0,none⟩),.bool first] w fun e w'=>e= .returned (.bool (roomC c first))∧Below w.heap.size w w':=by
 have hg:=M.r.gB.2
 have hc:=M.cells
 have hsl:2≤c.conf.slots∧c.conf.slots≤6:=by
  unfold rightF wi at hf
  simp only[Bool.and_eq_true,decide_eq_true_eq]at hf
  omega
 have HB:=Lib.hid M.r.bus.sl
 have E:=Lib.hid (show roomC c first=if first then decide ((readsQ c.bus:Int)<c.conf.slots)else decide ((readsQ c.bus:Int)<c.conf.slots-1)from rfl)
 have hw:wrap64 (c.conf.slots-1)=c.conf.slots-1:=by unfold wrap64;omega
 clear M hf
 cases first
 all_goals
  go_enter Tryz.func69,Tryz.ntmps69
  go_wp2_with ((go_at_call 100;refine(readsQ_any _ _ _ _ _ (HB.out.below (by(repeat(exact Below.refl _ _))))).mono ?_;rintro r w1 ⟨rfl,hb⟩;obtain⟨ow,kw,rfl⟩:=more_of hb;clear hb))
  all_goals
   go_ret
   refine⟨?_,by(repeat(first|exact Below.refl _ _|(refine bl_more ?_ ?_ _ _;rotate_left;(omega))))⟩
   rw[E.out]
   simp_all
theorem ask_any(w0 w:World)(g:Nat)(κ:Nat→Nat)(c:Co)(s:Ss)(kind:Int)(line:U)(data:By)(M:MS w0 w g κ c s)(hn:c.bus.length≤900000):Calls Tryz.prog 70 #[.pointer (some ⟨g,0,none⟩),.int .i64 kind,.int .u32 line.v,.string (bs data)] w fun e w'=>e= .returned (.tuple #[])∧MP w0 w g κ (askC c kind line data) w':=by
 have H:=St'.start M
 have hn':s.bus.n≤900000:=by rw[← M.r.bus.sl.len];exact hn
 clear M
 go_enter Tryz.func70,Tryz.ntmps70
 go_wp2_with fail
 refine beginS 20 (l0:=zz25) H (by kernel_rfl) ?_ (by kernel_rfl);clear H;intro H
 iterate 5 refine rP H ?_;go_frame
 refine tC 5 13 rfl (by kernel_rfl) iQ (by(exact yields_one one36 rfl _ rfl _ rfl _ (fun w h=>(h.cell 55).trans (coC_55 _ _)))) H ?_;go_frame
 iterate 6 refine rP H ?_;go_frame
 refine tC 12 20 rfl (by kernel_rfl) iQ (by(exact yields_row row25 rfl _ rfl _ _ rfl _ rfl (fun w h j v hj=>(h.cell _).trans (sub_conf _ _ j v hj)))) H ?_;go_frame
 iterate 4 refine rP H ?_;go_frame
 refine tC 17 25 rfl (by kernel_rfl) iQ (by(exact yields_one one3 rfl _ rfl _ rfl _ (fun w h=>(h.cell 56).trans (coC_56 _ _)))) H ?_;go_frame
 refine tP 19 27 H ?_;go_frame
 refine o1C 18 26 (fun K hK=>?_)
 refine step_fn rfl _ _ _ (lat_co c.conf s.lat s.tape c.asked _ H.m.r.lat.sl H.m.r.tape.sl) (by go_simp) ?_;rintro r w1 ⟨rfl,hb⟩;refine⟨_,rfl,?_⟩;replace H:=H.below hb
 refine hK.out _ _ (fun _=>H) ?_;clear hK K;go_frame
 refine o1C 20 28 (fun K hK=>?_)
 refine step_fn rfl _ _ _ (push_any _ _ _ c.bus kind line (latF c.conf c.asked) data _ H.m.r.bus.sl H.m.r.bus.wf hn') (by go_simp) ?_;rintro r w1 ⟨v,rfl,how,hb⟩;refine⟨_,rfl,?_⟩;obtain⟨A,C,rfl,f1,f2,f3⟩:=how.sl2 rqC_size;have hz:=H.zero;replace H:=H.below hb
 refine hK.out _ _ (aB rfl) ?_;clear hK K;go_frame
 iterate 3 refine rQ rfl ?_;go_frame
 refine o1N 24 (fun K hK=>?_)
 refine step_sb rfl cel36 (H.md (H.m.r.s_bus ⟨A,_,C⟩ _ ⟨f1,f2,fun _ p hp=>hz _ (f3 p hp)⟩)) _ _ rfl 55 rfl _ rfl rfl rfl (by decide) (coU_bus _ _ _ A _ C) ?_;clear H;intro w1 H
 refine hK.out _ _ (aB rfl) ?_;clear hK K;go_frame
 refine dnC ?_ _
 go_wp2_with (first|((with_reducible refine gL 3 35 ?_);refine st_ld1 rfl one3 H _ rfl 56 rfl _ (coC_56 _ _) ?_;go_frame)|((with_reducible refine gS 3 40 ?_);refine st_sb rfl cel3 (H.md (H.m.r.s_asked _)) _ _ rfl 56 rfl _ rfl rfl rfl (by decide) (coU_asked _ _ _) ?_;clear H;intro w1 H;go_frame))
 go_end0
 exact⟨rfl,H.mp⟩
theorem take_split{α:Type}{L:List α}{k:Nat}{y:α}(h:L[k]?=some y):L=L.take k++y::L.drop (k+1):=by
 have hk:=(List.getElem?_eq_some_iff.1 h).1
 have hy:=(List.getElem?_eq_some_iff.1 h).2
 rw[← hy,← List.drop_eq_getElem_cons hk,List.take_append_drop]
theorem dirty_hit{c:Ca}{k j:Nat}{L:List Wy}{y:Wy}(hr:rightC c=true)(hL:c.sets[k]?=some L)(hy:L[j]?=some y)(hd:y.dirty=true)(h1:∀ M∈c.sets.take k,∀ z∈M,z.dirty=false)(h2:∀ z∈L.take j,z.dirty=false):dirtyC c=(y,true):=by
 have e:c.sets.flatten.find? (·.dirty)=some y:=by
  rw[take_split hL,List.flatten_append,List.find?_append]
  have:(c.sets.take k).flatten.find? (·.dirty)=none:=by
   rw[List.find?_eq_none]
   intro z hz
   rw[List.mem_flatten]at hz
   obtain⟨M,hM,hzM⟩:=hz
   simp[h1 M hM z hzM]
  rw[this,Option.none_or,List.flatten_cons,take_split hy,List.append_assoc,List.find?_append]
  have:(L.take j).find? (·.dirty)=none:=by
   rw[List.find?_eq_none]
   intro z hz
   simp[h2 z hz]
  rw[this,Option.none_or,List.cons_append,List.find?_cons,hd]
 unfold dirtyC
 rw[hr,if_pos rfl,e]
theorem dirty_none{c:Ca}(hr:rightC c=true)(h1:∀ M∈c.sets,∀ z∈M,z.dirty=false):dirtyC c=(wyZ,false):=by
 have e:c.sets.flatten.find? (·.dirty)=none:=by
  rw[List.find?_eq_none]
  intro z hz
  rw[List.mem_flatten]at hz
  obtain⟨M,hM,hzM⟩:=hz
  simp[h1 M hM z hzM]
 unfold dirtyC
 rw[hr,if_pos rfl,e]
 rfl
def DirP(c:Ca)(w:World)(e:Ending)(w':World):Prop:=e= .returned (.tuple #[.agg (wyC (dirtyC c).1),.bool (dirtyC c).2])∧Below w.heap.size w w'
theorem ret_dir{c:Ca}{y:Wy}{b:Bool}(h:dirtyC c=(y,b)):Ending.returned (.tuple #[.agg (wyC y),.bool b])= .returned (.tuple #[.agg (wyC (dirtyC c).1),.bool (dirtyC c).2]):=by rw[h]
theorem dirty_at(sa:Option Addr)(sn sc:Nat)(c:Ca)(w:World)(hc:CaR w ⟨sa,sn,sc⟩ c):Calls Tryz.prog 8 #[caV c.ways ⟨sa,sn,sc⟩] w (DirP c w):=by
 have hl:=hc.len
 have hn:=hc.few
 simp only at hl hn
 have HC:=Lib.hid hc
 have HL:=Lib.hid hl
 have RI:=Lib.hid (fun W (h:Below w.heap.size w W)=>cright_any ⟨sa,sn,sc⟩ c W (hc.below h))
 cases hr:rightC c with
 | false=>
  have E:=Lib.hid (show dirtyC c=(wyZ,false) by unfold dirtyC;rw[hr];rfl)
  have HR:=Lib.hid hr
  clear hr hc hl
  go_enter Tryz.func8,Tryz.ntmps8
  go_wp2_with (first|((with_reducible refine gD (Op.store 46 (.tmp 2) (.tmp 11)) ?_);refine store_row row46 rfl _ _ rfl (w.heap.size+1) (wyC wyZ) rfl rfl (wyC_size _) (wyC_ones _) (t:=46) (old:=wyC wyZ) (h2:=wyC_size _) ?_ ?_;(·(repeat(first|(refine heap_at _ _ _ ?_;(simp only[sZ]<;>omega))|(refine(more_heap' _ _ _ _ ?_).trans ?_;(simp only[sZ]<;>omega)))));try simp only[Act.put,xA,xB,xC,fR];try simp (disch:=(first|(simp only[sZ]<;>omega)|fail)) only[more_row,alloc_row_past,alloc_row_at,drew_row,drewN_row])|((with_reducible refine gAl 46 ?_);refine alloc_row (wyC wyZ) zero46 rfl rfl ?_;try simp only[Act.put,xA,xB,xC,fR])|(go_at_call 9;refine(RI.out _ (by(repeat(first|exact Below.refl _ _|(refine Below.alloc ?_ ?_ _;rotate_left;(first|omega|(simp only[sZ]<;>omega))))))).mono ?_;rw[HR.out];rintro r w1 ⟨rfl,hb⟩;obtain⟨ow,kw,rfl⟩:=more_of hb;clear hb))
  apply ret_ct row46 rfl (w.heap.size+1) (wyC wyZ) rfl (wyC_size _) (t:=46) (fr:=(0,0)) (hd:=rfl)
  ·(repeat(first|(refine heap_at _ _ _ ?_;(simp only[sZ]<;>omega))|(refine(more_heap' _ _ _ _ ?_).trans ?_;(simp only[sZ]<;>omega))))
  exact⟨ret_dir E.out,by(repeat(first|exact Below.refl _ _|(refine Below.alloc ?_ ?_ _;rotate_left;(first|omega|(simp only[sZ]<;>omega)))|(refine bl_more ?_ ?_ _ _;rotate_left;(simp only[sZ]<;>omega))))⟩
 | true=>
  obtain⟨W0,hW0⟩:∃ W0,W0=(w.alloc (.cells (ccC ⟨c.ways,⟨sa,sn,sc⟩⟩) 35)).alloc (.cells (wyC wyZ) 46):=⟨_,rfl⟩
  have hs0:W0.heap.size=w.heap.size+1+1:=by rw[hW0,World.size_alloc,World.size_alloc]
  have HB0:=Lib.hid (show Below w.heap.size w W0 by rw[hW0];(repeat(first|exact Below.refl _ _|(refine Below.alloc ?_ ?_ _;rotate_left;(first|omega|(simp only[sZ]<;>omega))))))
  have HX0:=Lib.hid (show W0.heap[w.heap.size]?=some (.cells (ccC ⟨c.ways,⟨sa,sn,sc⟩⟩) 35 (0,0)) by rw[hW0];(repeat(first|(refine heap_at _ _ _ ?_;(with_reducible rfl))|(refine(heap_past _ _ _ ?_).trans ?_;(simp only[sZ]<;>omega)))))
  have HY0:=Lib.hid (show W0.heap[w.heap.size+1]?=some (.cells (wyC wyZ) 46 (0,0)) by rw[hW0];(repeat((refine heap_at _ _ _ ?_;(simp only[sZ]<;>omega)))))
  have HC0:=Lib.hid (hc.below HB0.out)
  have HW0:=Lib.hid hW0
  have HR:=Lib.hid hr
  clear hr hc hl hW0
  go_enter Tryz.func8,Tryz.ntmps8
  go_wp2_with (first|((with_reducible refine gAl 46 ?_);refine alloc_row (wyC wyZ) zero46 rfl rfl ?_;try simp only[Act.put,xA,xB,xC,fR])|(go_at_call 9;refine(RI.out _ (by(repeat(first|exact Below.refl _ _|(refine Below.alloc ?_ ?_ _;rotate_left;(first|omega|(simp only[sZ]<;>omega))))))).mono ?_;rw[HR.out];rintro r w1 ⟨rfl,hb⟩;obtain⟨ow,kw,rfl⟩:=more_of hb;clear hb))
  go_loopw [15] (fun i wr=>∃(k:Nat),k≤sn∧i= .int .i64 k∧Hid (∀ M∈c.sets.take k,∀ z∈M,z.dirty=false)∧Below W0.heap.size W0 wr) (fun i _=>sn-(intOf i).toNat)
  case atStart=>exact⟨0,by omega,rfl,Lib.hid (by simp),by rw[HW0.out];exact bl_more (Below.refl _ _) (Nat.le_refl _) _ _⟩
  case round=>
   rename World=>wo
   obtain⟨k,hk,rfl,HG,HB⟩:=hrel
   have hBs:=HB.size
   have hBwo:Below w.heap.size w wo:=HB0.out.trans (HB.mono (by omega))
   have HRS:=Lib.hid ((HB.block (w.heap.size+1) (by omega)).trans HY0.out)
   by_cases hlt:k<sn
   ·obtain⟨g,off,⟨ta,tn,tc⟩,L,e0,hg,hLk,hcell,hSl,hWf⟩:=(HC0.out.below HB).at_ hlt
    simp only at e0 hcell hSl hWf
    subst e0
    have htn:=hSl.few
    have HLL:=Lib.hid hSl.len
    have HSl:=Lib.hid hSl
    have HLk:=Lib.hid hLk
    clear hSl hLk hWf
    go_wp2
    go_loopw [21] (fun i w2=>∃(j:Nat),j≤tn∧i= .int .i64 j∧Hid (∀ z∈L.take j,z.dirty=false)∧Below wo.heap.size wo w2) (fun i _=>tn-(intOf i).toNat)
    case atStart=>exact⟨0,by omega,rfl,Lib.hid (by simp),Below.refl _ _⟩
    case round=>
     obtain⟨j,hj,rfl,HJ,HB2⟩:=hrel
     have hBs2:=HB2.size
     have hBw:Below w.heap.size w wr:=hBwo.trans (HB2.mono (by omega))
     have hres:wr.heap[w.heap.size+1]?=some (.cells (wyC wyZ) 46 (0,0)):=(HB2.block _ (by omega)).trans HRS.out
     by_cases hjl:j<tn
     ·obtain⟨g2,off2,y,e2,hg2,hy,hcy⟩:=(HSl.out.below HB2).at_ hjl
      subst e2
      have HY:=Lib.hid hy
      have HC2:=Lib.hid hcy
      clear hy hcy
      cases hd:y.dirty with
      | true=>
       have HD:=Lib.hid hd
       have E:=Lib.hid (dirty_hit HR.out HLk.out HY.out hd HG.out HJ.out)
       go_wp2_with (first|((with_reducible refine gL 46 23 ?_);refine take_el row46 rfl _ rfl g2 (off2+j*3) rfl y (wyC_size y) HC2.out ?_;try simp only[Act.put,xA,xB,xC,fR])|((with_reducible refine gAl 46 ?_);refine alloc_row (wyC wyZ) zero46 rfl rfl ?_;try simp only[Act.put,xA,xB,xC,fR])|((with_reducible refine gD (Op.load 46 _) ?_);apply take_row row46 rfl _ rfl _ rfl (wyC _) (wyC_size _) (t:=46) (fr:=(0,0));(·(repeat((refine heap_at _ _ _ ?_;(with_reducible rfl)))));try simp only[Act.put,xA,xB,xC,fR])|((with_reducible refine gD (Op.store 46 _ _) ?_);apply store_row row46 rfl _ _ rfl _ (wyC _) rfl rfl (wyC_size _) (wyC_ones _) (t:=46) (old:=wyC _) (h2:=wyC_size _);(·(repeat(first|(refine heap_at _ _ _ ?_;(with_reducible rfl))|assumption|(refine(heap_past _ _ _ ?_).trans ?_;(omega)))));try simp only[Act.put,xA,xB,xC,fR];try simp (disch:=(first|with_reducible rfl|omega|fail)) only[more_row,alloc_row_past,alloc_row_at,drew_row,drewN_row]))
       apply ret_ct row46 rfl (w.heap.size+1) (wyC y) rfl (wyC_size _) (t:=46) (fr:=(0,0)) (hd:=rfl)
       ·refine(heap_past _ _ _ (by rw[row_size];omega)).trans ?_
        exact setRow_heap _ _ (wyC wyZ) _ 46 (0,0) hres
       exact⟨ret_dir E.out,by(repeat(first|assumption|(refine Below.alloc ?_ ?_ _;rotate_left;(simp only[sZ]<;>omega))|(refine bl_row ?_ ?_ _;rotate_left;(omega))))⟩
      | false=>
       have HD:=Lib.hid hd
       go_wp2_with (first|((with_reducible refine gL 46 23 ?_);refine take_el row46 rfl _ rfl g2 (off2+j*3) rfl y (wyC_size y) HC2.out ?_;try simp only[Act.put,xA,xB,xC,fR])|((with_reducible refine gAl 46 ?_);refine alloc_row (wyC wyZ) zero46 rfl rfl ?_;try simp only[Act.put,xA,xB,xC,fR])|((with_reducible refine gD (Op.store 46 _ _) ?_);apply store_row row46 rfl _ _ rfl _ (wyC _) rfl rfl (wyC_size _) (wyC_ones _) (t:=46) (old:=wyC _) (h2:=wyC_size _);(·(repeat((refine heap_at _ _ _ ?_;(with_reducible rfl)))));try simp only[Act.put,xA,xB,xC,fR];try simp (disch:=(first|with_reducible rfl|fail)) only[more_row,alloc_row_past,alloc_row_at,drew_row,drewN_row]))
       go_roundw
       case rel=>exact⟨j+1,by omega,by go_num,Lib.hid (take_more HY.out HJ.out HD.out),by(repeat(first|assumption|(refine Below.alloc ?_ ?_ _;rotate_left;(omega))))⟩
       case measure=>simp[intOf];omega
     ·have hjn:j=tn:=by omega
      subst hjn
      go_wp2
      go_roundw
      case rel=>exact⟨k+1,by omega,by go_num,Lib.hid (take_more HLk.out HG.out (take_full HLL.out HJ.out)),HB.trans (HB2.mono (by omega))⟩
      case measure=>simp[intOf];omega
   ·have hkn:k=sn:=by omega
    subst hkn
    have hres:wo.heap[w.heap.size+1]?=some (.cells (wyC wyZ) 46 (0,0)):=HRS.out
    have E:=Lib.hid (dirty_none HR.out (take_full HL.out HG.out))
    go_wp2_with (((with_reducible refine gD (Op.store 46 (.tmp 2) (.tmp 30)) ?_);refine store_row row46 rfl _ _ rfl (w.heap.size+1) (wyC wyZ) rfl rfl (wyC_size _) (wyC_ones _) (t:=46) (old:=wyC wyZ) hres (wyC_size _) ?_;try simp only[Act.put,xA,xB,xC,fR]))
    apply ret_ct row46 rfl (w.heap.size+1) (wyC wyZ) rfl (wyC_size _) (t:=46) (fr:=(0,0)) (hd:=rfl)
    ·exact setRow_heap _ _ (wyC wyZ) _ 46 (0,0) hres
    exact⟨ret_dir E.out,bl_row hBwo (Nat.le_succ _) _⟩
theorem dirty_any(s:Sv)(c:Ca)(w:World)(hc:CaR w s c):Calls Tryz.prog 8 #[caV c.ways s] w (DirP c w):=dirty_at s.a s.n s.c c w hc
theorem has_hit{L:List Rq}{k:Nat}{y:Rq}{line:U}{kind:Int}(h:L[k]?=some y)(h1:y.line=line)(h2:y.kind=kind):hasQ L line kind=true:=by
 unfold hasQ
 rw[List.any_eq_true]
 exact⟨y,List.mem_of_getElem? h,by simp[h1,h2]⟩
theorem has_none{L:List Rq}{line:U}{kind:Int}(h:∀ y∈L,¬ (y.line=line∧y.kind=kind)):hasQ L line kind=false:=by
 unfold hasQ
 rw[List.any_eq_false]
 intro y hy
 have:=h y hy
 simpa using this
theorem hasQ_any(A:Option Addr)(n C:Nat)(L:List Rq)(line:U)(K:Nat)(kc:Nat)(kind:Int)(w:World)(hL:Sl rqC 4 w A n L)(hK:w.cell? ⟨K,0,none⟩=some (.int .i64 kind))(hKl:K<w.heap.size):Calls Tryz.prog 68 #[.slice A n C,.int .u32 line.v,.slice (some ⟨K,0,none⟩) 1 kc] w fun e w'=>e= .returned (.bool (hasQ L line kind))∧Below w.heap.size w w':=by
 have hn:=hL.few
 have HL:=Lib.hid hL
 have HK:=Lib.hid hK
 clear hL hK
 go_enter Tryz.func68,Tryz.ntmps68
 go_wp2
 go_loopw [13] (fun i wr=>∃(k:Nat),k≤n∧i= .int .i64 k∧Hid (∀ z∈L.take k,¬ (z.line=line∧z.kind=kind))∧Below w.heap.size w wr) (fun i _=>n-(intOf i).toNat)
 case atStart=>exact⟨0,by omega,rfl,Lib.hid (by simp),Below.refl _ _⟩
 case round=>
  obtain⟨k,hk,rfl,HG,HB⟩:=hrel
  have hBs:=HB.size
  by_cases hlt:k<n
  ·obtain⟨g,off,y,rfl,hg,hy,hc⟩:=(HL.out.below HB).at_ hlt
   have HY:=Lib.hid hy
   have HC:=Lib.hid hc
   have hkc:wr.cell? ⟨K,0,none⟩=some (.int .i64 kind):=(HB.cell (p:=⟨K,0,none⟩) hKl).trans HK.out
   have hKr:K<wr.heap.size:=by omega
   clear hy hc
   by_cases hq:y.line=line
   ·by_cases hq2:y.kind=kind
    ·have hb:=ueq hq
     have hb2:(y.kind== kind)=true:=by rw[hq2];simp
     have HQ:=Lib.hid hq
     have HQ2:=Lib.hid hq2
     clear hq hq2
     go_wp2_with (first|((with_reducible refine gAl 98 ?_);refine alloc_row (rqC rqZ) zero98 rfl rfl ?_;try simp only[Act.put,xA,xB,xC,fR])|((with_reducible refine gD (Op.store 98 _ _) ?_);apply store_row row98 rfl _ _ rfl _ (rqC _) rfl rfl (rqC_size _) (rqC_ones _) (t:=98) (old:=rqC _) (h2:=rqC_size _);(·(repeat((refine heap_at _ _ _ ?_;(with_reducible rfl)))));try simp only[Act.put,xA,xB,xC,fR];try simp (disch:=(first|with_reducible rfl|fail)) only[more_row,alloc_row_past,alloc_row_at,drew_row,drewN_row])|((with_reducible refine gD (Op.load 98 _) ?_);refine take_el row98 rfl _ rfl g (off+k*4) rfl y (rqC_size y) HC.out ?_;try simp only[Act.put,xA,xB,xC,fR]))
     refine wp_loop_rounds 1 ?_
     rw[rounds_succ]
     go_wp2_with fail
     go_ret
     exact⟨ret_b (has_hit HY.out HQ.out HQ2.out).symm,by(repeat(first|assumption|(refine Below.alloc ?_ ?_ _;rotate_left;(omega))))⟩
    ·have hb:=ueq hq
     have hb2:(y.kind== kind)=false:=by rw[beq_eq_false_iff_ne];exact hq2
     have HQ2:=Lib.hid hq2
     clear hq hq2
     go_wp2_with (first|((with_reducible refine gAl 98 ?_);refine alloc_row (rqC rqZ) zero98 rfl rfl ?_;try simp only[Act.put,xA,xB,xC,fR])|((with_reducible refine gD (Op.store 98 _ _) ?_);apply store_row row98 rfl _ _ rfl _ (rqC _) rfl rfl (rqC_size _) (rqC_ones _) (t:=98) (old:=rqC _) (h2:=rqC_size _);(·(repeat((refine heap_at _ _ _ ?_;(with_reducible rfl)))));try simp only[Act.put,xA,xB,xC,fR];try simp (disch:=(first|with_reducible rfl|fail)) only[more_row,alloc_row_past,alloc_row_at,drew_row,drewN_row])|((with_reducible refine gD (Op.load 98 _) ?_);refine take_el row98 rfl _ rfl g (off+k*4) rfl y (rqC_size y) HC.out ?_;try simp only[Act.put,xA,xB,xC,fR]))
     refine wp_loop_rounds 2 ?_
     rw[rounds_succ]
     go_wp2_with fail
     rw[rounds_succ]
     go_wp2_with fail
     go_roundw
     case rel=>exact⟨k+1,by omega,by go_num,Lib.hid (take_more HY.out HG.out (fun h=>HQ2.out h.2)),by(repeat(first|assumption|(refine Below.alloc ?_ ?_ _;rotate_left;(omega))))⟩
     case measure=>simp[intOf];omega
   ·have hb:=une hq
    have HQ:=Lib.hid hq
    clear hq
    go_wp2_with (first|((with_reducible refine gAl 98 ?_);refine alloc_row (rqC rqZ) zero98 rfl rfl ?_;try simp only[Act.put,xA,xB,xC,fR])|((with_reducible refine gD (Op.store 98 _ _) ?_);apply store_row row98 rfl _ _ rfl _ (rqC _) rfl rfl (rqC_size _) (rqC_ones _) (t:=98) (old:=rqC _) (h2:=rqC_size _);(·(repeat((refine heap_at _ _ _ ?_;(with_reducible rfl)))));try simp only[Act.put,xA,xB,xC,fR];try simp (disch:=(first|with_reducible rfl|fail)) only[more_row,alloc_row_past,alloc_row_at,drew_row,drewN_row])|((with_reducible refine gD (Op.load 98 _) ?_);refine take_el row98 rfl _ rfl g (off+k*4) rfl y (rqC_size y) HC.out ?_;try simp only[Act.put,xA,xB,xC,fR]))
    refine wp_loop_rounds 2 ?_
    rw[rounds_succ]
    go_wp2_with fail
    rw[rounds_succ]
    go_wp2_with fail
    go_roundw
    case rel=>exact⟨k+1,by omega,by go_num,Lib.hid (take_more HY.out HG.out (fun h=>HQ.out h.1)),by(repeat(first|assumption|(refine Below.alloc ?_ ?_ _;rotate_left;(omega))))⟩
    case measure=>simp[intOf];omega
  ·have hkn:k=n:=by omega
   subst hkn
   go_wp2
   go_ret
   exact⟨ret_b (has_none (take_full HL.out.len HG.out)).symm,HB⟩
end Go.Proofs.YtdmhfogegfmnfaaGreatDoor
