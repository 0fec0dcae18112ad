/- Contracts: what guesses learns. Conditions: its slices read as lists. -/
import Derived.Test.YtdmhfogegfmnfaaGreatDoorG01
import Derived.Test.YtdmhfogegfmnfaaGreatDoorG04
import Derived.Test.YtdmhfogegfmnfaaGreatDoorG29
import Derived.Test.YtdmhfogegfmnfaaGreatDoorG30
set_option maxRecDepth 100000
set_option maxHeartbeats 4000000
set_option linter.unusedVariables false
set_option linter.unusedSimpArgs false
namespace Go.Proofs.YtdmhfogegfmnfaaGreatDoor
open Go.RowKit
theorem train_any(s:Gc)(g:Gu)(pc next:U)(i:In)(w:World)(h:GuR w s g):Calls Tryz.prog 61 #[.agg (guC s),.int .u32 pc.v,.int .u32 next.v,.agg (inC i)] w (GuP (some s) (fun _=>True) w):=by
 have H:=Lo.start w
 have HG:=Lib.hid h
 cases hr:rightG g with
 | false=>
  have RG:=Lib.hid (fun W h'=>rightg_any s g W h')
  rw[hr]at RG
  clear hr h
  go_enter Tryz.func61,Tryz.ntmps61
  go_wp2_with (first|(go_at_call 38;refine(RG.out _ (HG.out.below H.bl)).mono ?_;rintro r w1 ⟨rfl,hb⟩;replace H:=H.below hb)|((with_reducible refine gS 39 8 ?_);refine st_Lslw rfl cel39 _ _ _ H _ _ rfl rfl (guC s) rfl rfl (guC_ones _) rfl ?_;clear H;intro w1 ho1 H;try simp only[Act.put,xA,xB,xC,fR])|((with_reducible refine gBx 39 0 ?_);refine st_Lbox rfl _ H _ rfl rfl ?_;clear H;intro w1 b1 H;go_frame)|((with_reducible refine gBx 83 3 ?_);refine st_Lbox rfl _ H _ rfl rfl ?_;clear H;intro w1 b1 H;go_frame)|((with_reducible refine gAl 39 ?_);refine st_Lal rfl (guC guZ) zero39 H rfl ?_;clear H;intro w1 b8 hlt1 hb1 H;go_frame)|((with_reducible refine gL 39 4 ?_);refine st_Lllr rfl row39 H _ rfl _ 0 rfl _ _ mm2 _ rfl (Sub.all _) ?_;go_frame)|((with_reducible refine gL 83 7 ?_);refine sKp rfl ?_;go_frame))
  apply ret_row row39 rfl _ (guC s) rfl (guC_size _) (t:=39) (fr:=(0,0)) (hd:=rfl) (hg:=H.row mm0)
  exact⟨s,g,rfl,HG.out.below H.bl,trivial,.inl rfl,H.bl⟩
 | true=>
  obtain⟨⟨sa,sn,sc⟩,hist,⟨ra,rn,rc⟩⟩:=s
  have RG:=Lib.hid (fun W h'=>rightg_any ⟨⟨sa,sn,sc⟩,hist,⟨ra,rn,rc⟩⟩ g W h')
  rw[hr]at RG
  unfold rightG at hr
  simp only[Bool.and_eq_true,decide_eq_true_eq]at hr
  obtain⟨⟨n8,nh⟩,n4⟩:=hr
  have l1:g.slots.length=sn:=h.sl.len
  have l2:g.returns.length=rn:=h.rl.len
  have hn8:sn=8:=by omega
  have hn4:rn≤4:=by omega
  subst hn8
  by_cases hk:kd i.op=5
  ·have hc5:rn=0∨rn=1∨rn=2∨rn=3∨rn=4:=by omega
   have hr':rightG g=true:=by unfold rightG;simp only[Bool.and_eq_true,decide_eq_true_eq];exact⟨⟨by omega,by omega⟩,by omega⟩
   rcases hc5 with rfl|rfl|rfl|rfl|rfl
   ·exact train_0 sa sc hist ra rc g pc next i w h hr' hk
   ·exact train_n 1 (by omega) sa sc hist ra rc g pc next i w h hr' hk
   ·exact train_n 2 (by omega) sa sc hist ra rc g pc next i w h hr' hk
   ·exact train_n 3 (by omega) sa sc hist ra rc g pc next i w h hr' hk
   ·exact train_n 4 (by omega) sa sc hist ra rc g pc next i w h hr' hk
  ·have d1:(kd i.op != 5)=true:=by rw[bne_iff_ne];exact hk
   clear hk n8 n4 l1 l2 nh
   go_enter Tryz.func61,Tryz.ntmps61
   go_wp2_with (first|(go_at_call 38;refine(RG.out _ (HG.out.below H.bl)).mono ?_;rintro r w1 ⟨rfl,hb⟩;replace H:=H.below hb)|(go_at_call 52;refine(kind_any _ _ _ _ _ _).mono ?_;rintro r w1 ⟨rfl,hb⟩;replace H:=H.below hb)|((with_reducible refine gS 39 8 ?_);refine st_Lslw rfl cel39 _ _ _ H _ _ rfl rfl (guC ⟨⟨sa,8,sc⟩,hist,⟨ra,rn,rc⟩⟩) rfl rfl (guC_ones _) rfl ?_;clear H;intro w1 ho1 H;try simp only[Act.put,xA,xB,xC,fR])|((with_reducible refine gBx 39 0 ?_);refine st_Lbox rfl _ H _ rfl rfl ?_;clear H;intro w1 b1 H;go_frame)|((with_reducible refine gBx 83 3 ?_);refine st_Lbox rfl _ H _ rfl rfl ?_;clear H;intro w1 b1 H;go_frame)|((with_reducible refine gAl 39 ?_);refine st_Lal rfl (guC guZ) zero39 H rfl ?_;clear H;intro w1 b8 hlt1 hb1 H;go_frame)|((with_reducible refine gL 39 4 ?_);refine st_Lllr rfl row39 H _ rfl _ 0 rfl _ _ mm2 _ rfl (Sub.all _) ?_;go_frame)|((with_reducible refine gL 83 7 ?_);refine sTj rfl ?_;refine wp_Lllr row83 H _ rfl _ 0 rfl _ _ mm1 _ rfl (Sub.all _) ?_;go_frame))
   apply ret_row row39 rfl _ (guC ⟨⟨sa,8,sc⟩,hist,⟨ra,rn,rc⟩⟩) rfl (guC_size _) (t:=39) (fr:=(0,0)) (hd:=rfl) (hg:=H.row mm0)
   exact⟨_,g,rfl,HG.out.below H.bl,trivial,.inl rfl,H.bl⟩
end Go.Proofs.YtdmhfogegfmnfaaGreatDoor
