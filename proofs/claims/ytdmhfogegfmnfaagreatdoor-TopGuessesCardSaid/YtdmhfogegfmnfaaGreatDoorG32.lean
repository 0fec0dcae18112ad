/- Contracts: the first entries count. Conditions: the machine is one, its shape right, memory, bus and rows not long. -/
import Derived.Test.YtdmhfogegfmnfaaGreatDoorG01
import Derived.Test.YtdmhfogegfmnfaaGreatDoorG04
import Derived.Test.YtdmhfogegfmnfaaGreatDoorG16
import Derived.Test.YtdmhfogegfmnfaaGreatDoorG21
import Derived.Test.YtdmhfogegfmnfaaGreatDoorG22
import Derived.Test.YtdmhfogegfmnfaaGreatDoorG28
import Derived.Test.YtdmhfogegfmnfaaGreatDoorG29
import Derived.Test.YtdmhfogegfmnfaaGreatDoorG31
set_option maxRecDepth 100000
set_option maxHeartbeats 16000000
set_option linter.unusedVariables false
set_option linter.unusedSimpArgs false
namespace Go.Proofs.YtdmhfogegfmnfaaGreatDoor
open Go.RowKit
theorem stoq_some{s:St}{p:Pt}(h:stoP s=(p,true)):storedS s=some p:=by
 unfold stoP at h
 split at h
 ·rename_i q e;cases h;exact e
 ·cases h
theorem stoq_no{s:St}{p:Pt}(h:stoP s=(p,false)):storedS s=none:=by
 unfold stoP at h
 split at h
 ·cases h
 ·assumption
theorem gu_av{X:Nat→Prop}{s t:Gc}{w:World}{P:Prop}(h:some s=some t∨((∀ p,t.slots.a=some p→w.heap.size≤p.block)∧P))(h1:s=t→Av X t.slots.a t.slots.n)(h2:∀ {j},w.heap.size≤j→X j):Av X t.slots.a t.slots.n:=by
 rcases h with h|h
 ·exact h1 (Option.some.inj h)
 ·exact fun _ p hp=>h2 (h.1 p hp)
theorem gu_av2{X:Nat→Prop}{s t:Gc}{w:World}{P:Prop}(h:some s=some t∨(P∧∀ p,t.returns.a=some p→w.heap.size≤p.block))(h1:s=t→Av X t.returns.a t.returns.n)(h2:∀ {j},w.heap.size≤j→X j):Av X t.returns.a t.returns.n:=by
 rcases h with h|h
 ·exact h1 (Option.some.inj h)
 ·exact fun _ p hp=>h2 (h.2 p hp)
theorem Md.drop{w0 ws w:World}{g:Nat}{κs κ:Nat→Nat}{c c':Co}{s s':Ss}{x:Lc}{l:List Lc}(h:Md w0 ws w g κs κ c s c' s' (x::l)):Md w0 ws w g κs κ c s c' s' l:=⟨h.r,h.box,h.kp,h.sm,fun y hy=>h.lc y (List.mem_cons_of_mem _ hy),(List.pairwise_cons.1 h.nd).2⟩
theorem retires_m(w0 w:World)(g:Nat)(κ:Nat→Nat)(c:Co)(s:Ss)(M:MS w0 w g κ c s)(hf:rightF c.conf=true)(hp:c.ph=0)(hm:c.mem.length≤1000000)(hn:c.bus.length≤800000)(hrt:c.retired.length≤900000)(hst:c.stores.length≤900000):Calls Tryz.prog 23 #[.pointer (some ⟨g,0,none⟩)] w fun e w'=>e= .returned (.tuple #[])∧∃ c',RetiresR c c'∧MP w0 w g κ c' w':=by
 have H:=St'.start M
 have HP:=Lib.hid hp
 have HM:=Lib.hid hm
 have HN:=Lib.hid hn
 have HRt:=Lib.hid hrt
 have HSt:=Lib.hid hst
 obtain⟨W,hW,hW2⟩:∃ W:Nat,c.conf.width=(W:Int)∧W≤2:=by
  unfold rightF wi at hf
  simp only[Bool.and_eq_true,decide_eq_true_eq]at hf
  exact⟨c.conf.width.toNat,by omega,by omega⟩
 have HWd:=Lib.hid hW
 clear M hf hp hm hn hrt hst hW
 go_enter Tryz.func23,Tryz.ntmps23
 go_wp2_with (first|((with_reducible refine gL 3 10 ?_);refine st_ld1 rfl one3 H _ rfl 1 rfl (.int .i64 (W:Int)) ((coC_1 _ _).trans (by rw[HWd.out])) ?_;try simp only[Act.put,xA,xB,xC,fR])|fail)
 go_loopw [12] (fun i wr=>∃(k:Nat) (x:Co) (κ':Nat→Nat) (s':Ss),k≤W∧i= .int .i64 (k:Int)∧Hid (Rts c k x)∧St' w0 w wr g κ κ' x s' []) (fun i _=>W-(intOf i).toNat)
 case atStart=>exact⟨0,c,κ,s,Nat.zero_le _,rfl,Lib.hid ⟨[],rfl,rfl⟩,H⟩
 case round=>
  clear H
  obtain⟨k,x,κ',s',hk,rfl,HX,H⟩:=hrel
  by_cases hlt:k<W
  ·have hK:=HX.out.keep
   have XP:=Lib.hid (show x.ph=0 from hK.ph.trans HP.out)
   have XM:=Lib.hid (show x.mem.length≤1000000 by rw[hK.mem];exact HM.out)
   have XN:=Lib.hid (show x.bus.length≤800002 by have:=hK.bus;have:=HN.out;omega)
   have XRt:=Lib.hid (show x.retired.length≤900002 by have:=hK.retired;have:=HRt.out;omega)
   have XSt:=Lib.hid (show x.stores.length≤900002 by have:=hK.stores;have:=HSt.out;omega)
   have lr:=H.m.r.rob.sl.len
   have ls:=Lib.hid H.m.r.stores.sl.len
   clear hK
   cases g0:(x.halt != 0)with
   | true=>
    have STP:=HX.out.stop (Nat.le_of_lt hlt) (ret_halt (by simpa using g0))
    go_wp2_with (((with_reducible refine gL 3 17 ?_);refine st_ld1 rfl one3 H _ rfl 62 rfl _ (coC_62 _ _) ?_;go_frame))
    ((try simp only[Exit.inBlock,Exit.then]);refine bodyPost_ret (results_none rfl _ _ _) rfl ?_)
    exact⟨rfl,_,STP.retires HWd.out,H.mp⟩
   | false=>
    have xh:=Lib.hid (show x.halt=0 by simpa using g0)
    by_cases hz:s'.rob.n=0
    ·have STP:=HX.out.stop (Nat.le_of_lt hlt) (ret_nil (List.eq_nil_of_length_eq_zero (by omega)))
     have g1:((s'.rob.n:Int)== 0)=true:=by rw[hz];rfl
     clear hz lr
     go_wp2_with (first|((with_reducible refine gL 3 17 ?_);refine st_ld1 rfl one3 H _ rfl 62 rfl _ (coC_62 _ _) ?_;go_frame)|((with_reducible refine gL 31 24 ?_);refine sTj rfl ?_;refine wp_ld1 one31 H _ rfl 48 rfl _ (coC_48 _ _) ?_;go_frame))
     ((try simp only[Exit.inBlock,Exit.then]);refine bodyPost_ret (results_none rfl _ _ _) rfl ?_)
     exact⟨rfl,_,STP.retires HWd.out,H.mp⟩
    ·obtain⟨r,off,e0⟩:=H.robat (by omega)
     rw[e0]at H
     clear e0
     generalize s'.rob.n=n at H hz lr
     generalize s'.rob.c=C at H
     obtain⟨r',off',cur,y,eA,_,_,_,hy,hcl⟩:=H.m.entry (i:=0) (by omega)
     cases eA
     obtain⟨l,hl⟩:∃ l,x.rob=y::l:=by
      cases h:x.rob with
      | nil=>rw[h]at hy;cases hy
      | cons a l=>rw[h]at hy;cases hy;exact⟨l,rfl⟩
     have HXR:=Lib.hid hl
     have HC:=Lib.hid (show ∀ j v,(enC y)[j]?=some v→wr.cell? ⟨r,off+j,none⟩=some v from fun j v hv=>by have:=hcl j v hv;simpa using this)
     have HC4:=Lib.hid (HC.out 8 (.int .i64 y.is) rfl)
     have g1:((n:Int)== 0)=false:=by simp;exact hz
     have b3':(0:Int)≤0:=Int.le_refl _
     have b4':(0:Int)<(n:Int):=by omega
     have b5':0<n:=by omega
     clear hy hcl hl hz lr
     cases g2:(y.is != 3)with
     | true=>
      have STP:=HX.out.stop (Nat.le_of_lt hlt) (ret_wait HXR.out (by simpa using g2))
      go_wp2_with (first|((with_reducible refine gL 3 36 ?_);refine sTj rfl ?_;refine wp_lone one3 _ rfl ⟨r,off+8,none⟩ rfl (.int .i64 y.is) HC4.out ?_;try simp only[Act.put,xA,xB,xC,fR])|((with_reducible refine gL 3 17 ?_);refine st_ld1 rfl one3 H _ rfl 62 rfl _ (coC_62 _ _) ?_;go_frame)|((with_reducible refine gL 31 24 ?_);refine sTj rfl ?_;refine wp_ld1 one31 H _ rfl 48 rfl _ (coC_48 _ _) ?_;go_frame)|((with_reducible refine gL 31 33 ?_);refine sTj rfl ?_;refine wp_ld1 one31 H _ rfl 48 rfl _ (coC_48 _ _) ?_;go_frame))
      ((try simp only[Exit.inBlock,Exit.then]);refine bodyPost_ret (results_none rfl _ _ _) rfl ?_)
      exact⟨rfl,_,STP.retires HWd.out,H.mp⟩
     | false=>
      have G2:=Lib.hid (show y.is=3 by simpa using g2)
      obtain⟨st,hst⟩:∃ st,toldE y=st:=⟨_,rfl⟩
      have HST:=Lib.hid hst
      clear hst
      cases g3:(st.halt != 0)with
      | true=>
       have E:=ret_end xh.out HXR.out G2.out (by rw[HST.out];simpa using g3) newG
       rw[HST.out]at E
       have STP:=(HX.out.next newG).stop hlt (by rw[E];exact ret_halt (by show st.halt≠0;simpa using g3))
       rw[E]at STP
       clear E
       go_wp2_with (first|((with_reducible refine gL 3 36 ?_);refine sTj rfl ?_;refine wp_lone one3 _ rfl ⟨r,off+8,none⟩ rfl (.int .i64 y.is) HC4.out ?_;try simp only[Act.put,xA,xB,xC,fR])|((with_reducible refine gL 85 45 ?_);refine st_lrow rfl row85 _ rfl r off rfl (enC y) rfl HC.out ?_;try simp only[Act.put,xA,xB,xC,fR])|((with_reducible refine gL 3 17 ?_);refine st_ld1 rfl one3 H _ rfl 62 rfl _ (coC_62 _ _) ?_;go_frame)|((with_reducible refine gL 31 24 ?_);refine sTj rfl ?_;refine wp_ld1 one31 H _ rfl 48 rfl _ (coC_48 _ _) ?_;go_frame)|((with_reducible refine gL 31 33 ?_);refine sTj rfl ?_;refine wp_ld1 one31 H _ rfl 48 rfl _ (coC_48 _ _) ?_;go_frame)|((with_reducible refine gL 31 43 ?_);refine st_ld1 rfl one31 H _ rfl 48 rfl _ (coC_48 _ _) ?_;go_frame)|((with_reducible refine gAl 85 ?_);refine st_al rfl (enC enZ) zero85 H rfl ?_;clear H;intro w1 b2 κ1 H;go_frame)|((with_reducible refine gS 85 2 ?_);refine st_slw rfl cel85 _ _ _ H _ _ rfl rfl _ rfl rfl rfl rfl ?_;clear H;intro w1 ho1 H;go_frame)|((with_reducible refine gL 85 2 ?_);refine st_llr rfl row85 H _ rfl _ 0 rfl _ 85 mm0 _ rfl (Sub.all _) ?_;go_frame)|((with_reducible refine gAl 58 ?_);refine st_al rfl (stC stZ) zero58 H rfl ?_;clear H;intro w1 b3 κ1 H;go_frame)|((with_reducible refine gS 58 3 ?_);refine st_slw rfl cel58 _ _ _ H _ _ rfl rfl _ rfl rfl rfl rfl ?_;clear H;intro w1 ho1 H;go_frame)|((with_reducible refine gL 3 49 ?_);refine st_ll1 rfl one3 H _ rfl _ 7 rfl _ 58 mm0 _ (stC_7 _) ?_;go_frame)|(go_at_call 58;refine(told_any y _).mono ?_;rw[HST.out];rintro r1 w1 ⟨rfl,hb⟩;replace H:=H.below hb))
       go_wp2_with fail
       refine beginE 8 (l0:=zz13) H (by kernel_rfl) ?_ (by kernel_rfl);clear H;intro H
       iterate 5 refine rP ⟨_,H⟩ ?_;go_frame
       refine tC 5 57 rfl (by kernel_rfl) iQ (by(exact yields_one one40 rfl _ rfl _ rfl _ (fun w h=>(h.cell 63).trans (coC_63 _ _)))) ⟨_,H⟩ ?_;go_frame
       refine tC 6 58 rfl (by kernel_rfl) iQ (by(exact yields_row row58 rfl _ rfl _ _ rfl _ rfl (fun w h j v hj=>(h.lcell mm0 _).trans (Sub.all _ j v hj)))) ⟨_,H⟩ ?_;go_frame
       refine o1C 7 59 (fun K hK=>?_)
       refine step_Sbs rfl slT40 (by decide) (stC st) H _ rfl rfl rfl ?_;intro w1 bl κ2 HL;clear H;have H:=HL.drop
       refine hK.out _ _ (fun _=>⟨_,H⟩) ?_;clear hK K;go_frame
       refine o1C 8 60 (fun K hK=>?_)
       refine step_ap slT40 stC_size stC_ones HL.m.r.lt (by decide) (by decide) (HL.m.r.retired) HL.m.r.bl.size (by have:=XRt.out;show x.retired.length+1≤1000000;omega) rfl _ _ rfl rfl st bl 1 rfl (HL.lc _ mm0).1 ?_;intro g' C' w1 κ3 tr ap;have HMd:=HL.toMd tr (by decide) (by decide) (by decide) (HL.m.r.tr_retired tr ⟨some ⟨g',0,none⟩,_,C'⟩ (x.retired++[st]) ap);clear H HL ap tr
       refine hK.out _ _ (aB rfl) ?_;clear hK K;go_frame
       iterate 3 refine rQ rfl ?_;go_frame
       refine o1N 12 (fun K hK=>?_)
       refine step_sb rfl cel40 HMd.drop _ _ rfl 63 rfl _ rfl rfl rfl (by decide) (coU_retired _ _ (x.retired++[st]) (some ⟨g',0,none⟩) _ C') ?_;intro w1 H;clear HMd
       refine hK.out _ _ (aB rfl) ?_;clear hK K;go_frame
       refine dnC ?_ _
       go_wp2_with (first|((with_reducible refine gL 3 65 ?_);refine st_ll1 rfl one3 H _ rfl _ 7 rfl _ 58 mm0 _ (stC_7 _) ?_;go_frame)|((with_reducible refine gS 3 69 ?_);refine st_sb rfl cel3 (H.md (H.m.r.s_halt _)) _ _ rfl 62 rfl _ rfl rfl rfl (by decide) (coU_halt _ _ _) ?_;clear H;intro w1 H;go_frame)|((with_reducible refine gS 31 73 ?_);refine st_sb rfl cel31 (H.md (H.m.r.s_rob ⟨none,0,0⟩ [] (Rw.nil _ _ _ _ _ _))) _ _ rfl 48 rfl _ rfl rfl rfl (by decide) (coU_rob _ _ [] none 0 0) ?_;clear H;intro w1 H;try simp only[Act.put,xA,xB,xC,fR])|((with_reducible refine gS 30 77 ?_);refine st_sb rfl cel30 (H.md (H.m.r.s_fetched ⟨none,0,0⟩ [] (Fet.nil _ _ _ _))) _ _ rfl 47 rfl _ rfl rfl rfl (by decide) (coU_fetched _ _ [] none 0 0) ?_;clear H;intro w1 H;try simp only[Act.put,xA,xB,xC,fR])|((with_reducible refine gS 4 81 ?_);refine st_sb rfl cel4 (H.md (H.m.r.s_stop _)) _ _ rfl 46 rfl _ rfl rfl rfl (by decide) (coU_stop _ _ _) ?_;clear H;intro w1 H;go_frame))
       ((try simp only[Exit.inBlock,Exit.then]);refine bodyPost_ret (results_none rfl _ _ _) rfl ?_)
       exact⟨rfl,_,STP.retires HWd.out,H.mp⟩
      | false=>
       have G3:=Lib.hid (show(toldE y).halt=0 by rw[HST.out];simpa using g3)
       obtain⟨po,pok,hpo⟩:∃ po pok,stoP st=(po,pok):=⟨_,_,rfl⟩
       have HPO:=Lib.hid hpo
       clear hpo
       cases g4:st.store with
       | true=>
        have G4:=Lib.hid g4
        cases g5:decide (x.conf.stores≤(s'.stores.n:Int))with
        | true=>
         have STP:=HX.out.stop (Nat.le_of_lt hlt) (ret_full xh.out HXR.out G2.out G3.out ⟨by rw[HST.out];exact g4,by have:=of_decide_eq_true g5;have:=ls.out;omega⟩)
         go_wp2_with (first|((with_reducible refine gL 3 36 ?_);refine sTj rfl ?_;refine wp_lone one3 _ rfl ⟨r,off+8,none⟩ rfl (.int .i64 y.is) HC4.out ?_;try simp only[Act.put,xA,xB,xC,fR])|((with_reducible refine gL 85 45 ?_);refine st_lrow rfl row85 _ rfl r off rfl (enC y) rfl HC.out ?_;try simp only[Act.put,xA,xB,xC,fR])|((with_reducible refine gL 3 17 ?_);refine st_ld1 rfl one3 H _ rfl 62 rfl _ (coC_62 _ _) ?_;go_frame)|((with_reducible refine gL 31 24 ?_);refine sTj rfl ?_;refine wp_ld1 one31 H _ rfl 48 rfl _ (coC_48 _ _) ?_;go_frame)|((with_reducible refine gL 31 33 ?_);refine sTj rfl ?_;refine wp_ld1 one31 H _ rfl 48 rfl _ (coC_48 _ _) ?_;go_frame)|((with_reducible refine gL 31 43 ?_);refine st_ld1 rfl one31 H _ rfl 48 rfl _ (coC_48 _ _) ?_;go_frame)|((with_reducible refine gAl 85 ?_);refine st_al rfl (enC enZ) zero85 H rfl ?_;clear H;intro w1 b2 κ1 H;go_frame)|((with_reducible refine gS 85 2 ?_);refine st_slw rfl cel85 _ _ _ H _ _ rfl rfl _ rfl rfl rfl rfl ?_;clear H;intro w1 ho1 H;go_frame)|((with_reducible refine gL 85 2 ?_);refine st_llr rfl row85 H _ rfl _ 0 rfl _ 85 mm0 _ rfl (Sub.all _) ?_;go_frame)|((with_reducible refine gAl 58 ?_);refine st_al rfl (stC stZ) zero58 H rfl ?_;clear H;intro w1 b3 κ1 H;go_frame)|((with_reducible refine gS 58 3 ?_);refine st_slw rfl cel58 _ _ _ H _ _ rfl rfl _ rfl rfl rfl rfl ?_;clear H;intro w1 ho1 H;go_frame)|((with_reducible refine gL 3 49 ?_);refine st_ll1 rfl one3 H _ rfl _ 7 rfl _ 58 mm0 _ (stC_7 _) ?_;go_frame)|(go_at_call 58;refine(told_any y _).mono ?_;rw[HST.out];rintro r1 w1 ⟨rfl,hb⟩;replace H:=H.below hb))
         go_wp2_with fail
         refine beginS 16 (l0:=zz17) H (by kernel_rfl) ?_ (by kernel_rfl);clear H;intro H
         refine tP 0 82 H ?_;go_frame
         refine tC 1 83 rfl (by kernel_rfl) iQ (by exact yields_one one4 rfl _ rfl _ rfl (.bool true) (fun w h=>(h.lcell mm0 6).trans (by rw[stC_6,G4.out]))) H ?_;go_frame
         iterate 5 refine rP H ?_;go_frame
         refine tC 7 89 rfl (by kernel_rfl) iQ (by(exact yieldsG_one (by rfl) one32 _ rfl _ rfl _ (fun w h=>(h.cell 50).trans (coC_50 _ _)))) H ?_;go_frame
         iterate 6 refine rP H ?_;go_frame
         refine tC 14 96 rfl (by kernel_rfl) iQ (by(exact yieldsG_one (by rfl) one3 _ rfl _ rfl _ (fun w h=>(h.cell 4).trans (coC_4 _ _)))) H ?_;go_frame
         refine tP 15 97 H ?_;go_frame
         refine o1C 16 98 (fun K hK=>?_)
         refine step_v rfl (v:=?vr2_16) ?hyr2_16 ?restr2_16
         case hyr2_16=>(go_simp;try(with_reducible rfl))
         refine hK.out _ _ (aB rfl) ?_;clear hK K;go_frame
         refine dnC ?_ _
         go_wp2
         ((try simp only[Exit.inBlock,Exit.then]);refine bodyPost_ret (results_none rfl _ _ _) rfl ?_)
         exact⟨rfl,_,STP.retires HWd.out,H.mp⟩
        | false=>
         have HGO:=Lib.hid (ret_goes xh.out HXR.out G2.out G3.out (fun h=>by have:=of_decide_eq_false g5;have:=ls.out;have:=h.2;omega))
         go_wp2_with (first|((with_reducible refine gL 3 36 ?_);refine sTj rfl ?_;refine wp_lone one3 _ rfl ⟨r,off+8,none⟩ rfl (.int .i64 y.is) HC4.out ?_;try simp only[Act.put,xA,xB,xC,fR])|((with_reducible refine gL 85 45 ?_);refine st_lrow rfl row85 _ rfl r off rfl (enC y) rfl HC.out ?_;try simp only[Act.put,xA,xB,xC,fR])|((with_reducible refine gL 3 17 ?_);refine st_ld1 rfl one3 H _ rfl 62 rfl _ (coC_62 _ _) ?_;go_frame)|((with_reducible refine gL 31 24 ?_);refine sTj rfl ?_;refine wp_ld1 one31 H _ rfl 48 rfl _ (coC_48 _ _) ?_;go_frame)|((with_reducible refine gL 31 33 ?_);refine sTj rfl ?_;refine wp_ld1 one31 H _ rfl 48 rfl _ (coC_48 _ _) ?_;go_frame)|((with_reducible refine gL 31 43 ?_);refine st_ld1 rfl one31 H _ rfl 48 rfl _ (coC_48 _ _) ?_;go_frame)|((with_reducible refine gAl 85 ?_);refine st_al rfl (enC enZ) zero85 H rfl ?_;clear H;intro w1 b2 κ1 H;go_frame)|((with_reducible refine gS 85 2 ?_);refine st_slw rfl cel85 _ _ _ H _ _ rfl rfl _ rfl rfl rfl rfl ?_;clear H;intro w1 ho1 H;go_frame)|((with_reducible refine gL 85 2 ?_);refine st_llr rfl row85 H _ rfl _ 0 rfl _ 85 mm0 _ rfl (Sub.all _) ?_;go_frame)|((with_reducible refine gAl 58 ?_);refine st_al rfl (stC stZ) zero58 H rfl ?_;clear H;intro w1 b3 κ1 H;go_frame)|((with_reducible refine gS 58 3 ?_);refine st_slw rfl cel58 _ _ _ H _ _ rfl rfl _ rfl rfl rfl rfl ?_;clear H;intro w1 ho1 H;go_frame)|((with_reducible refine gL 3 49 ?_);refine st_ll1 rfl one3 H _ rfl _ 7 rfl _ 58 mm0 _ (stC_7 _) ?_;go_frame)|(go_at_call 58;refine(told_any y _).mono ?_;rw[HST.out];rintro r1 w1 ⟨rfl,hb⟩;replace H:=H.below hb))
         go_wp2_with fail
         refine beginS 16 (l0:=zz17) H (by kernel_rfl) ?_ (by kernel_rfl);clear H;intro H
         refine tP 0 82 H ?_;go_frame
         refine tC 1 83 rfl (by kernel_rfl) iQ (by exact yields_one one4 rfl _ rfl _ rfl (.bool true) (fun w h=>(h.lcell mm0 6).trans (by rw[stC_6,G4.out]))) H ?_;go_frame
         iterate 5 refine rP H ?_;go_frame
         refine tC 7 89 rfl (by kernel_rfl) iQ (by(exact yieldsG_one (by rfl) one32 _ rfl _ rfl _ (fun w h=>(h.cell 50).trans (coC_50 _ _)))) H ?_;go_frame
         iterate 6 refine rP H ?_;go_frame
         refine tC 14 96 rfl (by kernel_rfl) iQ (by(exact yieldsG_one (by rfl) one3 _ rfl _ rfl _ (fun w h=>(h.cell 4).trans (coC_4 _ _)))) H ?_;go_frame
         refine tP 15 97 H ?_;go_frame
         refine o1C 16 98 (fun K hK=>?_)
         refine step_v rfl (v:=?vr3_16) ?hyr3_16 ?restr3_16
         case hyr3_16=>(go_simp;try(with_reducible rfl))
         refine hK.out _ _ (aB rfl) ?_;clear hK K;go_frame
         refine dnC ?_ _
         go_wp2_with fail
         go_wp2_with fail
         refine beginE 8 (l0:=zz13) H (by kernel_rfl) ?_ (by kernel_rfl);clear H;intro H
         iterate 5 refine rP ⟨_,H⟩ ?_;go_frame
         refine tC 5 104 rfl (by kernel_rfl) iQ (by(exact yields_one one40 rfl _ rfl _ rfl _ (fun w h=>(h.cell 63).trans (coC_63 _ _)))) ⟨_,H⟩ ?_;go_frame
         refine tC 6 105 rfl (by kernel_rfl) iQ (by(exact yields_row row58 rfl _ rfl _ _ rfl _ rfl (fun w h j v hj=>(h.lcell mm0 _).trans (Sub.all _ j v hj)))) ⟨_,H⟩ ?_;go_frame
         refine o1C 7 106 (fun K hK=>?_)
         refine step_Sbs rfl slT40 (by decide) (stC st) H _ rfl rfl rfl ?_;intro w1 bl κ2 HL;clear H;have H:=HL.drop
         refine hK.out _ _ (fun _=>⟨_,H⟩) ?_;clear hK K;go_frame
         refine o1C 8 107 (fun K hK=>?_)
         refine step_ap slT40 stC_size stC_ones HL.m.r.lt (by decide) (by decide) (HL.m.r.retired) HL.m.r.bl.size (by have:=XRt.out;show x.retired.length+1≤1000000;omega) rfl _ _ rfl rfl st bl 1 rfl (HL.lc _ mm0).1 ?_;intro g' C' w1 κ3 tr ap;have HMd:=HL.toMd tr (by decide) (by decide) (by decide) (HL.m.r.tr_retired tr ⟨some ⟨g',0,none⟩,_,C'⟩ (x.retired++[st]) ap);clear H HL ap tr
         refine hK.out _ _ (aB rfl) ?_;clear hK K;go_frame
         iterate 3 refine rQ rfl ?_;go_frame
         refine o1N 12 (fun K hK=>?_)
         refine step_sb rfl cel40 HMd.drop _ _ rfl 63 rfl _ rfl rfl rfl (by decide) (coU_retired _ _ (x.retired++[st]) (some ⟨g',0,none⟩) _ C') ?_;intro w1 H;clear HMd
         refine hK.out _ _ (aB rfl) ?_;clear hK K;go_frame
         refine dnC ?_ _
         cases pok with
         | true=>
          have HSO:=Lib.hid (show storedS st=some po from stoq_some HPO.out)
          cases e3:(kd y.i.op== 3)
          case' true=>
           go_wp2_with (first|((with_reducible refine gL 58 3 ?_);refine st_llr rfl row58 H _ rfl _ 0 rfl _ 58 mm0 _ rfl (Sub.all _) ?_;go_frame)|((with_reducible refine gAl 89 ?_);refine st_al rfl (ptC ptZ) zero89 H rfl ?_;clear H;intro w1 b4 κ1 H;go_frame)|((with_reducible refine gS 89 4 ?_);refine st_slw rfl cel89 _ _ _ H _ _ rfl rfl _ rfl rfl rfl rfl ?_;clear H;intro w1 ho1 H;go_frame)|(go_at_call 59;refine(stored_any st _).mono ?_;rw[HPO.out];rintro r1 w1 ⟨rfl,hb⟩;replace H:=H.below hb))
           go_wp2_with fail
           refine beginE 8 (l0:=zz13) H (by kernel_rfl) ?_ (by kernel_rfl);clear H;intro H
           iterate 5 refine rP ⟨_,H⟩ ?_;go_frame
           refine tC 5 122 rfl (by kernel_rfl) iQ (by(exact yields_one one32 rfl _ rfl _ rfl _ (fun w h=>(h.cell 50).trans (coC_50 _ _)))) ⟨_,H⟩ ?_;go_frame
           refine tC 6 123 rfl (by kernel_rfl) iQ (by(exact yields_row row89 rfl _ rfl _ _ rfl _ rfl (fun w h j v hj=>(h.lcell mm0 _).trans (Sub.all _ j v hj)))) ⟨_,H⟩ ?_;go_frame
           refine o1C 7 124 (fun K hK=>?_)
           refine step_Sbs rfl slT32' (by decide) (ptC po) H _ rfl rfl rfl ?_;intro w1 bl κ2 HL;clear H;have H:=HL.drop
           refine hK.out _ _ (fun _=>⟨_,H⟩) ?_;clear hK K;go_frame
           refine o1C 8 125 (fun K hK=>?_)
           refine step_ap slT32' ptC_size ptC_ones HL.m.r.lt (by decide) (by decide) (HL.m.r.stores.ap (by show x.ph≤1;rw[XP.out];decide)) HL.m.r.bl.size (by have:=XSt.out;show x.stores.length+1≤1000000;omega) rfl _ _ rfl rfl po bl 1 rfl (HL.lc _ mm0).1 ?_;intro g' C' w1 κ3 tr ap;have HMd:=HL.toMd tr (by decide) (by decide) (by decide) (HL.m.r.tr_stores tr ⟨some ⟨g',0,none⟩,_,C'⟩ (x.stores++[po]) (Ap.sto ap));clear H HL ap tr
           refine hK.out _ _ (aB rfl) ?_;clear hK K;go_frame
           iterate 3 refine rQ rfl ?_;go_frame
           refine o1N 12 (fun K hK=>?_)
           refine step_sb rfl cel32 HMd.drop _ _ rfl 50 rfl _ rfl rfl rfl (by decide) (coU_stores _ _ (x.stores++[po]) (some ⟨g',0,none⟩) _ C') ?_;intro w1 H;clear HMd
           refine hK.out _ _ (aB rfl) ?_;clear hK K;go_frame
           refine dnC ?_ _
           go_wp2_with (first|((with_reducible refine gL 83 129 ?_);refine st_llr rfl row83 H _ rfl _ 2 rfl _ 85 mm2 (inC _) rfl (sub_inst _) ?_;go_frame)|((with_reducible refine gL 28 134 ?_);refine st_ll1 rfl one28 H _ rfl _ 4 rfl _ 58 mm1 _ (stC_4 _) ?_;go_frame)|(go_at_call 52;refine(kind_any y.i.op y.i.rd y.i.r1 y.i.r2 y.i.imm.v _).mono ?_;rintro r w1 ⟨rfl,hb⟩;replace H:=H.below hb)|(go_at_call 49;(refine(bring_m w0 _ g _ _ _ st.addr H.m XM.out (by have:=XN.out;show x.bus.length≤900000;omega)).mono ?_);rintro r w1 ⟨rfl,hmp⟩;obtain⟨κ2,s2,H1⟩:=H.mpc hmp;clear hmp;clear H;have H:=H1;clear H1))
           obtain⟨x2,hx2⟩:∃ x2,x2=(bringC { x with retired:=x.retired++[st],stores:=x.stores++[po] } st.addr:Co):=⟨_,rfl⟩
           obtain⟨s4,κ4,H1⟩:∃ s4 κ4,St' w0 w w1 g κ κ4 x2 s4 _:=⟨_,_,by rw[hx2];exact H⟩
           clear H
           have H:=H1
           clear H1
           have HR2:=Lib.hid (show x2.rob=y::l by rw[hx2];exact HXR.out)
           have hrn:1≤s4.rob.n:=by have:=H.m.r.rob.sl.len;rw[HR2.out,List.length_cons]at this;omega
           have EX:=Lib.hid (show ∀ gg,retire1 gg x={ x2 with regs:=applyR x2.regs st,guess:=gg,rob:=l } from fun gg=>by
            rw[HGO.out gg,hx2]
            unfold retC
            simp only[HST.out,HSO.out]
            rw[if_pos (by simpa using e3)]
            rfl)
          case' false=>
           go_wp2_with (first|((with_reducible refine gL 58 3 ?_);refine st_llr rfl row58 H _ rfl _ 0 rfl _ 58 mm0 _ rfl (Sub.all _) ?_;go_frame)|((with_reducible refine gAl 89 ?_);refine st_al rfl (ptC ptZ) zero89 H rfl ?_;clear H;intro w1 b4 κ1 H;go_frame)|((with_reducible refine gS 89 4 ?_);refine st_slw rfl cel89 _ _ _ H _ _ rfl rfl _ rfl rfl rfl rfl ?_;clear H;intro w1 ho1 H;go_frame)|(go_at_call 59;refine(stored_any st _).mono ?_;rw[HPO.out];rintro r1 w1 ⟨rfl,hb⟩;replace H:=H.below hb))
           go_wp2_with fail
           refine beginE 8 (l0:=zz13) H (by kernel_rfl) ?_ (by kernel_rfl);clear H;intro H
           iterate 5 refine rP ⟨_,H⟩ ?_;go_frame
           refine tC 5 122 rfl (by kernel_rfl) iQ (by(exact yields_one one32 rfl _ rfl _ rfl _ (fun w h=>(h.cell 50).trans (coC_50 _ _)))) ⟨_,H⟩ ?_;go_frame
           refine tC 6 123 rfl (by kernel_rfl) iQ (by(exact yields_row row89 rfl _ rfl _ _ rfl _ rfl (fun w h j v hj=>(h.lcell mm0 _).trans (Sub.all _ j v hj)))) ⟨_,H⟩ ?_;go_frame
           refine o1C 7 124 (fun K hK=>?_)
           refine step_Sbs rfl slT32' (by decide) (ptC po) H _ rfl rfl rfl ?_;intro w1 bl κ2 HL;clear H;have H:=HL.drop
           refine hK.out _ _ (fun _=>⟨_,H⟩) ?_;clear hK K;go_frame
           refine o1C 8 125 (fun K hK=>?_)
           refine step_ap slT32' ptC_size ptC_ones HL.m.r.lt (by decide) (by decide) (HL.m.r.stores.ap (by show x.ph≤1;rw[XP.out];decide)) HL.m.r.bl.size (by have:=XSt.out;show x.stores.length+1≤1000000;omega) rfl _ _ rfl rfl po bl 1 rfl (HL.lc _ mm0).1 ?_;intro g' C' w1 κ3 tr ap;have HMd:=HL.toMd tr (by decide) (by decide) (by decide) (HL.m.r.tr_stores tr ⟨some ⟨g',0,none⟩,_,C'⟩ (x.stores++[po]) (Ap.sto ap));clear H HL ap tr
           refine hK.out _ _ (aB rfl) ?_;clear hK K;go_frame
           iterate 3 refine rQ rfl ?_;go_frame
           refine o1N 12 (fun K hK=>?_)
           refine step_sb rfl cel32 HMd.drop _ _ rfl 50 rfl _ rfl rfl rfl (by decide) (coU_stores _ _ (x.stores++[po]) (some ⟨g',0,none⟩) _ C') ?_;intro w1 H;clear HMd
           refine hK.out _ _ (aB rfl) ?_;clear hK K;go_frame
           refine dnC ?_ _
           go_wp2_with (first|((with_reducible refine gL 83 129 ?_);refine st_llr rfl row83 H _ rfl _ 2 rfl _ 85 mm2 (inC _) rfl (sub_inst _) ?_;go_frame)|(go_at_call 52;refine(kind_any y.i.op y.i.rd y.i.r1 y.i.r2 y.i.imm.v _).mono ?_;rintro r w1 ⟨rfl,hb⟩;replace H:=H.below hb))
           obtain⟨x2,hx2⟩:∃ x2,x2=({ x with retired:=x.retired++[st],stores:=x.stores++[po] }:Co):=⟨_,rfl⟩
           obtain⟨s4,κ4,H1⟩:∃ s4 κ4,St' w0 w w1 g κ κ4 x2 s4 _:=⟨_,_,by rw[hx2];exact H⟩
           clear H
           have H:=H1
           clear H1
           have HR2:=Lib.hid (show x2.rob=y::l by rw[hx2];exact HXR.out)
           have hrn:1≤s4.rob.n:=by have:=H.m.r.rob.sl.len;rw[HR2.out,List.length_cons]at this;omega
           have EX:=Lib.hid (show ∀ gg,retire1 gg x={ x2 with regs:=applyR x2.regs st,guess:=gg,rob:=l } from fun gg=>by
            rw[HGO.out gg,hx2]
            unfold retC
            simp only[HST.out,HSO.out]
            rw[if_neg (by simpa using e3)]
            rfl)
          all_goals
           clear hx2
           go_wp2_with fail
           refine beginS 7 (l0:=zz12) H (by kernel_rfl) ?_ (by kernel_rfl);clear H;intro H
           iterate 5 refine rP H ?_;go_frame
           refine tC 5 142 rfl (by kernel_rfl) iQ (by(exact yields_row row29 rfl _ rfl _ _ rfl _ rfl (fun w h j v hj=>(h.cell _).trans (sub_regs _ _ j v hj)))) H ?_;go_frame
           refine tC 6 143 rfl (by kernel_rfl) iQ (by(exact yields_row row58 rfl _ rfl _ _ rfl _ rfl (fun w h j v hj=>(h.lcell mm1 _).trans (Sub.all _ j v hj)))) H ?_;go_frame
           refine o1C 7 144 (fun K hK=>?_)
           refine step_fn rfl _ _ _ (apply_any x2.regs H.m.r.regs st _) (by go_simp<;>rfl) ?_;rintro r w1 ⟨rfl,hb⟩;refine⟨_,rfl,?_⟩;replace H:=H.below hb
           refine hK.out _ _ (aB rfl) ?_;clear hK K;go_frame
           iterate 3 refine rQ rfl ?_;go_frame
           refine o1N 11 (fun K hK=>?_)
           refine step_sb rfl cel29 (H.md (H.m.r.s_regs (applyR x2.regs st) ((applyR_len _ _).trans H.m.r.regs))) _ _ rfl 13 rfl _ rfl rfl (rgC_ones _) (by decide) (coU_regs _ _ (applyR x2.regs st)) ?_;clear H;intro w1 H
           refine hK.out _ _ (aB rfl) ?_;clear hK K;go_frame
           refine dnC ?_ _
           go_wp2_with fail
           go_wp2_with fail
           refine beginS 12 (l0:=zz17) H (by kernel_rfl) ?_ (by kernel_rfl);clear H;intro H
           iterate 5 refine rP H ?_;go_frame
           refine tC 5 153 rfl (by kernel_rfl) iQ (by(exact yields_row row39 rfl _ rfl _ _ rfl _ rfl (fun w h j v hj=>(h.cell _).trans (sub_guess _ _ j v hj)))) H ?_;go_frame
           refine tP 6 154 H ?_;go_frame
           refine tC 7 155 rfl (by kernel_rfl) iQ (by(exact yields_one one28 rfl _ rfl _ rfl _ (fun w h=>(h.lcell mm1 0).trans (stC_0 _)))) H ?_;go_frame
           refine tP 8 156 H ?_;go_frame
           refine tC 9 157 rfl (by kernel_rfl) iQ (by(exact yields_one one28 rfl _ rfl _ rfl _ (fun w h=>(h.lcell mm1 1).trans (stC_1 _)))) H ?_;go_frame
           refine tP 10 158 H ?_;go_frame
           refine tC 11 159 rfl (by kernel_rfl) iQ (by(exact yields_row row83 rfl _ rfl _ _ rfl _ rfl (fun w h j v hj=>(h.lcell mm2 _).trans (sub_inst _ j v hj)))) H ?_;go_frame
           refine o1C 12 160 (fun K hK=>?_)
           refine step_fn rfl _ _ _ (train_any ⟨s4.slots,x2.guess.history,s4.returns⟩ x2.guess st.pc st.next y.i _ H.m.r.gur) (by go_simp<;>rfl) ?_;unfold GuP;rintro r1 w1 ⟨⟨q1,q2,q3⟩,gg,rfl,hgu,_,hor,hb⟩;refine⟨_,rfl,?_⟩;have qh:=hgu.hist;simp only at qh;subst qh;have Fs9:Rd (fun j=>κ4 j=0) skC 2 w1 q1 gg.slots:=⟨hgu.sl,hgu.wf,gu_av hor (fun q=>by have e:s4.slots=q1:=congrArg Gc.slots q;rw[← e];exact H.m.r.slots.av) (fun q=>H.zero _ q)⟩;have FR:Rd (fun j=>κ4 j=0) u32C 1 w1 q3 gg.returns:=⟨hgu.rl,hgu.rw,gu_av2 hor (fun q=>by have e:s4.returns=q3:=congrArg Gc.returns q;rw[← e];exact H.m.r.returns.av) (fun q=>H.zero _ q)⟩;clear hgu hor;replace H:=H.below hb
           refine hK.out _ _ (aB rfl) ?_;clear hK K;go_frame
           iterate 3 refine rQ rfl ?_;go_frame
           refine o1N 16 (fun K hK=>?_)
           refine step_sb rfl cel39 (H.md (H.m.r.s_guess ⟨q1.a,q1.n,q1.c⟩ ⟨q3.a,q3.n,q3.c⟩ gg Fs9 FR)) _ _ rfl 59 rfl _ rfl rfl rfl (by decide) (coU_guess _ _ gg q1.a q3.a q1.n q1.c q3.n q3.c) ?_;intro w1 H1;clear Fs9 FR H;have H:=H1;clear H1
           refine hK.out _ _ (aB rfl) ?_;clear hK K;go_frame
           refine dnC ?_ _
           go_wp2_with (first|((with_reducible refine gD (Op.slice 31 _ _ _ _) ?_);refine st_tail rfl tl31 _ rfl s4.rob.a s4.rob.c rfl hrn ?_;try simp only[Act.put,xA,xB,xC,fR])|((with_reducible refine gS 31 173 ?_);have q1:Rw κ4 2 enC 17 85 _ s4.rob x2.rob:=H.m.r.rob;rw[HR2.out]at q1;refine st_sb rfl cel31 (H.md (H.m.r.s_rob ⟨tailA s4.rob.a s4.rob.c 17,s4.rob.n-1,s4.rob.c-1⟩ l q1.tl)) _ _ rfl 48 rfl _ rfl rfl rfl (by decide) (coU_rob _ _ l (tailA s4.rob.a s4.rob.c 17) (s4.rob.n-1) (s4.rob.c-1)) ?_;intro w1 H1;clear q1 H;have H:=H1;clear H1;try simp only[Act.put,xA,xB,xC,fR])|((with_reducible refine gL 31 168 ?_);refine st_ld1 rfl one31 H _ rfl 48 rfl _ (coC_48 _ _) ?_;go_frame))
           have HN2:=Lib.hid (HX.out.next gg)
           rw[EX.out]at HN2
           go_roundw
           all_goals first
            | exact⟨k+1,_,_,_,by omega,by go_num,HN2,H.drop.drop.drop⟩|(simp[intOf];omega)
         | false=>
          have HSO:=Lib.hid (show storedS st=none from stoq_no HPO.out)
          cases e3:(kd y.i.op== 3)
          case' true=>
           go_wp2_with (first|((with_reducible refine gL 58 3 ?_);refine st_llr rfl row58 H _ rfl _ 0 rfl _ 58 mm0 _ rfl (Sub.all _) ?_;go_frame)|((with_reducible refine gAl 89 ?_);refine st_al rfl (ptC ptZ) zero89 H rfl ?_;clear H;intro w1 b4 κ1 H;go_frame)|((with_reducible refine gS 89 4 ?_);refine st_slw rfl cel89 _ _ _ H _ _ rfl rfl _ rfl rfl rfl rfl ?_;clear H;intro w1 ho1 H;go_frame)|((with_reducible refine gL 83 129 ?_);refine st_llr rfl row83 H _ rfl _ 2 rfl _ 85 mm2 (inC _) rfl (sub_inst _) ?_;go_frame)|(go_at_call 59;refine(stored_any st _).mono ?_;rw[HPO.out];rintro r1 w1 ⟨rfl,hb⟩;replace H:=H.below hb))
           go_wp2_with (first|((with_reducible refine gL 28 134 ?_);refine st_ll1 rfl one28 H _ rfl _ 4 rfl _ 58 mm1 _ (stC_4 _) ?_;go_frame)|(go_at_call 52;refine(kind_any y.i.op y.i.rd y.i.r1 y.i.r2 y.i.imm.v _).mono ?_;rintro r w1 ⟨rfl,hb⟩;replace H:=H.below hb)|(go_at_call 49;(refine(bring_m w0 _ g _ _ _ st.addr H.m XM.out (by have:=XN.out;show x.bus.length≤900000;omega)).mono ?_);rintro r w1 ⟨rfl,hmp⟩;obtain⟨κ2,s2,H1⟩:=H.mpc hmp;clear hmp;clear H;have H:=H1;clear H1))
           obtain⟨x2,hx2⟩:∃ x2,x2=(bringC { x with retired:=x.retired++[st] } st.addr:Co):=⟨_,rfl⟩
           obtain⟨s4,κ4,H1⟩:∃ s4 κ4,St' w0 w w1 g κ κ4 x2 s4 _:=⟨_,_,by rw[hx2];exact H⟩
           clear H
           have H:=H1
           clear H1
           have HR2:=Lib.hid (show x2.rob=y::l by rw[hx2];exact HXR.out)
           have hrn:1≤s4.rob.n:=by have:=H.m.r.rob.sl.len;rw[HR2.out,List.length_cons]at this;omega
           have EX:=Lib.hid (show ∀ gg,retire1 gg x={ x2 with regs:=applyR x2.regs st,guess:=gg,rob:=l } from fun gg=>by
            rw[HGO.out gg,hx2]
            unfold retC
            simp only[HST.out,HSO.out]
            rw[if_pos (by simpa using e3)]
            simp only[Option.toList_none,List.append_nil])
          case' false=>
           go_wp2_with (first|((with_reducible refine gL 58 3 ?_);refine st_llr rfl row58 H _ rfl _ 0 rfl _ 58 mm0 _ rfl (Sub.all _) ?_;go_frame)|((with_reducible refine gAl 89 ?_);refine st_al rfl (ptC ptZ) zero89 H rfl ?_;clear H;intro w1 b4 κ1 H;go_frame)|((with_reducible refine gS 89 4 ?_);refine st_slw rfl cel89 _ _ _ H _ _ rfl rfl _ rfl rfl rfl rfl ?_;clear H;intro w1 ho1 H;go_frame)|((with_reducible refine gL 83 129 ?_);refine st_llr rfl row83 H _ rfl _ 2 rfl _ 85 mm2 (inC _) rfl (sub_inst _) ?_;go_frame)|(go_at_call 59;refine(stored_any st _).mono ?_;rw[HPO.out];rintro r1 w1 ⟨rfl,hb⟩;replace H:=H.below hb))
           go_wp2_with ((go_at_call 52;refine(kind_any y.i.op y.i.rd y.i.r1 y.i.r2 y.i.imm.v _).mono ?_;rintro r w1 ⟨rfl,hb⟩;replace H:=H.below hb))
           obtain⟨x2,hx2⟩:∃ x2,x2=({ x with retired:=x.retired++[st] }:Co):=⟨_,rfl⟩
           obtain⟨s4,κ4,H1⟩:∃ s4 κ4,St' w0 w w1 g κ κ4 x2 s4 _:=⟨_,_,by rw[hx2];exact H⟩
           clear H
           have H:=H1
           clear H1
           have HR2:=Lib.hid (show x2.rob=y::l by rw[hx2];exact HXR.out)
           have hrn:1≤s4.rob.n:=by have:=H.m.r.rob.sl.len;rw[HR2.out,List.length_cons]at this;omega
           have EX:=Lib.hid (show ∀ gg,retire1 gg x={ x2 with regs:=applyR x2.regs st,guess:=gg,rob:=l } from fun gg=>by
            rw[HGO.out gg,hx2]
            unfold retC
            simp only[HST.out,HSO.out]
            rw[if_neg (by simpa using e3)]
            simp only[Option.toList_none,List.append_nil])
          all_goals
           clear hx2
           go_wp2_with fail
           refine beginS 7 (l0:=zz12) H (by kernel_rfl) ?_ (by kernel_rfl);clear H;intro H
           iterate 5 refine rP H ?_;go_frame
           refine tC 5 142 rfl (by kernel_rfl) iQ (by(exact yields_row row29 rfl _ rfl _ _ rfl _ rfl (fun w h j v hj=>(h.cell _).trans (sub_regs _ _ j v hj)))) H ?_;go_frame
           refine tC 6 143 rfl (by kernel_rfl) iQ (by(exact yields_row row58 rfl _ rfl _ _ rfl _ rfl (fun w h j v hj=>(h.lcell mm1 _).trans (Sub.all _ j v hj)))) H ?_;go_frame
           refine o1C 7 144 (fun K hK=>?_)
           refine step_fn rfl _ _ _ (apply_any x2.regs H.m.r.regs st _) (by go_simp<;>rfl) ?_;rintro r w1 ⟨rfl,hb⟩;refine⟨_,rfl,?_⟩;replace H:=H.below hb
           refine hK.out _ _ (aB rfl) ?_;clear hK K;go_frame
           iterate 3 refine rQ rfl ?_;go_frame
           refine o1N 11 (fun K hK=>?_)
           refine step_sb rfl cel29 (H.md (H.m.r.s_regs (applyR x2.regs st) ((applyR_len _ _).trans H.m.r.regs))) _ _ rfl 13 rfl _ rfl rfl (rgC_ones _) (by decide) (coU_regs _ _ (applyR x2.regs st)) ?_;clear H;intro w1 H
           refine hK.out _ _ (aB rfl) ?_;clear hK K;go_frame
           refine dnC ?_ _
           go_wp2_with fail
           go_wp2_with fail
           refine beginS 12 (l0:=zz17) H (by kernel_rfl) ?_ (by kernel_rfl);clear H;intro H
           iterate 5 refine rP H ?_;go_frame
           refine tC 5 153 rfl (by kernel_rfl) iQ (by(exact yields_row row39 rfl _ rfl _ _ rfl _ rfl (fun w h j v hj=>(h.cell _).trans (sub_guess _ _ j v hj)))) H ?_;go_frame
           refine tP 6 154 H ?_;go_frame
           refine tC 7 155 rfl (by kernel_rfl) iQ (by(exact yields_one one28 rfl _ rfl _ rfl _ (fun w h=>(h.lcell mm1 0).trans (stC_0 _)))) H ?_;go_frame
           refine tP 8 156 H ?_;go_frame
           refine tC 9 157 rfl (by kernel_rfl) iQ (by(exact yields_one one28 rfl _ rfl _ rfl _ (fun w h=>(h.lcell mm1 1).trans (stC_1 _)))) H ?_;go_frame
           refine tP 10 158 H ?_;go_frame
           refine tC 11 159 rfl (by kernel_rfl) iQ (by(exact yields_row row83 rfl _ rfl _ _ rfl _ rfl (fun w h j v hj=>(h.lcell mm2 _).trans (sub_inst _ j v hj)))) H ?_;go_frame
           refine o1C 12 160 (fun K hK=>?_)
           refine step_fn rfl _ _ _ (train_any ⟨s4.slots,x2.guess.history,s4.returns⟩ x2.guess st.pc st.next y.i _ H.m.r.gur) (by go_simp<;>rfl) ?_;unfold GuP;rintro r1 w1 ⟨⟨q1,q2,q3⟩,gg,rfl,hgu,_,hor,hb⟩;refine⟨_,rfl,?_⟩;have qh:=hgu.hist;simp only at qh;subst qh;have Fs9:Rd (fun j=>κ4 j=0) skC 2 w1 q1 gg.slots:=⟨hgu.sl,hgu.wf,gu_av hor (fun q=>by have e:s4.slots=q1:=congrArg Gc.slots q;rw[← e];exact H.m.r.slots.av) (fun q=>H.zero _ q)⟩;have FR:Rd (fun j=>κ4 j=0) u32C 1 w1 q3 gg.returns:=⟨hgu.rl,hgu.rw,gu_av2 hor (fun q=>by have e:s4.returns=q3:=congrArg Gc.returns q;rw[← e];exact H.m.r.returns.av) (fun q=>H.zero _ q)⟩;clear hgu hor;replace H:=H.below hb
           refine hK.out _ _ (aB rfl) ?_;clear hK K;go_frame
           iterate 3 refine rQ rfl ?_;go_frame
           refine o1N 16 (fun K hK=>?_)
           refine step_sb rfl cel39 (H.md (H.m.r.s_guess ⟨q1.a,q1.n,q1.c⟩ ⟨q3.a,q3.n,q3.c⟩ gg Fs9 FR)) _ _ rfl 59 rfl _ rfl rfl rfl (by decide) (coU_guess _ _ gg q1.a q3.a q1.n q1.c q3.n q3.c) ?_;intro w1 H1;clear Fs9 FR H;have H:=H1;clear H1
           refine hK.out _ _ (aB rfl) ?_;clear hK K;go_frame
           refine dnC ?_ _
           go_wp2_with (first|((with_reducible refine gD (Op.slice 31 _ _ _ _) ?_);refine st_tail rfl tl31 _ rfl s4.rob.a s4.rob.c rfl hrn ?_;try simp only[Act.put,xA,xB,xC,fR])|((with_reducible refine gS 31 173 ?_);have q1:Rw κ4 2 enC 17 85 _ s4.rob x2.rob:=H.m.r.rob;rw[HR2.out]at q1;refine st_sb rfl cel31 (H.md (H.m.r.s_rob ⟨tailA s4.rob.a s4.rob.c 17,s4.rob.n-1,s4.rob.c-1⟩ l q1.tl)) _ _ rfl 48 rfl _ rfl rfl rfl (by decide) (coU_rob _ _ l (tailA s4.rob.a s4.rob.c 17) (s4.rob.n-1) (s4.rob.c-1)) ?_;intro w1 H1;clear q1 H;have H:=H1;clear H1;try simp only[Act.put,xA,xB,xC,fR])|((with_reducible refine gL 31 168 ?_);refine st_ld1 rfl one31 H _ rfl 48 rfl _ (coC_48 _ _) ?_;go_frame))
           have HN2:=Lib.hid (HX.out.next gg)
           rw[EX.out]at HN2
           go_roundw
           all_goals first
            | exact⟨k+1,_,_,_,by omega,by go_num,HN2,H.drop.drop.drop⟩|(simp[intOf];omega)
       | false=>
        have G4:=Lib.hid g4
        have HGO:=Lib.hid (ret_goes xh.out HXR.out G2.out G3.out (fun h=>by rw[HST.out,g4]at h;cases h.1))
        go_wp2_with (first|((with_reducible refine gL 3 36 ?_);refine sTj rfl ?_;refine wp_lone one3 _ rfl ⟨r,off+8,none⟩ rfl (.int .i64 y.is) HC4.out ?_;try simp only[Act.put,xA,xB,xC,fR])|((with_reducible refine gL 85 45 ?_);refine st_lrow rfl row85 _ rfl r off rfl (enC y) rfl HC.out ?_;try simp only[Act.put,xA,xB,xC,fR])|((with_reducible refine gL 3 17 ?_);refine st_ld1 rfl one3 H _ rfl 62 rfl _ (coC_62 _ _) ?_;go_frame)|((with_reducible refine gL 31 24 ?_);refine sTj rfl ?_;refine wp_ld1 one31 H _ rfl 48 rfl _ (coC_48 _ _) ?_;go_frame)|((with_reducible refine gL 31 33 ?_);refine sTj rfl ?_;refine wp_ld1 one31 H _ rfl 48 rfl _ (coC_48 _ _) ?_;go_frame)|((with_reducible refine gL 31 43 ?_);refine st_ld1 rfl one31 H _ rfl 48 rfl _ (coC_48 _ _) ?_;go_frame)|((with_reducible refine gAl 85 ?_);refine st_al rfl (enC enZ) zero85 H rfl ?_;clear H;intro w1 b2 κ1 H;go_frame)|((with_reducible refine gS 85 2 ?_);refine st_slw rfl cel85 _ _ _ H _ _ rfl rfl _ rfl rfl rfl rfl ?_;clear H;intro w1 ho1 H;go_frame)|((with_reducible refine gL 85 2 ?_);refine st_llr rfl row85 H _ rfl _ 0 rfl _ 85 mm0 _ rfl (Sub.all _) ?_;go_frame)|((with_reducible refine gAl 58 ?_);refine st_al rfl (stC stZ) zero58 H rfl ?_;clear H;intro w1 b3 κ1 H;go_frame)|((with_reducible refine gS 58 3 ?_);refine st_slw rfl cel58 _ _ _ H _ _ rfl rfl _ rfl rfl rfl rfl ?_;clear H;intro w1 ho1 H;go_frame)|((with_reducible refine gL 3 49 ?_);refine st_ll1 rfl one3 H _ rfl _ 7 rfl _ 58 mm0 _ (stC_7 _) ?_;go_frame)|(go_at_call 58;refine(told_any y _).mono ?_;rw[HST.out];rintro r1 w1 ⟨rfl,hb⟩;replace H:=H.below hb))
        go_wp2_with fail
        refine beginS 16 (l0:=zz17) H (by kernel_rfl) ?_ (by kernel_rfl);clear H;intro H
        refine tP 0 82 H ?_;go_frame
        refine tC 1 83 rfl (by kernel_rfl) iQ (by exact yields_one one4 rfl _ rfl _ rfl (.bool false) (fun w h=>(h.lcell mm0 6).trans (by rw[stC_6,G4.out]))) H ?_;go_frame
        refine tP 2 84 H ?_;go_frame
        refine tU 3 85 H ?_;go_frame
        refine tU 4 86 H ?_;go_frame
        refine tU 5 87 H ?_;go_frame
        refine tU 6 88 H ?_;go_frame
        refine tU 7 89 H ?_;go_frame
        refine tU 8 90 H ?_;go_frame
        refine tU 9 91 H ?_;go_frame
        refine tU 10 92 H ?_;go_frame
        refine tU 11 93 H ?_;go_frame
        refine tU 12 94 H ?_;go_frame
        refine tU 13 95 H ?_;go_frame
        refine tU 14 96 H ?_;go_frame
        refine tU 15 97 H ?_;go_frame
        refine o1C 16 98 (fun K hK=>?_)
        refine step_v rfl (v:=?vr15_16) ?hyr15_16 ?restr15_16
        case hyr15_16=>(go_simp;try(with_reducible rfl))
        refine hK.out _ _ (aB rfl) ?_;clear hK K;go_frame
        refine dnC ?_ _
        go_wp2_with fail
        go_wp2_with fail
        refine beginE 8 (l0:=zz13) H (by kernel_rfl) ?_ (by kernel_rfl);clear H;intro H
        iterate 5 refine rP ⟨_,H⟩ ?_;go_frame
        refine tC 5 104 rfl (by kernel_rfl) iQ (by(exact yields_one one40 rfl _ rfl _ rfl _ (fun w h=>(h.cell 63).trans (coC_63 _ _)))) ⟨_,H⟩ ?_;go_frame
        refine tC 6 105 rfl (by kernel_rfl) iQ (by(exact yields_row row58 rfl _ rfl _ _ rfl _ rfl (fun w h j v hj=>(h.lcell mm0 _).trans (Sub.all _ j v hj)))) ⟨_,H⟩ ?_;go_frame
        refine o1C 7 106 (fun K hK=>?_)
        refine step_Sbs rfl slT40 (by decide) (stC st) H _ rfl rfl rfl ?_;intro w1 bl κ2 HL;clear H;have H:=HL.drop
        refine hK.out _ _ (fun _=>⟨_,H⟩) ?_;clear hK K;go_frame
        refine o1C 8 107 (fun K hK=>?_)
        refine step_ap slT40 stC_size stC_ones HL.m.r.lt (by decide) (by decide) (HL.m.r.retired) HL.m.r.bl.size (by have:=XRt.out;show x.retired.length+1≤1000000;omega) rfl _ _ rfl rfl st bl 1 rfl (HL.lc _ mm0).1 ?_;intro g' C' w1 κ3 tr ap;have HMd:=HL.toMd tr (by decide) (by decide) (by decide) (HL.m.r.tr_retired tr ⟨some ⟨g',0,none⟩,_,C'⟩ (x.retired++[st]) ap);clear H HL ap tr
        refine hK.out _ _ (aB rfl) ?_;clear hK K;go_frame
        iterate 3 refine rQ rfl ?_;go_frame
        refine o1N 12 (fun K hK=>?_)
        refine step_sb rfl cel40 HMd.drop _ _ rfl 63 rfl _ rfl rfl rfl (by decide) (coU_retired _ _ (x.retired++[st]) (some ⟨g',0,none⟩) _ C') ?_;intro w1 H;clear HMd
        refine hK.out _ _ (aB rfl) ?_;clear hK K;go_frame
        refine dnC ?_ _
        cases pok with
        | true=>
         have HSO:=Lib.hid (show storedS st=some po from stoq_some HPO.out)
         cases e3:(kd y.i.op== 3)
         case' true=>
          go_wp2_with (first|((with_reducible refine gL 58 3 ?_);refine st_llr rfl row58 H _ rfl _ 0 rfl _ 58 mm0 _ rfl (Sub.all _) ?_;go_frame)|((with_reducible refine gAl 89 ?_);refine st_al rfl (ptC ptZ) zero89 H rfl ?_;clear H;intro w1 b4 κ1 H;go_frame)|((with_reducible refine gS 89 4 ?_);refine st_slw rfl cel89 _ _ _ H _ _ rfl rfl _ rfl rfl rfl rfl ?_;clear H;intro w1 ho1 H;go_frame)|(go_at_call 59;refine(stored_any st _).mono ?_;rw[HPO.out];rintro r1 w1 ⟨rfl,hb⟩;replace H:=H.below hb))
          go_wp2_with fail
          refine beginE 8 (l0:=zz13) H (by kernel_rfl) ?_ (by kernel_rfl);clear H;intro H
          iterate 5 refine rP ⟨_,H⟩ ?_;go_frame
          refine tC 5 122 rfl (by kernel_rfl) iQ (by(exact yields_one one32 rfl _ rfl _ rfl _ (fun w h=>(h.cell 50).trans (coC_50 _ _)))) ⟨_,H⟩ ?_;go_frame
          refine tC 6 123 rfl (by kernel_rfl) iQ (by(exact yields_row row89 rfl _ rfl _ _ rfl _ rfl (fun w h j v hj=>(h.lcell mm0 _).trans (Sub.all _ j v hj)))) ⟨_,H⟩ ?_;go_frame
          refine o1C 7 124 (fun K hK=>?_)
          refine step_Sbs rfl slT32' (by decide) (ptC po) H _ rfl rfl rfl ?_;intro w1 bl κ2 HL;clear H;have H:=HL.drop
          refine hK.out _ _ (fun _=>⟨_,H⟩) ?_;clear hK K;go_frame
          refine o1C 8 125 (fun K hK=>?_)
          refine step_ap slT32' ptC_size ptC_ones HL.m.r.lt (by decide) (by decide) (HL.m.r.stores.ap (by show x.ph≤1;rw[XP.out];decide)) HL.m.r.bl.size (by have:=XSt.out;show x.stores.length+1≤1000000;omega) rfl _ _ rfl rfl po bl 1 rfl (HL.lc _ mm0).1 ?_;intro g' C' w1 κ3 tr ap;have HMd:=HL.toMd tr (by decide) (by decide) (by decide) (HL.m.r.tr_stores tr ⟨some ⟨g',0,none⟩,_,C'⟩ (x.stores++[po]) (Ap.sto ap));clear H HL ap tr
          refine hK.out _ _ (aB rfl) ?_;clear hK K;go_frame
          iterate 3 refine rQ rfl ?_;go_frame
          refine o1N 12 (fun K hK=>?_)
          refine step_sb rfl cel32 HMd.drop _ _ rfl 50 rfl _ rfl rfl rfl (by decide) (coU_stores _ _ (x.stores++[po]) (some ⟨g',0,none⟩) _ C') ?_;intro w1 H;clear HMd
          refine hK.out _ _ (aB rfl) ?_;clear hK K;go_frame
          refine dnC ?_ _
          go_wp2_with (first|((with_reducible refine gL 83 129 ?_);refine st_llr rfl row83 H _ rfl _ 2 rfl _ 85 mm2 (inC _) rfl (sub_inst _) ?_;go_frame)|((with_reducible refine gL 28 134 ?_);refine st_ll1 rfl one28 H _ rfl _ 4 rfl _ 58 mm1 _ (stC_4 _) ?_;go_frame)|(go_at_call 52;refine(kind_any y.i.op y.i.rd y.i.r1 y.i.r2 y.i.imm.v _).mono ?_;rintro r w1 ⟨rfl,hb⟩;replace H:=H.below hb)|(go_at_call 49;(refine(bring_m w0 _ g _ _ _ st.addr H.m XM.out (by have:=XN.out;show x.bus.length≤900000;omega)).mono ?_);rintro r w1 ⟨rfl,hmp⟩;obtain⟨κ2,s2,H1⟩:=H.mpc hmp;clear hmp;clear H;have H:=H1;clear H1))
          obtain⟨x2,hx2⟩:∃ x2,x2=(bringC { x with retired:=x.retired++[st],stores:=x.stores++[po] } st.addr:Co):=⟨_,rfl⟩
          obtain⟨s4,κ4,H1⟩:∃ s4 κ4,St' w0 w w1 g κ κ4 x2 s4 _:=⟨_,_,by rw[hx2];exact H⟩
          clear H
          have H:=H1
          clear H1
          have HR2:=Lib.hid (show x2.rob=y::l by rw[hx2];exact HXR.out)
          have hrn:1≤s4.rob.n:=by have:=H.m.r.rob.sl.len;rw[HR2.out,List.length_cons]at this;omega
          have EX:=Lib.hid (show ∀ gg,retire1 gg x={ x2 with regs:=applyR x2.regs st,guess:=gg,rob:=l } from fun gg=>by
           rw[HGO.out gg,hx2]
           unfold retC
           simp only[HST.out,HSO.out]
           rw[if_pos (by simpa using e3)]
           rfl)
         case' false=>
          go_wp2_with (first|((with_reducible refine gL 58 3 ?_);refine st_llr rfl row58 H _ rfl _ 0 rfl _ 58 mm0 _ rfl (Sub.all _) ?_;go_frame)|((with_reducible refine gAl 89 ?_);refine st_al rfl (ptC ptZ) zero89 H rfl ?_;clear H;intro w1 b4 κ1 H;go_frame)|((with_reducible refine gS 89 4 ?_);refine st_slw rfl cel89 _ _ _ H _ _ rfl rfl _ rfl rfl rfl rfl ?_;clear H;intro w1 ho1 H;go_frame)|(go_at_call 59;refine(stored_any st _).mono ?_;rw[HPO.out];rintro r1 w1 ⟨rfl,hb⟩;replace H:=H.below hb))
          go_wp2_with fail
          refine beginE 8 (l0:=zz13) H (by kernel_rfl) ?_ (by kernel_rfl);clear H;intro H
          iterate 5 refine rP ⟨_,H⟩ ?_;go_frame
          refine tC 5 122 rfl (by kernel_rfl) iQ (by(exact yields_one one32 rfl _ rfl _ rfl _ (fun w h=>(h.cell 50).trans (coC_50 _ _)))) ⟨_,H⟩ ?_;go_frame
          refine tC 6 123 rfl (by kernel_rfl) iQ (by(exact yields_row row89 rfl _ rfl _ _ rfl _ rfl (fun w h j v hj=>(h.lcell mm0 _).trans (Sub.all _ j v hj)))) ⟨_,H⟩ ?_;go_frame
          refine o1C 7 124 (fun K hK=>?_)
          refine step_Sbs rfl slT32' (by decide) (ptC po) H _ rfl rfl rfl ?_;intro w1 bl κ2 HL;clear H;have H:=HL.drop
          refine hK.out _ _ (fun _=>⟨_,H⟩) ?_;clear hK K;go_frame
          refine o1C 8 125 (fun K hK=>?_)
          refine step_ap slT32' ptC_size ptC_ones HL.m.r.lt (by decide) (by decide) (HL.m.r.stores.ap (by show x.ph≤1;rw[XP.out];decide)) HL.m.r.bl.size (by have:=XSt.out;show x.stores.length+1≤1000000;omega) rfl _ _ rfl rfl po bl 1 rfl (HL.lc _ mm0).1 ?_;intro g' C' w1 κ3 tr ap;have HMd:=HL.toMd tr (by decide) (by decide) (by decide) (HL.m.r.tr_stores tr ⟨some ⟨g',0,none⟩,_,C'⟩ (x.stores++[po]) (Ap.sto ap));clear H HL ap tr
          refine hK.out _ _ (aB rfl) ?_;clear hK K;go_frame
          iterate 3 refine rQ rfl ?_;go_frame
          refine o1N 12 (fun K hK=>?_)
          refine step_sb rfl cel32 HMd.drop _ _ rfl 50 rfl _ rfl rfl rfl (by decide) (coU_stores _ _ (x.stores++[po]) (some ⟨g',0,none⟩) _ C') ?_;intro w1 H;clear HMd
          refine hK.out _ _ (aB rfl) ?_;clear hK K;go_frame
          refine dnC ?_ _
          go_wp2_with (first|((with_reducible refine gL 83 129 ?_);refine st_llr rfl row83 H _ rfl _ 2 rfl _ 85 mm2 (inC _) rfl (sub_inst _) ?_;go_frame)|(go_at_call 52;refine(kind_any y.i.op y.i.rd y.i.r1 y.i.r2 y.i.imm.v _).mono ?_;rintro r w1 ⟨rfl,hb⟩;replace H:=H.below hb))
          obtain⟨x2,hx2⟩:∃ x2,x2=({ x with retired:=x.retired++[st],stores:=x.stores++[po] }:Co):=⟨_,rfl⟩
          obtain⟨s4,κ4,H1⟩:∃ s4 κ4,St' w0 w w1 g κ κ4 x2 s4 _:=⟨_,_,by rw[hx2];exact H⟩
          clear H
          have H:=H1
          clear H1
          have HR2:=Lib.hid (show x2.rob=y::l by rw[hx2];exact HXR.out)
          have hrn:1≤s4.rob.n:=by have:=H.m.r.rob.sl.len;rw[HR2.out,List.length_cons]at this;omega
          have EX:=Lib.hid (show ∀ gg,retire1 gg x={ x2 with regs:=applyR x2.regs st,guess:=gg,rob:=l } from fun gg=>by
           rw[HGO.out gg,hx2]
           unfold retC
           simp only[HST.out,HSO.out]
           rw[if_neg (by simpa using e3)]
           rfl)
         all_goals
          clear hx2
          go_wp2_with fail
          refine beginS 7 (l0:=zz12) H (by kernel_rfl) ?_ (by kernel_rfl);clear H;intro H
          iterate 5 refine rP H ?_;go_frame
          refine tC 5 142 rfl (by kernel_rfl) iQ (by(exact yields_row row29 rfl _ rfl _ _ rfl _ rfl (fun w h j v hj=>(h.cell _).trans (sub_regs _ _ j v hj)))) H ?_;go_frame
          refine tC 6 143 rfl (by kernel_rfl) iQ (by(exact yields_row row58 rfl _ rfl _ _ rfl _ rfl (fun w h j v hj=>(h.lcell mm1 _).trans (Sub.all _ j v hj)))) H ?_;go_frame
          refine o1C 7 144 (fun K hK=>?_)
          refine step_fn rfl _ _ _ (apply_any x2.regs H.m.r.regs st _) (by go_simp<;>rfl) ?_;rintro r w1 ⟨rfl,hb⟩;refine⟨_,rfl,?_⟩;replace H:=H.below hb
          refine hK.out _ _ (aB rfl) ?_;clear hK K;go_frame
          iterate 3 refine rQ rfl ?_;go_frame
          refine o1N 11 (fun K hK=>?_)
          refine step_sb rfl cel29 (H.md (H.m.r.s_regs (applyR x2.regs st) ((applyR_len _ _).trans H.m.r.regs))) _ _ rfl 13 rfl _ rfl rfl (rgC_ones _) (by decide) (coU_regs _ _ (applyR x2.regs st)) ?_;clear H;intro w1 H
          refine hK.out _ _ (aB rfl) ?_;clear hK K;go_frame
          refine dnC ?_ _
          go_wp2_with fail
          go_wp2_with fail
          refine beginS 12 (l0:=zz17) H (by kernel_rfl) ?_ (by kernel_rfl);clear H;intro H
          iterate 5 refine rP H ?_;go_frame
          refine tC 5 153 rfl (by kernel_rfl) iQ (by(exact yields_row row39 rfl _ rfl _ _ rfl _ rfl (fun w h j v hj=>(h.cell _).trans (sub_guess _ _ j v hj)))) H ?_;go_frame
          refine tP 6 154 H ?_;go_frame
          refine tC 7 155 rfl (by kernel_rfl) iQ (by(exact yields_one one28 rfl _ rfl _ rfl _ (fun w h=>(h.lcell mm1 0).trans (stC_0 _)))) H ?_;go_frame
          refine tP 8 156 H ?_;go_frame
          refine tC 9 157 rfl (by kernel_rfl) iQ (by(exact yields_one one28 rfl _ rfl _ rfl _ (fun w h=>(h.lcell mm1 1).trans (stC_1 _)))) H ?_;go_frame
          refine tP 10 158 H ?_;go_frame
          refine tC 11 159 rfl (by kernel_rfl) iQ (by(exact yields_row row83 rfl _ rfl _ _ rfl _ rfl (fun w h j v hj=>(h.lcell mm2 _).trans (sub_inst _ j v hj)))) H ?_;go_frame
          refine o1C 12 160 (fun K hK=>?_)
          refine step_fn rfl _ _ _ (train_any ⟨s4.slots,x2.guess.history,s4.returns⟩ x2.guess st.pc st.next y.i _ H.m.r.gur) (by go_simp<;>rfl) ?_;unfold GuP;rintro r1 w1 ⟨⟨q1,q2,q3⟩,gg,rfl,hgu,_,hor,hb⟩;refine⟨_,rfl,?_⟩;have qh:=hgu.hist;simp only at qh;subst qh;have Fs9:Rd (fun j=>κ4 j=0) skC 2 w1 q1 gg.slots:=⟨hgu.sl,hgu.wf,gu_av hor (fun q=>by have e:s4.slots=q1:=congrArg Gc.slots q;rw[← e];exact H.m.r.slots.av) (fun q=>H.zero _ q)⟩;have FR:Rd (fun j=>κ4 j=0) u32C 1 w1 q3 gg.returns:=⟨hgu.rl,hgu.rw,gu_av2 hor (fun q=>by have e:s4.returns=q3:=congrArg Gc.returns q;rw[← e];exact H.m.r.returns.av) (fun q=>H.zero _ q)⟩;clear hgu hor;replace H:=H.below hb
          refine hK.out _ _ (aB rfl) ?_;clear hK K;go_frame
          iterate 3 refine rQ rfl ?_;go_frame
          refine o1N 16 (fun K hK=>?_)
          refine step_sb rfl cel39 (H.md (H.m.r.s_guess ⟨q1.a,q1.n,q1.c⟩ ⟨q3.a,q3.n,q3.c⟩ gg Fs9 FR)) _ _ rfl 59 rfl _ rfl rfl rfl (by decide) (coU_guess _ _ gg q1.a q3.a q1.n q1.c q3.n q3.c) ?_;intro w1 H1;clear Fs9 FR H;have H:=H1;clear H1
          refine hK.out _ _ (aB rfl) ?_;clear hK K;go_frame
          refine dnC ?_ _
          go_wp2_with (first|((with_reducible refine gD (Op.slice 31 _ _ _ _) ?_);refine st_tail rfl tl31 _ rfl s4.rob.a s4.rob.c rfl hrn ?_;try simp only[Act.put,xA,xB,xC,fR])|((with_reducible refine gS 31 173 ?_);have q1:Rw κ4 2 enC 17 85 _ s4.rob x2.rob:=H.m.r.rob;rw[HR2.out]at q1;refine st_sb rfl cel31 (H.md (H.m.r.s_rob ⟨tailA s4.rob.a s4.rob.c 17,s4.rob.n-1,s4.rob.c-1⟩ l q1.tl)) _ _ rfl 48 rfl _ rfl rfl rfl (by decide) (coU_rob _ _ l (tailA s4.rob.a s4.rob.c 17) (s4.rob.n-1) (s4.rob.c-1)) ?_;intro w1 H1;clear q1 H;have H:=H1;clear H1;try simp only[Act.put,xA,xB,xC,fR])|((with_reducible refine gL 31 168 ?_);refine st_ld1 rfl one31 H _ rfl 48 rfl _ (coC_48 _ _) ?_;go_frame))
          have HN2:=Lib.hid (HX.out.next gg)
          rw[EX.out]at HN2
          go_roundw
          all_goals first
           | exact⟨k+1,_,_,_,by omega,by go_num,HN2,H.drop.drop.drop⟩|(simp[intOf];omega)
        | false=>
         have HSO:=Lib.hid (show storedS st=none from stoq_no HPO.out)
         cases e3:(kd y.i.op== 3)
         case' true=>
          go_wp2_with (first|((with_reducible refine gL 58 3 ?_);refine st_llr rfl row58 H _ rfl _ 0 rfl _ 58 mm0 _ rfl (Sub.all _) ?_;go_frame)|((with_reducible refine gAl 89 ?_);refine st_al rfl (ptC ptZ) zero89 H rfl ?_;clear H;intro w1 b4 κ1 H;go_frame)|((with_reducible refine gS 89 4 ?_);refine st_slw rfl cel89 _ _ _ H _ _ rfl rfl _ rfl rfl rfl rfl ?_;clear H;intro w1 ho1 H;go_frame)|((with_reducible refine gL 83 129 ?_);refine st_llr rfl row83 H _ rfl _ 2 rfl _ 85 mm2 (inC _) rfl (sub_inst _) ?_;go_frame)|(go_at_call 59;refine(stored_any st _).mono ?_;rw[HPO.out];rintro r1 w1 ⟨rfl,hb⟩;replace H:=H.below hb))
          go_wp2_with (first|((with_reducible refine gL 28 134 ?_);refine st_ll1 rfl one28 H _ rfl _ 4 rfl _ 58 mm1 _ (stC_4 _) ?_;go_frame)|(go_at_call 52;refine(kind_any y.i.op y.i.rd y.i.r1 y.i.r2 y.i.imm.v _).mono ?_;rintro r w1 ⟨rfl,hb⟩;replace H:=H.below hb)|(go_at_call 49;(refine(bring_m w0 _ g _ _ _ st.addr H.m XM.out (by have:=XN.out;show x.bus.length≤900000;omega)).mono ?_);rintro r w1 ⟨rfl,hmp⟩;obtain⟨κ2,s2,H1⟩:=H.mpc hmp;clear hmp;clear H;have H:=H1;clear H1))
          obtain⟨x2,hx2⟩:∃ x2,x2=(bringC { x with retired:=x.retired++[st] } st.addr:Co):=⟨_,rfl⟩
          obtain⟨s4,κ4,H1⟩:∃ s4 κ4,St' w0 w w1 g κ κ4 x2 s4 _:=⟨_,_,by rw[hx2];exact H⟩
          clear H
          have H:=H1
          clear H1
          have HR2:=Lib.hid (show x2.rob=y::l by rw[hx2];exact HXR.out)
          have hrn:1≤s4.rob.n:=by have:=H.m.r.rob.sl.len;rw[HR2.out,List.length_cons]at this;omega
          have EX:=Lib.hid (show ∀ gg,retire1 gg x={ x2 with regs:=applyR x2.regs st,guess:=gg,rob:=l } from fun gg=>by
           rw[HGO.out gg,hx2]
           unfold retC
           simp only[HST.out,HSO.out]
           rw[if_pos (by simpa using e3)]
           simp only[Option.toList_none,List.append_nil])
         case' false=>
          go_wp2_with (first|((with_reducible refine gL 58 3 ?_);refine st_llr rfl row58 H _ rfl _ 0 rfl _ 58 mm0 _ rfl (Sub.all _) ?_;go_frame)|((with_reducible refine gAl 89 ?_);refine st_al rfl (ptC ptZ) zero89 H rfl ?_;clear H;intro w1 b4 κ1 H;go_frame)|((with_reducible refine gS 89 4 ?_);refine st_slw rfl cel89 _ _ _ H _ _ rfl rfl _ rfl rfl rfl rfl ?_;clear H;intro w1 ho1 H;go_frame)|((with_reducible refine gL 83 129 ?_);refine st_llr rfl row83 H _ rfl _ 2 rfl _ 85 mm2 (inC _) rfl (sub_inst _) ?_;go_frame)|(go_at_call 59;refine(stored_any st _).mono ?_;rw[HPO.out];rintro r1 w1 ⟨rfl,hb⟩;replace H:=H.below hb))
          go_wp2_with ((go_at_call 52;refine(kind_any y.i.op y.i.rd y.i.r1 y.i.r2 y.i.imm.v _).mono ?_;rintro r w1 ⟨rfl,hb⟩;replace H:=H.below hb))
          obtain⟨x2,hx2⟩:∃ x2,x2=({ x with retired:=x.retired++[st] }:Co):=⟨_,rfl⟩
          obtain⟨s4,κ4,H1⟩:∃ s4 κ4,St' w0 w w1 g κ κ4 x2 s4 _:=⟨_,_,by rw[hx2];exact H⟩
          clear H
          have H:=H1
          clear H1
          have HR2:=Lib.hid (show x2.rob=y::l by rw[hx2];exact HXR.out)
          have hrn:1≤s4.rob.n:=by have:=H.m.r.rob.sl.len;rw[HR2.out,List.length_cons]at this;omega
          have EX:=Lib.hid (show ∀ gg,retire1 gg x={ x2 with regs:=applyR x2.regs st,guess:=gg,rob:=l } from fun gg=>by
           rw[HGO.out gg,hx2]
           unfold retC
           simp only[HST.out,HSO.out]
           rw[if_neg (by simpa using e3)]
           simp only[Option.toList_none,List.append_nil])
         all_goals
          clear hx2
          go_wp2_with fail
          refine beginS 7 (l0:=zz12) H (by kernel_rfl) ?_ (by kernel_rfl);clear H;intro H
          iterate 5 refine rP H ?_;go_frame
          refine tC 5 142 rfl (by kernel_rfl) iQ (by(exact yields_row row29 rfl _ rfl _ _ rfl _ rfl (fun w h j v hj=>(h.cell _).trans (sub_regs _ _ j v hj)))) H ?_;go_frame
          refine tC 6 143 rfl (by kernel_rfl) iQ (by(exact yields_row row58 rfl _ rfl _ _ rfl _ rfl (fun w h j v hj=>(h.lcell mm1 _).trans (Sub.all _ j v hj)))) H ?_;go_frame
          refine o1C 7 144 (fun K hK=>?_)
          refine step_fn rfl _ _ _ (apply_any x2.regs H.m.r.regs st _) (by go_simp<;>rfl) ?_;rintro r w1 ⟨rfl,hb⟩;refine⟨_,rfl,?_⟩;replace H:=H.below hb
          refine hK.out _ _ (aB rfl) ?_;clear hK K;go_frame
          iterate 3 refine rQ rfl ?_;go_frame
          refine o1N 11 (fun K hK=>?_)
          refine step_sb rfl cel29 (H.md (H.m.r.s_regs (applyR x2.regs st) ((applyR_len _ _).trans H.m.r.regs))) _ _ rfl 13 rfl _ rfl rfl (rgC_ones _) (by decide) (coU_regs _ _ (applyR x2.regs st)) ?_;clear H;intro w1 H
          refine hK.out _ _ (aB rfl) ?_;clear hK K;go_frame
          refine dnC ?_ _
          go_wp2_with fail
          go_wp2_with fail
          refine beginS 12 (l0:=zz17) H (by kernel_rfl) ?_ (by kernel_rfl);clear H;intro H
          iterate 5 refine rP H ?_;go_frame
          refine tC 5 153 rfl (by kernel_rfl) iQ (by(exact yields_row row39 rfl _ rfl _ _ rfl _ rfl (fun w h j v hj=>(h.cell _).trans (sub_guess _ _ j v hj)))) H ?_;go_frame
          refine tP 6 154 H ?_;go_frame
          refine tC 7 155 rfl (by kernel_rfl) iQ (by(exact yields_one one28 rfl _ rfl _ rfl _ (fun w h=>(h.lcell mm1 0).trans (stC_0 _)))) H ?_;go_frame
          refine tP 8 156 H ?_;go_frame
          refine tC 9 157 rfl (by kernel_rfl) iQ (by(exact yields_one one28 rfl _ rfl _ rfl _ (fun w h=>(h.lcell mm1 1).trans (stC_1 _)))) H ?_;go_frame
          refine tP 10 158 H ?_;go_frame
          refine tC 11 159 rfl (by kernel_rfl) iQ (by(exact yields_row row83 rfl _ rfl _ _ rfl _ rfl (fun w h j v hj=>(h.lcell mm2 _).trans (sub_inst _ j v hj)))) H ?_;go_frame
          refine o1C 12 160 (fun K hK=>?_)
          refine step_fn rfl _ _ _ (train_any ⟨s4.slots,x2.guess.history,s4.returns⟩ x2.guess st.pc st.next y.i _ H.m.r.gur) (by go_simp<;>rfl) ?_;unfold GuP;rintro r1 w1 ⟨⟨q1,q2,q3⟩,gg,rfl,hgu,_,hor,hb⟩;refine⟨_,rfl,?_⟩;have qh:=hgu.hist;simp only at qh;subst qh;have Fs9:Rd (fun j=>κ4 j=0) skC 2 w1 q1 gg.slots:=⟨hgu.sl,hgu.wf,gu_av hor (fun q=>by have e:s4.slots=q1:=congrArg Gc.slots q;rw[← e];exact H.m.r.slots.av) (fun q=>H.zero _ q)⟩;have FR:Rd (fun j=>κ4 j=0) u32C 1 w1 q3 gg.returns:=⟨hgu.rl,hgu.rw,gu_av2 hor (fun q=>by have e:s4.returns=q3:=congrArg Gc.returns q;rw[← e];exact H.m.r.returns.av) (fun q=>H.zero _ q)⟩;clear hgu hor;replace H:=H.below hb
          refine hK.out _ _ (aB rfl) ?_;clear hK K;go_frame
          iterate 3 refine rQ rfl ?_;go_frame
          refine o1N 16 (fun K hK=>?_)
          refine step_sb rfl cel39 (H.md (H.m.r.s_guess ⟨q1.a,q1.n,q1.c⟩ ⟨q3.a,q3.n,q3.c⟩ gg Fs9 FR)) _ _ rfl 59 rfl _ rfl rfl rfl (by decide) (coU_guess _ _ gg q1.a q3.a q1.n q1.c q3.n q3.c) ?_;intro w1 H1;clear Fs9 FR H;have H:=H1;clear H1
          refine hK.out _ _ (aB rfl) ?_;clear hK K;go_frame
          refine dnC ?_ _
          go_wp2_with (first|((with_reducible refine gD (Op.slice 31 _ _ _ _) ?_);refine st_tail rfl tl31 _ rfl s4.rob.a s4.rob.c rfl hrn ?_;try simp only[Act.put,xA,xB,xC,fR])|((with_reducible refine gS 31 173 ?_);have q1:Rw κ4 2 enC 17 85 _ s4.rob x2.rob:=H.m.r.rob;rw[HR2.out]at q1;refine st_sb rfl cel31 (H.md (H.m.r.s_rob ⟨tailA s4.rob.a s4.rob.c 17,s4.rob.n-1,s4.rob.c-1⟩ l q1.tl)) _ _ rfl 48 rfl _ rfl rfl rfl (by decide) (coU_rob _ _ l (tailA s4.rob.a s4.rob.c 17) (s4.rob.n-1) (s4.rob.c-1)) ?_;intro w1 H1;clear q1 H;have H:=H1;clear H1;try simp only[Act.put,xA,xB,xC,fR])|((with_reducible refine gL 31 168 ?_);refine st_ld1 rfl one31 H _ rfl 48 rfl _ (coC_48 _ _) ?_;go_frame))
          have HN2:=Lib.hid (HX.out.next gg)
          rw[EX.out]at HN2
          go_roundw
          all_goals first
           | exact⟨k+1,_,_,_,by omega,by go_num,HN2,H.drop.drop.drop⟩|(simp[intOf];omega)
  ·have hkn:k=W:=by omega
   subst hkn
   go_wp2
   go_end0
   exact⟨rfl,_,HX.out.retires HWd.out,H.mp⟩
end Go.Proofs.YtdmhfogegfmnfaaGreatDoor
