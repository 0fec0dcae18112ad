/- Contracts: words come, each with a guess: the walk. Conditions: the machine is one, its shape right, the table of codes is laid, memory and bus are not long, words were taken out before. The walk's laws on a machine: stores into any of the locals, rows of numbers and of yes and no. No conditions. -/
import Derived.Test.YtdmhfogegfmnfaaGreatDoorB01
import Derived.Test.YtdmhfogegfmnfaaGreatDoorB04
import Derived.Test.YtdmhfogegfmnfaaGreatDoorB21
import Derived.Test.YtdmhfogegfmnfaaGreatDoorB22
set_option maxRecDepth 100000
set_option maxHeartbeats 8000000
set_option linter.unusedVariables false
set_option linter.unusedSimpArgs false
namespace Go.Proofs.YtdmhfogegfmnfaaGreatDoor
open Go.RowKit
theorem fetches_m(w0 w:World)(g:Nat)(κ:Nat→Nat)(c:Co)(s:Ss)(M:MS w0 w g κ c s)(hT:TabC w0)(hf:rightF c.conf=true)(hp:c.ph≠0)(hn:c.bus.length≤800000)(hl:c.fetched.length≤800000):Calls Tryz.prog 26 #[.pointer (some ⟨g,0,none⟩)] w fun e w'=>e= .returned (.tuple #[])∧∃ c',FetchesR c c'∧MP w0 w g κ c' w':=by
 have H:=St'.start M
 have HT:=Lib.hid hT
 have HP:=Lib.hid hp
 have HN:=Lib.hid hn
 have HFl:=Lib.hid hl
 have HFc:=Lib.hid hf
 obtain⟨W,hW,hW2⟩:∃ W:Nat,c.conf.width=(W:Int)∧W≤2:=by
  unfold rightF wi at hf
  simp only[Bool.and_eq_true,decide_eq_true_eq]at hf
  exact⟨c.conf.width.toNat,by omega,by omega⟩
 have HWd:=Lib.hid hW
 clear M hT hf hp hn hl hW
 cases e0:(c.halt != 0)with
 | true=>
  have h0:c.halt≠0:=by simpa using e0
  have STP:=(show Fts c 0 c from⟨[],rfl,rfl⟩).stop (Nat.zero_le W) (fetch_idle (.inl h0))
  clear h0
  go_enter Tryz.func26,Tryz.ntmps26
  go_wp2_with (((with_reducible refine gL 3 12 ?_);refine st_ld1 rfl one3 H _ rfl 62 rfl _ (coC_62 _ _) ?_;go_frame))
  ((try simp only[Exit.inBlock,Exit.then]);refine bodyPost_ret (results_none rfl _ _ _) rfl ?_)
  exact⟨rfl,_,STP.fetches HWd.out,H.mp⟩
 | false=>
  have h0:c.halt=0:=by simpa using e0
  have HH:=Lib.hid h0
  clear h0
  go_enter Tryz.func26,Tryz.ntmps26
  go_wp2_with (first|((with_reducible refine gL 3 19 ?_);refine st_ld1 rfl one3 H _ rfl 1 rfl (.int .i64 (W:Int)) ((coC_1 _ _).trans (by rw[HWd.out])) ?_;try simp only[Act.put,xA,xB,xC,fR])|((with_reducible refine gL 3 12 ?_);refine st_ld1 rfl one3 H _ rfl 62 rfl _ (coC_62 _ _) ?_;go_frame))
  go_loopw [21] (fun i wr=>∃(k:Nat) (x:Co) (κ':Nat→Nat) (s':Ss),k≤W∧i= .int .i64 (k:Int)∧Hid (Fts c k x)∧St' w0 w wr g κ κ' x s' []) (fun i _=>W-(intOf i).toNat)
  case atStart=>exact⟨0,c,κ,s,Nat.zero_le _,rfl,Lib.hid ⟨[],rfl,rfl⟩,H⟩
  case round=>
   clear H
   obtain⟨k,x,κ',s',hk,rfl,HS,H⟩:=hrel
   by_cases hlt:k<W
   ·have hK:=HS.out.keep
    have XP:=Lib.hid (show x.ph≠0 from fun h=>HP.out (hK.ph.symm.trans h))
    have xh:=Lib.hid (show ¬ x.halt≠0 by rw[hK.halt,HH.out];simp)
    have XN:=Lib.hid (show x.bus.length≤800002 by have:=hK.bus;have:=HN.out;omega)
    have XL:=Lib.hid (show x.fetched.length≤800002 by have:=hK.fetched;have:=HFl.out;omega)
    have XF:=Lib.hid (show rightF x.conf=true by rw[hK.conf];exact HFc.out)
    have lf:=Lib.hid H.m.r.fetched.sl.len
    clear hK
    cases g1:x.stop with
    | true=>
     have G1:=Lib.hid g1
     have STP:=HS.out.stop (Nat.le_of_lt hlt) (fetch_idle (.inr (.inl g1)))
     clear g1
     go_wp2_with fail
     go_wp2_with fail
     refine beginS 19 (l0:=zz20) H (by kernel_rfl) ?_ (by kernel_rfl);clear H;intro H
     iterate 4 refine rP H ?_;go_frame
     refine tC 4 27 rfl (by kernel_rfl) iQ (by exact yields_one one4 rfl _ rfl _ rfl (.bool true) (fun w h=>(h.cell 46).trans ((coC_46 _ _).trans (by rw[G1.out])))) H ?_;go_frame
     refine tP 5 28 H ?_;go_frame
     refine tU 6 29 H ?_;go_frame
     refine tU 7 30 H ?_;go_frame
     refine tU 8 31 H ?_;go_frame
     refine tU 9 32 H ?_;go_frame
     refine tU 10 33 H ?_;go_frame
     refine tU 11 34 H ?_;go_frame
     refine tU 12 35 H ?_;go_frame
     refine tU 13 36 H ?_;go_frame
     refine tU 14 37 H ?_;go_frame
     refine tU 15 38 H ?_;go_frame
     refine tU 16 39 H ?_;go_frame
     refine tU 17 40 H ?_;go_frame
     refine tU 18 41 H ?_;go_frame
     refine o1C 19 42 (fun K hK=>?_)
     refine step_v rfl (v:=?vr119) ?hyr119 ?restr119
     case hyr119=>(go_simp;try(with_reducible rfl))
     refine hK.out _ _ (aB rfl) ?_;clear hK K;go_frame
     refine dnC ?_ _
     go_wp2_with fail
     ((try simp only[Exit.inBlock,Exit.then]);refine bodyPost_ret (results_none rfl _ _ _) rfl ?_)
     exact⟨rfl,_,STP.fetches HWd.out,H.mp⟩
    | false=>
     have G1:=Lib.hid g1
     clear g1
     cases g2:decide (x.conf.queue≤(s'.fetched.n:Int))with
     | true=>
      have STP:=HS.out.stop (Nat.le_of_lt hlt) (fetch_idle (.inr (.inr (by have:=of_decide_eq_true g2;have:=lf.out;omega))))
      go_wp2_with fail
      go_wp2_with fail
      refine beginS 19 (l0:=zz20) H (by kernel_rfl) ?_ (by kernel_rfl);clear H;intro H
      iterate 4 refine rP H ?_;go_frame
      refine tC 4 27 rfl (by kernel_rfl) iQ (by exact yields_one one4 rfl _ rfl _ rfl (.bool false) (fun w h=>(h.cell 46).trans ((coC_46 _ _).trans (by rw[G1.out])))) H ?_;go_frame
      iterate 5 refine rP H ?_;go_frame
      refine tC 10 33 rfl (by kernel_rfl) iQ (by(exact yieldsG_one (by rfl) one30 _ rfl _ rfl _ (fun w h=>(h.cell 47).trans (coC_47 _ _)))) H ?_;go_frame
      iterate 6 refine rP H ?_;go_frame
      refine tC 17 40 rfl (by kernel_rfl) iQ (by(exact yieldsG_one (by rfl) one3 _ rfl _ rfl _ (fun w h=>(h.cell 3).trans (coC_3 _ _)))) H ?_;go_frame
      refine tP 18 41 H ?_;go_frame
      refine o1C 19 42 (fun K hK=>?_)
      refine step_v rfl (v:=?vr219) ?hyr219 ?restr219
      case hyr219=>(go_simp;try(with_reducible rfl))
      refine hK.out _ _ (aB rfl) ?_;clear hK K;go_frame
      refine dnC ?_ _
      go_wp2_with fail
      ((try simp only[Exit.inBlock,Exit.then]);refine bodyPost_ret (results_none rfl _ _ _) rfl ?_)
      exact⟨rfl,_,STP.fetches HWd.out,H.mp⟩
     | false=>
      have IDL:=Lib.hid (show ¬ (x.halt≠0∨x.stop=true∨x.conf.queue≤x.fetched.length) by
       intro h
       rcases h with h|h|h
       ·exact xh.out h
       ·rw[G1.out]at h;cases h
       ·have:=of_decide_eq_false g2;have:=lf.out;omega)
      obtain⟨wv,wt,hw⟩:∃ wv wt,fetchM x.prog x.fetch=(wv,wt):=⟨_,_,rfl⟩
      have HF:=Lib.hid hw
      clear hw
      cases wt with
      | false=>
       have E:=fetch_none IDL.out (by rw[HF.out]) (U.of 0) 0
       have STP:=(HS.out.next (U.of 0) 0).stop hlt (by rw[E];exact fetch_idle (.inr (.inl rfl)))
       rw[E]at STP
       clear E
       go_wp2_with fail
       go_wp2_with fail
       refine beginS 19 (l0:=zz20) H (by kernel_rfl) ?_ (by kernel_rfl);clear H;intro H
       iterate 4 refine rP H ?_;go_frame
       refine tC 4 27 rfl (by kernel_rfl) iQ (by exact yields_one one4 rfl _ rfl _ rfl (.bool false) (fun w h=>(h.cell 46).trans ((coC_46 _ _).trans (by rw[G1.out])))) H ?_;go_frame
       iterate 5 refine rP H ?_;go_frame
       refine tC 10 33 rfl (by kernel_rfl) iQ (by(exact yieldsG_one (by rfl) one30 _ rfl _ rfl _ (fun w h=>(h.cell 47).trans (coC_47 _ _)))) H ?_;go_frame
       iterate 6 refine rP H ?_;go_frame
       refine tC 17 40 rfl (by kernel_rfl) iQ (by(exact yieldsG_one (by rfl) one3 _ rfl _ rfl _ (fun w h=>(h.cell 3).trans (coC_3 _ _)))) H ?_;go_frame
       refine tP 18 41 H ?_;go_frame
       refine o1C 19 42 (fun K hK=>?_)
       refine step_v rfl (v:=?vr319) ?hyr319 ?restr319
       case hyr319=>(go_simp;try(with_reducible rfl))
       refine hK.out _ _ (aB rfl) ?_;clear hK K;go_frame
       refine dnC ?_ _
       go_wp2_with fail
       go_wp2_with fail
       refine beginS 10 (l0:=zz16) H (by kernel_rfl) ?_ (by kernel_rfl);clear H;intro H
       iterate 4 refine rP H ?_;go_frame
       refine tC 4 48 rfl (by kernel_rfl) iQ (by(exact yields_one one23 rfl _ rfl _ rfl _ (fun w h=>(h.cell 11).trans (coC_11 _ _)))) H ?_;go_frame
       iterate 4 refine rP H ?_;go_frame
       refine tC 9 53 rfl (by kernel_rfl) iQ (by(exact yields_one one28 rfl _ rfl _ rfl _ (fun w h=>(h.cell 45).trans (coC_45 _ _)))) H ?_;go_frame
       refine o1C 10 54 (fun K hK=>?_)
       refine step_fn rfl _ _ _ (fetch_any x.prog s'.prog.a s'.prog.n s'.prog.c x.fetch _ H.m.r.prog.sl) (by go_simp<;>rfl) ?_;unfold FetP;rw[HF.out];rintro r w1 ⟨rfl,rfl⟩;refine⟨_,rfl,?_⟩
       refine hK.out _ _ (aB rfl) ?_;clear hK K;go_frame
       iterate 5 refine rQ rfl ?_;go_frame
       refine dnC ?_ _
       go_wp2_with fail
       go_wp2_with fail
       refine beginE 19 (l0:=zz24) H (by kernel_rfl) ?_ (by kernel_rfl);clear H;intro H
       iterate 5 refine rP ⟨_,H⟩ ?_;go_frame
       refine tC 5 64 rfl (by kernel_rfl) iQ (by(exact yields_one one30 rfl _ rfl _ rfl _ (fun w h=>(h.cell 47).trans (coC_47 _ _)))) ⟨_,H⟩ ?_;go_frame
       iterate 4 refine rP ⟨_,H⟩ ?_;go_frame
       refine tC 10 69 rfl (by kernel_rfl) iQ (by(exact yields_one one28 rfl _ rfl _ rfl _ (fun w h=>(h.cell 45).trans (coC_45 _ _)))) ⟨_,H⟩ ?_;go_frame
       iterate 4 refine rP ⟨_,H⟩ ?_;go_frame
       refine tC 15 74 rfl (by kernel_rfl) iQ (by(exact yields_one one28 rfl _ rfl _ rfl _ (fun w h=>(h.cell 45).trans (coC_45 _ _)))) ⟨_,H⟩ ?_;go_frame
       iterate 2 refine rP ⟨_,H⟩ ?_;go_frame
       refine o1C 18 77 (fun K hK=>?_)
       refine step_Sbs rfl slT30 (by decide) (feC ⟨x.fetch,addU x.fetch 4⟩) H _ rfl rfl rfl ?_;intro w1 bl κ2 HL;clear H;have H:=HL.drop
       refine hK.out _ _ (fun _=>⟨_,H⟩) ?_;clear hK K;go_frame
       refine o1C 19 78 (fun K hK=>?_)
       refine step_ap slT30 feC_size feC_ones HL.m.r.lt (by decide) (by decide) HL.m.r.fetched.ap HL.m.r.bl.size (by have:=XL.out;show x.fetched.length+1≤1000000;omega) rfl _ _ rfl rfl ⟨x.fetch,addU x.fetch 4⟩ bl 1 rfl (HL.lc _ mm0).1 ?_;intro g' C' w1 κ3 tr ap;have HMd:=HL.toMd tr (by decide) (by decide) (by decide) (HL.m.r.tr_fetched tr ⟨some ⟨g',0,none⟩,_,C'⟩ (x.fetched++[⟨x.fetch,addU x.fetch 4⟩]) ⟨ap,fun q=>absurd q XP.out⟩);clear H HL ap tr
       refine hK.out _ _ (aB rfl) ?_;clear hK K;go_frame
       iterate 3 refine rQ rfl ?_;go_frame
       refine o1N 23 (fun K hK=>?_)
       refine step_sb rfl cel30 HMd _ _ rfl 47 rfl _ rfl rfl rfl (by decide) (coU_fetched _ _ (x.fetched++[⟨x.fetch,addU x.fetch 4⟩]) (some ⟨g',0,none⟩) _ C') ?_;intro w1 H;clear HMd
       refine hK.out _ _ (aB rfl) ?_;clear hK K;go_frame
       refine dnC ?_ _
       go_wp2_with (((with_reducible refine gS 4 85 ?_);refine st_sb rfl cel4 (H.md (H.m.r.s_stop _)) _ _ rfl 46 rfl _ rfl rfl rfl (by decide) (coU_stop _ _ _) ?_;clear H;intro w1 H;go_frame))
       ((try simp only[Exit.inBlock,Exit.then]);refine bodyPost_ret (results_none rfl _ _ _) rfl ?_)
       exact⟨rfl,_,STP.fetches HWd.out,H.mp⟩
      | true=>
       obtain⟨fk,fa,fb,hfi⟩:∃ fk fa fb,findC x.words (lineU x.fetch)=(fk,fa,fb):=⟨_,_,_,rfl⟩
       have HW3:=Lib.hid hfi
       clear hfi
       cases fb with
       | false=>
        have E:=Lib.hid (fetch_far (u:=U.of 0) (gd:=0) IDL.out (by rw[HF.out];simp) (by rw[HW3.out]))
        have EA:=Lib.hid (fun u gd=>fetch_far (u:=u) (gd:=gd) IDL.out (by rw[HF.out];simp) (by rw[HW3.out]))
        cases hq:hasQ x.bus (lineU x.fetch) 2 with
        | true=>
         have HQ:=Lib.hid hq
         have STP:=HS.out.stop (Nat.le_of_lt hlt) (fun u gd=>by rw[EA.out,if_neg (by rw[hq];simp)])
         clear hq E EA
         go_wp2_with fail
         go_wp2_with fail
         refine beginS 19 (l0:=zz20) H (by kernel_rfl) ?_ (by kernel_rfl);clear H;intro H
         iterate 4 refine rP H ?_;go_frame
         refine tC 4 27 rfl (by kernel_rfl) iQ (by exact yields_one one4 rfl _ rfl _ rfl (.bool false) (fun w h=>(h.cell 46).trans ((coC_46 _ _).trans (by rw[G1.out])))) H ?_;go_frame
         iterate 5 refine rP H ?_;go_frame
         refine tC 10 33 rfl (by kernel_rfl) iQ (by(exact yieldsG_one (by rfl) one30 _ rfl _ rfl _ (fun w h=>(h.cell 47).trans (coC_47 _ _)))) H ?_;go_frame
         iterate 6 refine rP H ?_;go_frame
         refine tC 17 40 rfl (by kernel_rfl) iQ (by(exact yieldsG_one (by rfl) one3 _ rfl _ rfl _ (fun w h=>(h.cell 3).trans (coC_3 _ _)))) H ?_;go_frame
         refine tP 18 41 H ?_;go_frame
         refine o1C 19 42 (fun K hK=>?_)
         refine step_v rfl (v:=?vr619) ?hyr619 ?restr619
         case hyr619=>(go_simp;try(with_reducible rfl))
         refine hK.out _ _ (aB rfl) ?_;clear hK K;go_frame
         refine dnC ?_ _
         go_wp2_with fail
         go_wp2_with fail
         refine beginS 10 (l0:=zz16) H (by kernel_rfl) ?_ (by kernel_rfl);clear H;intro H
         iterate 4 refine rP H ?_;go_frame
         refine tC 4 48 rfl (by kernel_rfl) iQ (by(exact yields_one one23 rfl _ rfl _ rfl _ (fun w h=>(h.cell 11).trans (coC_11 _ _)))) H ?_;go_frame
         iterate 4 refine rP H ?_;go_frame
         refine tC 9 53 rfl (by kernel_rfl) iQ (by(exact yields_one one28 rfl _ rfl _ rfl _ (fun w h=>(h.cell 45).trans (coC_45 _ _)))) H ?_;go_frame
         refine o1C 10 54 (fun K hK=>?_)
         refine step_fn rfl _ _ _ (fetch_any x.prog s'.prog.a s'.prog.n s'.prog.c x.fetch _ H.m.r.prog.sl) (by go_simp<;>rfl) ?_;unfold FetP;rw[HF.out];rintro r w1 ⟨rfl,rfl⟩;refine⟨_,rfl,?_⟩
         refine hK.out _ _ (aB rfl) ?_;clear hK K;go_frame
         iterate 5 refine rQ rfl ?_;go_frame
         refine dnC ?_ _
         go_wp2_with (first|((with_reducible refine gL 28 89 ?_);refine st_ld1 rfl one28 H _ rfl 45 rfl _ (coC_45 _ _) ?_;go_frame)|((with_reducible refine gL 35 96 ?_);refine st_ldr rfl row35 H _ rfl 53 rfl _ rfl (sub_words _ _) ?_;go_frame)|((with_reducible refine gL 36 108 ?_);refine st_ld1 rfl one36 H _ rfl 55 rfl _ (coC_55 _ _) ?_;go_frame)|(go_at_call 67;refine(find_any s'.words x.words (lineU x.fetch) _ H.m.r.words.toR).mono ?_;unfold FinP;rw[HW3.out];rintro r w1 ⟨rfl,hb⟩;replace H:=H.below hb)|(go_at_call 28;refine(line_any' x.fetch _).mono ?_;rintro r w1 ⟨rfl,rfl⟩)|((with_reducible refine gD (Op.buildSlice 22 1 _) ?_);refine st_Sbi rfl (.int .i64 2) rfl H _ slT22' rfl rfl ?_;clear H;intro w1 b111 κ2 hlt1 hb1 hs1 H;try simp only[Act.put,xA,xB,xC,fR])|(go_at_call 68;refine(hasQ_any s'.bus.a s'.bus.n s'.bus.c x.bus (lineU x.fetch) b111 1 2 _ H.m.r.bus.sl ((H.lcell mm0 0).trans rfl) (H.llt mm0)).mono ?_;rw[HQ.out];rintro r w1 ⟨rfl,hb⟩;replace H:=H.below hb))
         ((try simp only[Exit.inBlock,Exit.then]);refine bodyPost_ret (results_none rfl _ _ _) rfl ?_)
         exact⟨rfl,_,STP.fetches HWd.out,H.mp⟩
        | false=>
         have HQ:=Lib.hid hq
         cases hr:roomC x false
         case' false=>
          have HR:=Lib.hid hr
          have STP:=HS.out.stop (Nat.le_of_lt hlt) (fun u gd=>by rw[EA.out,if_neg (by rw[hr];simp)])
          clear hq hr E EA
          go_wp2_with fail
          go_wp2_with fail
          refine beginS 19 (l0:=zz20) H (by kernel_rfl) ?_ (by kernel_rfl);clear H;intro H
          iterate 4 refine rP H ?_;go_frame
          refine tC 4 27 rfl (by kernel_rfl) iQ (by exact yields_one one4 rfl _ rfl _ rfl (.bool false) (fun w h=>(h.cell 46).trans ((coC_46 _ _).trans (by rw[G1.out])))) H ?_;go_frame
          iterate 5 refine rP H ?_;go_frame
          refine tC 10 33 rfl (by kernel_rfl) iQ (by(exact yieldsG_one (by rfl) one30 _ rfl _ rfl _ (fun w h=>(h.cell 47).trans (coC_47 _ _)))) H ?_;go_frame
          iterate 6 refine rP H ?_;go_frame
          refine tC 17 40 rfl (by kernel_rfl) iQ (by(exact yieldsG_one (by rfl) one3 _ rfl _ rfl _ (fun w h=>(h.cell 3).trans (coC_3 _ _)))) H ?_;go_frame
          refine tP 18 41 H ?_;go_frame
          refine o1C 19 42 (fun K hK=>?_)
          refine step_v rfl (v:=?vr819) ?hyr819 ?restr819
          case hyr819=>(go_simp;try(with_reducible rfl))
         case' true=>
          have HR:=Lib.hid hr
          have E2:=E.out.trans (if_pos ⟨hq,hr⟩)
          have STP:=(HS.out.next (U.of 0) 0).stop hlt (by
           rw[E2]
           intro u gd
           have i1:¬ ((askC x 2 (lineU x.fetch) []).halt≠0∨(askC x 2 (lineU x.fetch) []).stop=true∨(askC x 2 (lineU x.fetch) []).conf.queue≤(askC x 2 (lineU x.fetch) []).fetched.length):=IDL.out
           have i2:¬ (fetchM (askC x 2 (lineU x.fetch) []).prog (askC x 2 (lineU x.fetch) []).fetch).2=false:=by show ¬ (fetchM x.prog x.fetch).2=false;rw[HF.out];simp
           have i3:(findC (askC x 2 (lineU x.fetch) []).words (lineU (askC x 2 (lineU x.fetch) []).fetch)).2.2=false:=by show(findC x.words (lineU x.fetch)).2.2=false;rw[HW3.out]
           rw[fetch_far i1 i2 i3,if_neg (by show ¬ (hasQ (askC x 2 (lineU x.fetch) []).bus (lineU x.fetch) 2=false∧_);rw[hasQ_ask];simp)])
          rw[E2]at STP
          clear hq hr E EA E2
          go_wp2_with fail
          go_wp2_with fail
          refine beginS 19 (l0:=zz20) H (by kernel_rfl) ?_ (by kernel_rfl);clear H;intro H
          iterate 4 refine rP H ?_;go_frame
          refine tC 4 27 rfl (by kernel_rfl) iQ (by exact yields_one one4 rfl _ rfl _ rfl (.bool false) (fun w h=>(h.cell 46).trans ((coC_46 _ _).trans (by rw[G1.out])))) H ?_;go_frame
          iterate 5 refine rP H ?_;go_frame
          refine tC 10 33 rfl (by kernel_rfl) iQ (by(exact yieldsG_one (by rfl) one30 _ rfl _ rfl _ (fun w h=>(h.cell 47).trans (coC_47 _ _)))) H ?_;go_frame
          iterate 6 refine rP H ?_;go_frame
          refine tC 17 40 rfl (by kernel_rfl) iQ (by(exact yieldsG_one (by rfl) one3 _ rfl _ rfl _ (fun w h=>(h.cell 3).trans (coC_3 _ _)))) H ?_;go_frame
          refine tP 18 41 H ?_;go_frame
          refine o1C 19 42 (fun K hK=>?_)
          refine step_v rfl (v:=?vr1019) ?hyr1019 ?restr1019
          case hyr1019=>(go_simp;try(with_reducible rfl))
         all_goals
          refine hK.out _ _ (aB rfl) ?_;clear hK K;go_frame
          refine dnC ?_ _
          go_wp2_with fail
          go_wp2_with fail
          refine beginS 10 (l0:=zz16) H (by kernel_rfl) ?_ (by kernel_rfl);clear H;intro H
          iterate 4 refine rP H ?_;go_frame
          refine tC 4 48 rfl (by kernel_rfl) iQ (by(exact yields_one one23 rfl _ rfl _ rfl _ (fun w h=>(h.cell 11).trans (coC_11 _ _)))) H ?_;go_frame
          iterate 4 refine rP H ?_;go_frame
          refine tC 9 53 rfl (by kernel_rfl) iQ (by(exact yields_one one28 rfl _ rfl _ rfl _ (fun w h=>(h.cell 45).trans (coC_45 _ _)))) H ?_;go_frame
          refine o1C 10 54 (fun K hK=>?_)
          refine step_fn rfl _ _ _ (fetch_any x.prog s'.prog.a s'.prog.n s'.prog.c x.fetch _ H.m.r.prog.sl) (by go_simp<;>rfl) ?_;unfold FetP;rw[HF.out];rintro r w1 ⟨rfl,rfl⟩;refine⟨_,rfl,?_⟩
          refine hK.out _ _ (aB rfl) ?_;clear hK K;go_frame
          iterate 5 refine rQ rfl ?_;go_frame
          refine dnC ?_ _
          go_wp2_with (first|((with_reducible refine gL 28 89 ?_);refine st_ld1 rfl one28 H _ rfl 45 rfl _ (coC_45 _ _) ?_;go_frame)|((with_reducible refine gL 35 96 ?_);refine st_ldr rfl row35 H _ rfl 53 rfl _ rfl (sub_words _ _) ?_;go_frame)|((with_reducible refine gL 36 108 ?_);refine st_ld1 rfl one36 H _ rfl 55 rfl _ (coC_55 _ _) ?_;go_frame)|(go_at_call 67;refine(find_any s'.words x.words (lineU x.fetch) _ H.m.r.words.toR).mono ?_;unfold FinP;rw[HW3.out];rintro r w1 ⟨rfl,hb⟩;replace H:=H.below hb)|(go_at_call 28;refine(line_any' x.fetch _).mono ?_;rintro r w1 ⟨rfl,rfl⟩)|((with_reducible refine gD (Op.buildSlice 22 1 _) ?_);refine st_Sbi rfl (.int .i64 2) rfl H _ slT22' rfl rfl ?_;clear H;intro w1 b111 κ2 hlt1 hb1 hs1 H;try simp only[Act.put,xA,xB,xC,fR])|(go_at_call 68;refine(hasQ_any s'.bus.a s'.bus.n s'.bus.c x.bus (lineU x.fetch) b111 1 2 _ H.m.r.bus.sl ((H.lcell mm0 0).trans rfl) (H.llt mm0)).mono ?_;rw[HQ.out];rintro r w1 ⟨rfl,hb⟩;replace H:=H.below hb)|(go_at_call 69;refine(room_any w0 _ g _ x s' false H.m XF.out).mono ?_;rw[HR.out];rintro r w1 ⟨rfl,hb⟩;replace H:=H.below hb)|(go_at_call 70;(refine(ask_any w0 _ g _ x _ 2 (lineU x.fetch) [] H.m (by have:=XN.out;omega)).mono ?_);rintro r w1 ⟨rfl,hmp⟩;obtain⟨κ2,s2,H1⟩:=H.mpc hmp;clear hmp;clear H;have H:=H1;clear H1))
          ((try simp only[Exit.inBlock,Exit.then]);refine bodyPost_ret (results_none rfl _ _ _) rfl ?_)
          exact⟨rfl,_,STP.fetches HWd.out,H.mp⟩
       | true=>
        have EA:=Lib.hid (fun u gd hu=>fetch_near (u:=u) (gd:=gd) IDL.out (by rw[HF.out];simp) (by rw[HW3.out];simp) hu)
        go_wp2_with fail
        go_wp2_with fail
        refine beginS 19 (l0:=zz20) H (by kernel_rfl) ?_ (by kernel_rfl);clear H;intro H
        iterate 4 refine rP H ?_;go_frame
        refine tC 4 27 rfl (by kernel_rfl) iQ (by exact yields_one one4 rfl _ rfl _ rfl (.bool false) (fun w h=>(h.cell 46).trans ((coC_46 _ _).trans (by rw[G1.out])))) H ?_;go_frame
        iterate 5 refine rP H ?_;go_frame
        refine tC 10 33 rfl (by kernel_rfl) iQ (by(exact yieldsG_one (by rfl) one30 _ rfl _ rfl _ (fun w h=>(h.cell 47).trans (coC_47 _ _)))) H ?_;go_frame
        iterate 6 refine rP H ?_;go_frame
        refine tC 17 40 rfl (by kernel_rfl) iQ (by(exact yieldsG_one (by rfl) one3 _ rfl _ rfl _ (fun w h=>(h.cell 3).trans (coC_3 _ _)))) H ?_;go_frame
        refine tP 18 41 H ?_;go_frame
        refine o1C 19 42 (fun K hK=>?_)
        refine step_v rfl (v:=?vr1219) ?hyr1219 ?restr1219
        case hyr1219=>(go_simp;try(with_reducible rfl))
        refine hK.out _ _ (aB rfl) ?_;clear hK K;go_frame
        refine dnC ?_ _
        go_wp2_with fail
        go_wp2_with fail
        refine beginS 10 (l0:=zz16) H (by kernel_rfl) ?_ (by kernel_rfl);clear H;intro H
        iterate 4 refine rP H ?_;go_frame
        refine tC 4 48 rfl (by kernel_rfl) iQ (by(exact yields_one one23 rfl _ rfl _ rfl _ (fun w h=>(h.cell 11).trans (coC_11 _ _)))) H ?_;go_frame
        iterate 4 refine rP H ?_;go_frame
        refine tC 9 53 rfl (by kernel_rfl) iQ (by(exact yields_one one28 rfl _ rfl _ rfl _ (fun w h=>(h.cell 45).trans (coC_45 _ _)))) H ?_;go_frame
        refine o1C 10 54 (fun K hK=>?_)
        refine step_fn rfl _ _ _ (fetch_any x.prog s'.prog.a s'.prog.n s'.prog.c x.fetch _ H.m.r.prog.sl) (by go_simp<;>rfl) ?_;unfold FetP;rw[HF.out];rintro r w1 ⟨rfl,rfl⟩;refine⟨_,rfl,?_⟩
        refine hK.out _ _ (aB rfl) ?_;clear hK K;go_frame
        iterate 5 refine rQ rfl ?_;go_frame
        refine dnC ?_ _
        go_wp2_with (first|((with_reducible refine gL 28 89 ?_);refine st_ld1 rfl one28 H _ rfl 45 rfl _ (coC_45 _ _) ?_;go_frame)|((with_reducible refine gL 35 96 ?_);refine st_ldr rfl row35 H _ rfl 53 rfl _ rfl (sub_words _ _) ?_;go_frame)|((with_reducible refine gL 35 125 ?_);refine st_ldr rfl row35 H _ rfl 53 rfl _ rfl (sub_words _ _) ?_;go_frame)|(go_at_call 67;refine(find_any s'.words x.words (lineU x.fetch) _ H.m.r.words.toR).mono ?_;unfold FinP;rw[HW3.out];rintro r w1 ⟨rfl,hb⟩;replace H:=H.below hb)|(go_at_call 28;refine(line_any' x.fetch _).mono ?_;rintro r w1 ⟨rfl,rfl⟩)|(go_at_call 71;refine(touch_any _ s'.words x.words (lineU x.fetch) _ H.zero H.m.r.words).mono ?_;unfold CaP;rintro r w1 ⟨u1,rfl,F1,hb⟩;replace H:=H.below hb)|((with_reducible refine gS 35 131 ?_);refine st_sb rfl cel35 (H.md (H.m.r.s_words ⟨u1.a,u1.n,u1.c⟩ (touchC x.words (lineU x.fetch)) F1)) _ _ rfl 53 rfl _ rfl rfl rfl (by decide) (coU_words _ _ (touchC x.words (lineU x.fetch)) u1.a u1.n u1.c) ?_;intro w1 H1;clear F1 H;have H:=H1;clear H1;try simp only[Act.put,xA,xB,xC,fR])|(go_at_call 72;refine(behind_m w0 _ g _ _ _ wv H.m HT.out).mono ?_;rintro r w1 ⟨u,gd,rfl,hu,hmp⟩;have HU:=Lib.hid hu;obtain⟨κ2,s3,H1⟩:=H.mpc hmp;clear hmp hu H;have H:=H1;clear H1))
        go_wp2_with fail
        refine beginE 14 (l0:=zz19) H (by kernel_rfl) ?_ (by kernel_rfl);clear H;intro H
        iterate 5 refine rP ⟨_,H⟩ ?_;go_frame
        refine tC 5 140 rfl (by kernel_rfl) iQ (by(exact yields_one one30 rfl _ rfl _ rfl _ (fun w h=>(h.cell 47).trans (coC_47 _ _)))) ⟨_,H⟩ ?_;go_frame
        iterate 4 refine rP ⟨_,H⟩ ?_;go_frame
        refine tC 10 145 rfl (by kernel_rfl) iQ (by(exact yields_one one28 rfl _ rfl _ rfl _ (fun w h=>(h.cell 45).trans (coC_45 _ _)))) ⟨_,H⟩ ?_;go_frame
        iterate 2 refine rP ⟨_,H⟩ ?_;go_frame
        refine o1C 13 148 (fun K hK=>?_)
        refine step_Sbs rfl slT30 (by decide) (feC ⟨x.fetch,u⟩) H _ rfl rfl rfl ?_;intro w1 bl κ2 HL;clear H;have H:=HL.drop
        refine hK.out _ _ (fun _=>⟨_,H⟩) ?_;clear hK K;go_frame
        refine o1C 14 149 (fun K hK=>?_)
        refine step_ap slT30 feC_size feC_ones HL.m.r.lt (by decide) (by decide) HL.m.r.fetched.ap HL.m.r.bl.size (by have:=XL.out;show x.fetched.length+1≤1000000;omega) rfl _ _ rfl rfl ⟨x.fetch,u⟩ bl 1 rfl (HL.lc _ mm0).1 ?_;intro g' C' w1 κ3 tr ap;have HMd:=HL.toMd tr (by decide) (by decide) (by decide) (HL.m.r.tr_fetched tr ⟨some ⟨g',0,none⟩,_,C'⟩ (x.fetched++[⟨x.fetch,u⟩]) ⟨ap,fun q=>absurd q XP.out⟩);clear H HL ap tr
        refine hK.out _ _ (aB rfl) ?_;clear hK K;go_frame
        iterate 3 refine rQ rfl ?_;go_frame
        refine o1N 18 (fun K hK=>?_)
        refine step_sb rfl cel30 HMd _ _ rfl 47 rfl _ rfl rfl rfl (by decide) (coU_fetched _ _ (x.fetched++[⟨x.fetch,u⟩]) (some ⟨g',0,none⟩) _ C') ?_;intro w1 H;clear HMd
        refine hK.out _ _ (aB rfl) ?_;clear hK K;go_frame
        refine dnC ?_ _
        go_wp2_with (((with_reducible refine gS 28 157 ?_);refine st_sb rfl cel28 (H.md (H.m.r.s_fetch _)) _ _ rfl 45 rfl _ rfl rfl rfl (by decide) (coU_fetch _ _ _) ?_;clear H;intro w1 H;go_frame))
        have E:=EA.out u gd (by rw[HF.out];exact HU.out)
        have ST:=HS.out.next u gd
        rw[E]at ST
        have ST':=Lib.hid ST
        clear E ST
        go_roundw
        all_goals first
         | exact⟨k+1,_,_,_,by omega,by go_num,ST',H.drop⟩|(simp[intOf];omega)
   ·have hkn:k=W:=by omega
    subst hkn
    go_wp2
    go_end0
    exact⟨rfl,_,HS.out.fetches HWd.out,H.mp⟩
theorem flat_i64b(K:List Int):flat i64C K=(K.map fun x=>Value.int .i64 x).toArray:=by
 unfold flat
 congr 1
 induction K with
 | nil=>rfl
 | cons x K ih=>rw[List.flatMap_cons,ih];rfl
theorem flat_bolb(K:List Bool):flat bolC K=(K.map fun x=>Value.bool x).toArray:=by
 unfold flat
 congr 1
 induction K with
 | nil=>rfl
 | cons x K ih=>rw[List.flatMap_cons,ih];rfl
theorem putA_one(L:List Value)(j:Nat)(v:Value)(hj:j<L.length):putA L.toArray j #[v]=(L.set j v).toArray:=by
 unfold putA
 congr 1
 rw[List.toList_toArray]
 show L.take j++[v]++L.drop (j+1)=_
 rw[List.set_eq_take_append_cons_drop,if_pos hj,List.append_assoc]
 rfl
theorem put_i64(K:List Int)(j:Nat)(x:Int)(hj:j<K.length):putA (flat i64C K) j (Value.int .i64 x).cells=flat i64C (K.set j x):=by
 rw[flat_i64b,flat_i64b,List.map_set]
 exact putA_one _ j _ (by simpa using hj)
theorem put_bol(K:List Bool)(j:Nat)(x:Bool)(hj:j<K.length):putA (flat bolC K) j (Value.bool x).cells=flat bolC (K.set j x):=by
 rw[flat_bolb,flat_bolb,List.map_set]
 exact putA_one _ j _ (by simpa using hj)
theorem at_i64(K:List Int)(j:Nat)(x:Int)(h:K[j]?=some x):(flat i64C K)[j]?=some (.int .i64 x):=by
 rw[flat_i64b]
 simp[h]
theorem i64C_sizeb(x:Int):(i64C x).size=1:=(rfl)
theorem bolC_sizeb(x:Bool):(bolC x).size=1:=(rfl)
section
variable {w0 ws w w':World} {g:Nat} {κs κ κ':Nat→Nat} {c c':Co} {s s':Ss} {l l':List Lc} {ops:Array Oper} {rest:List Oper} {o:Oper} {a:Act} {Q:Exit→Act→World→Prop} {K:Act→World→Prop} {E:Prop} {T n k:Nat}
theorem St'.setI{i b:Nat}{old:Array Value}{t:TypeId}(H:St' w0 ws w g κs κ c s l)(hi:l[i]?=some (b,old,t))(new:Array Value):St' w0 ws (w.setRow b new) g κs κ c s (l.set i (b,new,t)):=by
 have hm:=List.mem_of_getElem? hi
 obtain⟨q1,q2,q3⟩:=H.lc _ hm
 simp only at q1 q2 q3
 have hlt:=(Array.getElem?_eq_some_iff.1 q1).1
 obtain⟨hil,hie⟩:=List.getElem?_eq_some_iff.1 hi
 have hnd:=List.pairwise_iff_getElem.1 H.nd
 have t6:Tr κ κ 6 w (w.setRow b new):=⟨rfl,rfl,rfl,by rw[row_size];exact Nat.le_refl _,fun j hj hne=>row_other w b j new (fun e=>hne (by rw[e];exact q2)),fun _ _=>rfl,fun j hj hh=>absurd (H.m.r.lt j hh) (by omega)⟩
 have key:∀(j:Nat) (hj:j<l.length),j≠i→(l[j]'hj).1≠b:=fun j hj hne=>by
  have hb:(l[i]'hil).1=b:=by rw[hie]
  rcases Nat.lt_or_gt_of_ne hne with h|h
  ·have:=hnd j i hj hil h;rw[hb]at this;exact this
  ·have:=hnd i j hil hj h;rw[hb]at this;exact fun e=>this e.symm
 refine⟨H.m.tr t6 (by decide) (by decide) (by decide) (by decide) (by decide) (by decide),⟨by rw[row_size];exact H.kp.size,fun j hj hk=>(row_other w b j new (by omega)).trans (H.kp.heap j hj hk)⟩,H.sm,fun x hx=>?_,?_⟩
 ·obtain⟨j,hj⟩:=List.getElem?_of_mem hx
  by_cases e:i=j
  ·subst e
   rw[List.getElem?_set_self hil,Option.some.injEq]at hj
   subst hj
   exact⟨setRow_heap w b _ _ _ _ q1,q2,q3⟩
  ·rw[List.getElem?_set_ne e]at hj
   obtain⟨hjl,hje⟩:=List.getElem?_eq_some_iff.1 hj
   have hne:=key j hjl (fun h=>e h.symm)
   rw[hje]at hne
   obtain⟨r1,r2,r3⟩:=H.lc x (List.mem_of_getElem? hj)
   exact⟨(row_other w b x.1 new hne).trans r1,r2,r3⟩
 ·rw[List.pairwise_iff_getElem]
  intro j k hj hk hjk
  rw[List.length_set]at hj hk
  rw[List.getElem_set,List.getElem_set]
  by_cases e1:i=j
  ·rw[if_pos e1,if_neg (by omega)]
   exact fun e=>key k hk (by omega) e.symm
  ·rw[if_neg e1]
   by_cases e2:i=k
   ·rw[if_pos e2];exact key j hj (by omega)
   ·rw[if_neg e2];exact hnd j k hj hk hjk
theorem st_SslI(hgd:o.guard=none)(hT:Cel T n)(i b:Nat)(old:Array Value)(t:TypeId)(H:St' w0 ws w g κs κ c s l)(hi:l[i]?=some (b,old,t))(x y:Operand)(ho:o.op= .store T x y)(j:Nat)(hx:a.eval x= .pointer (some ⟨b,j,none⟩))(v:Value)(hy:a.eval y=v)(hv:v.cells.size=n)(h1:Ones v.cells)(h2:j+n≤old.size)(new:Array Value)(hn:putA old j v.cells=new)(hl:l.set i (b,new,t)=l')
 (h:∀ w',Off b w w'→St' w0 ws w' g κs κ c s l'→wpList Tryz.prog ops Q rest (a.put o.dst undef) w'):wpList Tryz.prog ops Q (o::rest) a w:=
 wpList_plain hgd fun K hK=>by
  have q1:=(H.lc _ (List.mem_of_getElem? hi)).1
  refine wp_put hT x y ho b j hx v hy hv h1 t old q1 h2 ?_
  rw[hn]
  exact hK _ _ (h _ (Off.row new) (hl▸H.setI hi new))
theorem St'.made{b:Nat}{cs:Array Value}{t:TypeId}(H:St' w0 ws w g κs κ c s l)(hb:Below w.heap.size w w')(h1:w.heap.size≤b)(h2:w'.heap[b]?=some (.cells cs t (0,0))):St' w0 ws w' g κs (upd κ b 6) c s ((b,cs,t)::l):=by
 have H':=H.color hb b 6 h1 (Array.getElem?_eq_some_iff.1 h2).1 (by decide)
 exact⟨H'.m,H'.kp,H'.sm,fun y hy=>by
  rcases List.mem_cons.1 hy with q|hy
  ·subst q;exact⟨h2,upd_at _ _ _,Nat.le_trans H.kp.size h1⟩
  ·exact H'.lc y hy,List.pairwise_cons.2 ⟨fun y hy q=>by
   have:=(Array.getElem?_eq_some_iff.1 (H.lc y hy).1).1
   simp only at q
   omega,H.nd⟩⟩
theorem St'.zeros{α:Type}{lay:α→Array Value}{e:TypeId}{v:Value}{x0:α}(hk:∀ x,(lay x).size=1)(hn:0<n)(H:St' w0 ws w g κs κ c s l)(hg:w.grownBy w' none)(h:Ow lay 1 w' w.heap.size e v (List.replicate n x0))(hv:v= .slice (some ⟨w.heap.size,0,none⟩) n n):St' w0 ws w' g κs (upd κ w.heap.size 6) c s ((w.heap.size,flat lay (List.replicate n x0),e)::l):=by
 refine H.made (bl_own (Below.refl _ _) hg (Nat.le_refl _) (fun _ h=>by cases h)) (Nat.le_refl _) ?_
 obtain⟨⟨h1,h2⟩,h3⟩:=h
 rcases h2 with⟨q,_⟩|⟨gg,cap,cur,q1,q2,q3,q4,q5,q6,q7⟩
 ·rw[hv]at q;cases q
 rw[hv]at q1
 simp only[Value.slice.injEq,Option.some.injEq,Addr.mk.injEq,and_true,true_and]at q1
 obtain⟨rfl,_,rfl⟩:=q1
 rw[Nat.mul_one]at q6
 have hfl:(flat lay (List.replicate n x0)).size=n:=by rw[flat_size hk,List.length_replicate,Nat.mul_one]
 have e1:cur=flat lay (List.replicate n x0):=by
  have:cur.toList=(flat lay (List.replicate n x0)).toList:=by
   rw[← q7,List.take_of_length_le]
   rw[Array.length_toList]
   omega
  exact Array.ext' this
 subst e1
 exact q3
theorem st_zeros{α:Type}{lay:α→Array Value}{e:TypeId}{t:Nat}(hT:SlT t e 1)(x0:α)(hz0:(Tryz.prog.info? e).map (fun i=>i.zero.map (·.cells))=some (some (lay x0)))(hk:∀ x,(lay x).size=1)(hgd:o.guard=none)(p q:Operand)(ho:o.op= .makeSlice t p q)(n:Nat)(hp:a.eval p= .int .i64 (n:Int))(hq:a.eval q= .int .i64 (n:Int))(hn:0<n)(hn2:n≤1000000)(H:St' w0 ws w g κs κ c s l)
 (h:∀ w' b κ',St' w0 ws w' g κs κ' c s ((b,flat lay (List.replicate n x0),e)::l)→wpList Tryz.prog ops Q rest (a.put o.dst (.slice (some ⟨b,0,none⟩) n n)) w'):wpList Tryz.prog ops Q (o::rest) a w:=by
 refine full_sl hT x0 hz0 hk hgd p q ho w.heap.size .i64 .i64 n n n hp hq rfl rfl hn2 (Nat.le_refl _) ?_
 intro v1 w1 h1 e1 g1
 have H1:=H.zeros hk hn g1 h1 e1
 subst e1
 exact h _ _ _ H1
theorem st_zero0{α:Type}{lay:α→Array Value}{e:TypeId}{t:Nat}(hT:SlT t e 1)(x0:α)(hz0:(Tryz.prog.info? e).map (fun i=>i.zero.map (·.cells))=some (some (lay x0)))(hk:∀ x,(lay x).size=1)(hgd:o.guard=none)(p q:Operand)(ho:o.op= .makeSlice t p q)(hp:a.eval p= .int .i64 0)(hq:a.eval q= .int .i64 0)(H:St' w0 ws w g κs κ c s l)
 (h:∀ w' b,St' w0 ws w' g κs κ c s l→wpList Tryz.prog ops Q rest (a.put o.dst (.slice (some ⟨b,0,none⟩) 0 0)) w'):wpList Tryz.prog ops Q (o::rest) a w:=by
 refine full_sl hT x0 hz0 hk hgd p q ho w.heap.size .i64 .i64 0 0 0 hp hq rfl rfl (by decide) (Nat.le_refl _) ?_
 intro v1 w1 h1 e1 g1
 have H1:=H.below (bl_own (Below.refl _ _) g1 (Nat.le_refl _) (fun _ h=>by cases h))
 subst e1
 exact h _ _ H1
theorem Rd.kp{α:Type}{lay:α→Array Value}{t:Sv}{L:List α}(h:Rd (fun j=>κ j=0) lay k w t L)(hk:Kp κ w w')(hs:Same κ κ' w):Rd (fun j=>κ' j=0) lay k w' t L:=by
 have h1:Rd (fun j=>κ j=0∧j<w.heap.size) lay k w t L:=h.mono fun j h1 h2=>⟨h1,h2⟩
 have h2:=h1.same hk.size (fun j hj=>hk.heap j hj.2 (.inl hj.1))
 exact h2.mono fun j h3 _=>(hs j h3.2).trans h3.1
end
theorem slT122b:SlT 122 4 1:=⟨Tryz.underlying122,.bool false,by kernel_rfl,by kernel_rfl,by decide⟩
end Go.Proofs.YtdmhfogegfmnfaaGreatDoor
