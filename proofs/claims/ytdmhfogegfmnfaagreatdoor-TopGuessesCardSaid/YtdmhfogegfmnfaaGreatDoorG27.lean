/- Contracts: a load takes its bytes, or waits. Conditions: the machine is one, its shape and its cache of data right, memory and bus not long. Contracts: an entry begins. No conditions. Contracts: an address, a beginning, what an entry tells. No conditions. Contracts: an entry starts; whether one can. Conditions: the machine is one, its shape and its cache of data right, .. -/
import Derived.Test.YtdmhfogegfmnfaaGreatDoorG00
import Derived.Test.YtdmhfogegfmnfaaGreatDoorG01
import Derived.Test.YtdmhfogegfmnfaaGreatDoorG04
import Derived.Test.YtdmhfogegfmnfaaGreatDoorG08
import Derived.Test.YtdmhfogegfmnfaaGreatDoorG16
import Derived.Test.YtdmhfogegfmnfaaGreatDoorG17
import Derived.Test.YtdmhfogegfmnfaaGreatDoorG19
import Derived.Test.YtdmhfogegfmnfaaGreatDoorG21
import Derived.Test.YtdmhfogegfmnfaaGreatDoorG24
import Derived.Test.YtdmhfogegfmnfaaGreatDoorG26
set_option maxRecDepth 100000
set_option maxHeartbeats 8000000
set_option linter.unusedVariables false
set_option linter.unusedSimpArgs false
namespace Go.Proofs.YtdmhfogegfmnfaaGreatDoor
open Go.RowKit
theorem load_un{v:Bool}{c:Co}{i:Nat}{y:En}(h:c.rob[i]?=some y)(hk:y.known=false):load1 v c i=c:=by
 unfold load1
 simp only[List.getD_eq_getElem?_getD,h,Option.getD_some]
 rw[if_pos hk]
theorem load_eq{c:Co}{i:Nat}{y:En}{dn:Int}{db:By}(h:c.rob[i]?=some y)(hk:y.known=true)(hd:decideR c.rob c.stores i=(dn,db))(v:Bool):load1 v c i=if dn=1 then setE c i (takeE y db)else if dn≠2 then c else if nearC c (lineU y.addr)then setE c i (takeE y (bytesE c y))else if hasQ c.bus (lineU y.addr) 1 then setE c i { y with is:=2 } else if roomC c v=true∧hasQ c.bus (lineU y.addr) 3=false then setE (askC c 1 (lineU y.addr) []) i { y with is:=2 } else c:=by
 unfold load1
 simp only[List.getD_eq_getElem?_getD,h,Option.getD_some,hd]
 rw[if_neg (by rw[hk];simp)]
def LoaP(w0 w:World)(g:Nat)(κ:Nat→Nat)(c:Co)(i:Nat)(w':World):Prop:=∃ v,MP w0 w g κ (load1 v c i) w'
theorem load_m(w0 w:World)(g:Nat)(κ:Nat→Nat)(c:Co)(s:Ss)(i:Nat)(M:MS w0 w g κ c s)(hi:i<c.rob.length)(hf:rightF c.conf=true)(hr:rightC c.data=true)(hm:c.mem.length≤1000000)(hn:c.bus.length≤900000)(hs:∀ p∈c.stores,p.data.length≤1000000)(hd:∀ y,c.rob[i]?=some y→(decideR c.rob c.stores i).2.length≤1000000):Calls Tryz.prog 97 #[.pointer (some ⟨g,0,none⟩),.int .i64 (i:Int)] w fun e w'=>e= .returned (.tuple #[])∧LoaP w0 w g κ c i w':=by
 have H:=St'.start M
 have HF:=Lib.hid hf
 have HR:=Lib.hid hr
 have HM:=Lib.hid hm
 have HN:=Lib.hid hn
 have HS:=Lib.hid hs
 have lr:=M.r.rob.sl.len
 clear M hf hr hm hn hs
 obtain⟨r,off,e0⟩:=H.robat (by omega)
 rw[e0]at H
 have hi2:i<s.rob.n:=by omega
 clear e0
 generalize s.rob.n=n at H hi2 lr
 generalize s.rob.c=C at H
 obtain⟨r',off',cur,y,eA,_,_,_,hy,hcl⟩:=H.m.entry (i:=i) hi
 cases eA
 have HDl:=Lib.hid (hd y hy)
 have HC:=Lib.hid hcl
 have HY:=Lib.hid hy
 have LR:=Lib.hid lr
 have HI:=Lib.hid hi
 have hi:=hi2
 have b3':(0:Int)≤(i:Int):=by omega
 have b4':(i:Int)<(n:Int):=by omega
 clear hy hcl hd lr hi2
 cases hk:y.known with
 | false=>
  have HK:=Lib.hid hk
  have E:=Lib.hid (load_un (v:=true) HY.out hk)
  have g0:(!y.known)=true:=by rw[hk];rfl
  clear hk
  go_enter Tryz.func97,Tryz.ntmps97
  go_wp2_with (first|((with_reducible refine gL 85 14 ?_);refine st_lrow rfl row85 _ rfl r (off+i*17) rfl (enC y) rfl HC.out ?_;try simp only[Act.put,xA,xB,xC,fR])|((with_reducible refine gL 31 11 ?_);refine st_ld1 rfl one31 H _ rfl 48 rfl _ (coC_48 _ _) ?_;go_frame)|((with_reducible refine gAl 85 ?_);refine st_al rfl (enC enZ) zero85 H rfl ?_;clear H;intro w1 b4 κ1 H;go_frame)|((with_reducible refine gS 85 4 ?_);refine st_slw rfl cel85 _ _ _ H _ _ rfl rfl _ rfl rfl rfl rfl ?_;clear H;intro w1 ho1 H;go_frame)|((with_reducible refine gL 4 16 ?_);refine st_ll1 rfl one4 H _ rfl _ 15 rfl _ 85 mm0 _ (enC_15 _) ?_;go_frame))
  ((try simp only[Exit.inBlock,Exit.then]);refine bodyPost_ret (results_none rfl _ _ _) rfl ?_)
  exact⟨rfl,true,by rw[E.out];exact H.mp⟩
 | true=>
  have HK:=Lib.hid hk
  have g0:(!y.known)=false:=by rw[hk];rfl
  obtain⟨dn,db,hdd⟩:∃ dn db,decideR c.rob c.stores i=(dn,db):=⟨_,_,rfl⟩
  have HD:=Lib.hid hdd
  have E:=Lib.hid (load_eq HY.out hk hdd)
  rw[hdd]at HDl
  clear hdd hk
  cases e1:(dn== 1)with
  | true=>
   have E1:=Lib.hid (show load1 true c i=setE c i (takeE y db) by rw[E.out,if_pos (by simpa using e1)])
   clear E
   go_enter Tryz.func97,Tryz.ntmps97
   go_wp2_with (first|((with_reducible refine gL 85 14 ?_);refine st_lrow rfl row85 _ rfl r (off+i*17) rfl (enC y) rfl HC.out ?_;try simp only[Act.put,xA,xB,xC,fR])|((with_reducible refine gL 31 11 ?_);refine st_ld1 rfl one31 H _ rfl 48 rfl _ (coC_48 _ _) ?_;go_frame)|((with_reducible refine gAl 85 ?_);refine st_al rfl (enC enZ) zero85 H rfl ?_;clear H;intro w1 b4 κ1 H;go_frame)|((with_reducible refine gS 85 4 ?_);refine st_slw rfl cel85 _ _ _ H _ _ rfl rfl _ rfl rfl rfl rfl ?_;clear H;intro w1 ho1 H;go_frame)|((with_reducible refine gL 4 16 ?_);refine st_ll1 rfl one4 H _ rfl _ 15 rfl _ 85 mm0 _ (enC_15 _) ?_;go_frame))
   go_wp2_with fail
   refine beginS 11 (l0:=zz17) H (by kernel_rfl) ?_ (by kernel_rfl);clear H;intro H
   iterate 4 refine rP H ?_;go_frame
   refine tC 4 24 rfl (by kernel_rfl) iQ (by(exact yields_one one31 rfl _ rfl _ rfl _ (fun w h=>(h.cell 48).trans (coC_48 _ _)))) H ?_;go_frame
   iterate 4 refine rP H ?_;go_frame
   refine tC 9 29 rfl (by kernel_rfl) iQ (by(exact yields_one one32 rfl _ rfl _ rfl _ (fun w h=>(h.cell 50).trans (coC_50 _ _)))) H ?_;go_frame
   refine tP 10 30 H ?_;go_frame
   refine o1C 11 31 (fun K hK=>?_)
   refine step_fn rfl _ _ _ (decide_any (some ⟨r,off,none⟩) n C c.rob s.stores.a s.stores.n s.stores.c c.stores i _ H.m.r.rob.sl H.m.r.rob.wf H.m.r.stores.sl HS.out hi) (by go_simp<;>rfl) ?_;unfold DecidP;rw[HD.out];rintro r w1 ⟨rfl,hb⟩;refine⟨_,rfl,?_⟩;replace H:=H.below hb
   refine hK.out _ _ (aB rfl) ?_;clear hK K;go_frame
   iterate 5 refine rQ rfl ?_;go_frame
   refine dnC ?_ _
   go_wp2_with (first|((with_reducible refine gL 28 34 ?_);refine st_ll1 rfl one28 H _ rfl _ 12 rfl _ 85 mm0 _ (enC_12 _) ?_;go_frame)|(go_at_call 28;refine(line_any' y.addr _).mono ?_;rintro r w1 ⟨rfl,rfl⟩))
   go_wp2_with fail
   refine beginS 10 (l0:=zz11) H (by kernel_rfl) ?_ (by kernel_rfl);clear H;intro H
   iterate 4 refine rP H ?_;go_frame
   refine tC 4 44 rfl (by kernel_rfl) iQ (by(exact yields_one one31 rfl _ rfl _ rfl _ (fun w h=>(h.cell 48).trans (coC_48 _ _)))) H ?_;go_frame
   refine tP 5 45 H ?_;go_frame
   refine tC 6 46 rfl (by kernel_rfl) iQ (by(exact yields_row row85 rfl _ rfl _ _ rfl _ rfl (fun w h j v hj=>(h.lcell mm0 _).trans (Sub.all _ j v hj)))) H ?_;go_frame
   refine tP 7 47 H ?_;go_frame
   refine o1C 8 48 (fun K hK=>?_)
   refine step_fn rfl _ _ _ (take_any y db HDl.out _) (by go_simp<;>rfl) ?_;rintro r w1 ⟨rfl,hb⟩;refine⟨_,rfl,?_⟩;replace H:=H.below hb
   refine hK.out _ _ (fun _=>H) ?_;clear hK K;go_frame
   refine tP 9 49 H ?_;go_frame
   refine o1N 10 (fun K hK=>?_)
   refine step_se rfl cel85 H _ _ rfl r off i 0 y (takeE y db) rfl HY.out rfl _ rfl rfl rfl (by decide) (en_put y _) ?_;clear H;intro w1 H
   refine hK.out _ _ (aB rfl) ?_;clear hK K;go_frame
   refine dnC ?_ _
   go_wp2
   go_end0
   exact⟨rfl,true,by rw[E1.out];exact H.mp⟩
  | false=>
   have N1:¬ dn=1:=by simpa using e1
   cases e2:(dn != 2)with
   | true=>
    have E1:=Lib.hid (show load1 true c i=c by rw[E.out,if_neg N1,if_pos (by simpa using e2)])
    clear E N1
    go_enter Tryz.func97,Tryz.ntmps97
    go_wp2_with (first|((with_reducible refine gL 85 14 ?_);refine st_lrow rfl row85 _ rfl r (off+i*17) rfl (enC y) rfl HC.out ?_;try simp only[Act.put,xA,xB,xC,fR])|((with_reducible refine gL 31 11 ?_);refine st_ld1 rfl one31 H _ rfl 48 rfl _ (coC_48 _ _) ?_;go_frame)|((with_reducible refine gAl 85 ?_);refine st_al rfl (enC enZ) zero85 H rfl ?_;clear H;intro w1 b4 κ1 H;go_frame)|((with_reducible refine gS 85 4 ?_);refine st_slw rfl cel85 _ _ _ H _ _ rfl rfl _ rfl rfl rfl rfl ?_;clear H;intro w1 ho1 H;go_frame)|((with_reducible refine gL 4 16 ?_);refine st_ll1 rfl one4 H _ rfl _ 15 rfl _ 85 mm0 _ (enC_15 _) ?_;go_frame))
    go_wp2_with fail
    refine beginS 11 (l0:=zz17) H (by kernel_rfl) ?_ (by kernel_rfl);clear H;intro H
    iterate 4 refine rP H ?_;go_frame
    refine tC 4 24 rfl (by kernel_rfl) iQ (by(exact yields_one one31 rfl _ rfl _ rfl _ (fun w h=>(h.cell 48).trans (coC_48 _ _)))) H ?_;go_frame
    iterate 4 refine rP H ?_;go_frame
    refine tC 9 29 rfl (by kernel_rfl) iQ (by(exact yields_one one32 rfl _ rfl _ rfl _ (fun w h=>(h.cell 50).trans (coC_50 _ _)))) H ?_;go_frame
    refine tP 10 30 H ?_;go_frame
    refine o1C 11 31 (fun K hK=>?_)
    refine step_fn rfl _ _ _ (decide_any (some ⟨r,off,none⟩) n C c.rob s.stores.a s.stores.n s.stores.c c.stores i _ H.m.r.rob.sl H.m.r.rob.wf H.m.r.stores.sl HS.out hi) (by go_simp<;>rfl) ?_;unfold DecidP;rw[HD.out];rintro r w1 ⟨rfl,hb⟩;refine⟨_,rfl,?_⟩;replace H:=H.below hb
    refine hK.out _ _ (aB rfl) ?_;clear hK K;go_frame
    iterate 5 refine rQ rfl ?_;go_frame
    refine dnC ?_ _
    go_wp2_with (first|((with_reducible refine gL 28 34 ?_);refine st_ll1 rfl one28 H _ rfl _ 12 rfl _ 85 mm0 _ (enC_12 _) ?_;go_frame)|(go_at_call 28;refine(line_any' y.addr _).mono ?_;rintro r w1 ⟨rfl,rfl⟩))
    ((try simp only[Exit.inBlock,Exit.then]);refine bodyPost_ret (results_none rfl _ _ _) rfl ?_)
    exact⟨rfl,true,by rw[E1.out];exact H.mp⟩
   | false=>
    have N2:¬ dn≠2:=by simpa using e2
    have E2:=Lib.hid (fun v=>(E.out v).trans ((if_neg N1).trans (if_neg N2)))
    clear E N1 N2
    cases hnr:nearC c (lineU y.addr)with
    | true=>
     have HNr:=Lib.hid hnr
     have E1:=Lib.hid ((E2.out true).trans (if_pos hnr))
     clear E2 hnr
     go_enter Tryz.func97,Tryz.ntmps97
     go_wp2_with (first|((with_reducible refine gL 85 14 ?_);refine st_lrow rfl row85 _ rfl r (off+i*17) rfl (enC y) rfl HC.out ?_;try simp only[Act.put,xA,xB,xC,fR])|((with_reducible refine gL 31 11 ?_);refine st_ld1 rfl one31 H _ rfl 48 rfl _ (coC_48 _ _) ?_;go_frame)|((with_reducible refine gAl 85 ?_);refine st_al rfl (enC enZ) zero85 H rfl ?_;clear H;intro w1 b4 κ1 H;go_frame)|((with_reducible refine gS 85 4 ?_);refine st_slw rfl cel85 _ _ _ H _ _ rfl rfl _ rfl rfl rfl rfl ?_;clear H;intro w1 ho1 H;go_frame)|((with_reducible refine gL 4 16 ?_);refine st_ll1 rfl one4 H _ rfl _ 15 rfl _ 85 mm0 _ (enC_15 _) ?_;go_frame))
     go_wp2_with fail
     refine beginS 11 (l0:=zz17) H (by kernel_rfl) ?_ (by kernel_rfl);clear H;intro H
     iterate 4 refine rP H ?_;go_frame
     refine tC 4 24 rfl (by kernel_rfl) iQ (by(exact yields_one one31 rfl _ rfl _ rfl _ (fun w h=>(h.cell 48).trans (coC_48 _ _)))) H ?_;go_frame
     iterate 4 refine rP H ?_;go_frame
     refine tC 9 29 rfl (by kernel_rfl) iQ (by(exact yields_one one32 rfl _ rfl _ rfl _ (fun w h=>(h.cell 50).trans (coC_50 _ _)))) H ?_;go_frame
     refine tP 10 30 H ?_;go_frame
     refine o1C 11 31 (fun K hK=>?_)
     refine step_fn rfl _ _ _ (decide_any (some ⟨r,off,none⟩) n C c.rob s.stores.a s.stores.n s.stores.c c.stores i _ H.m.r.rob.sl H.m.r.rob.wf H.m.r.stores.sl HS.out hi) (by go_simp<;>rfl) ?_;unfold DecidP;rw[HD.out];rintro r w1 ⟨rfl,hb⟩;refine⟨_,rfl,?_⟩;replace H:=H.below hb
     refine hK.out _ _ (aB rfl) ?_;clear hK K;go_frame
     iterate 5 refine rQ rfl ?_;go_frame
     refine dnC ?_ _
     go_wp2_with (first|((with_reducible refine gL 28 34 ?_);refine st_ll1 rfl one28 H _ rfl _ 12 rfl _ 85 mm0 _ (enC_12 _) ?_;go_frame)|(go_at_call 28;refine(line_any' y.addr _).mono ?_;rintro r w1 ⟨rfl,rfl⟩)|(go_at_call 120;refine(near_any w0 _ g _ c _ (lineU y.addr) H.m).mono ?_;rw[HNr.out];rintro r w1 ⟨rfl,hb⟩;replace H:=H.below hb))
     go_wp2_with fail
     refine beginE 12 (l0:=zz13) H (by kernel_rfl) ?_ (by kernel_rfl);clear H;intro H
     iterate 4 refine rP ⟨_,H⟩ ?_;go_frame
     refine tC 4 61 rfl (by kernel_rfl) iQ (by(exact yields_one one31 rfl _ rfl _ rfl _ (fun w h=>(h.cell 48).trans (coC_48 _ _)))) ⟨_,H⟩ ?_;go_frame
     refine tP 5 62 ⟨_,H⟩ ?_;go_frame
     refine tC 6 63 rfl (by kernel_rfl) iQ (by(exact yields_row row85 rfl _ rfl _ _ rfl _ rfl (fun w h j v hj=>(h.lcell mm0 _).trans (Sub.all _ j v hj)))) ⟨_,H⟩ ?_;go_frame
     refine tP 7 64 ⟨_,H⟩ ?_;go_frame
     refine tC 8 65 rfl (by kernel_rfl) iQ (by(exact yields_row row85 rfl _ rfl _ _ rfl _ rfl (fun w h j v hj=>(h.lcell mm0 _).trans (Sub.all _ j v hj)))) ⟨_,H⟩ ?_;go_frame
     refine o1C 9 66 (fun K hK=>?_)
     refine step_fn rfl _ _ _ (bytes_m w0 _ g _ _ _ y H.m HR.out HM.out) (by go_simp<;>rfl) ?_;rintro r w1 ⟨rfl,κ2,hm2,hk2,hs2⟩;refine⟨_,rfl,?_⟩;have H1:=H.call hm2 hk2 hs2;clear H hm2 hk2 hs2;have H:=H1;clear H1
     refine hK.out _ _ (fun _=>⟨_,H⟩) ?_;clear hK K;go_frame
     refine o1C 10 67 (fun K hK=>?_)
     refine step_fn rfl _ _ _ (take_any y (bytesE c y) (Nat.le_trans (bytesE_len _ _) (by decide)) _) (by go_simp<;>rfl) ?_;rintro r w1 ⟨rfl,hb⟩;refine⟨_,rfl,?_⟩;replace H:=H.below hb
     refine hK.out _ _ (fun _=>⟨_,H⟩) ?_;clear hK K;go_frame
     refine tP 11 68 ⟨_,H⟩ ?_;go_frame
     refine o1N 12 (fun K hK=>?_)
     refine step_se rfl cel85 H _ _ rfl r off i 0 y (takeE y (bytesE c y)) rfl HY.out rfl _ rfl rfl rfl (by decide) (en_put y _) ?_;clear H;intro w1 H
     refine hK.out _ _ (aB rfl) ?_;clear hK K;go_frame
     refine dnC ?_ _
     go_wp2
     go_end0
     exact⟨rfl,true,by rw[E1.out];exact H.mp⟩
    | false=>
     have HNr:=Lib.hid hnr
     have E3:=Lib.hid (fun v=>(E2.out v).trans (if_neg (by rw[hnr];simp)))
     clear E2 hnr
     cases hq1:hasQ c.bus (lineU y.addr) 1 with
     | true=>
      have HQ1:=Lib.hid hq1
      have E1:=Lib.hid ((E3.out true).trans (if_pos hq1))
      clear E3 hq1
      go_enter Tryz.func97,Tryz.ntmps97
      go_wp2_with (first|((with_reducible refine gL 85 14 ?_);refine st_lrow rfl row85 _ rfl r (off+i*17) rfl (enC y) rfl HC.out ?_;try simp only[Act.put,xA,xB,xC,fR])|((with_reducible refine gL 31 11 ?_);refine st_ld1 rfl one31 H _ rfl 48 rfl _ (coC_48 _ _) ?_;go_frame)|((with_reducible refine gAl 85 ?_);refine st_al rfl (enC enZ) zero85 H rfl ?_;clear H;intro w1 b4 κ1 H;go_frame)|((with_reducible refine gS 85 4 ?_);refine st_slw rfl cel85 _ _ _ H _ _ rfl rfl _ rfl rfl rfl rfl ?_;clear H;intro w1 ho1 H;go_frame)|((with_reducible refine gL 4 16 ?_);refine st_ll1 rfl one4 H _ rfl _ 15 rfl _ 85 mm0 _ (enC_15 _) ?_;go_frame))
      go_wp2_with fail
      refine beginS 11 (l0:=zz17) H (by kernel_rfl) ?_ (by kernel_rfl);clear H;intro H
      iterate 4 refine rP H ?_;go_frame
      refine tC 4 24 rfl (by kernel_rfl) iQ (by(exact yields_one one31 rfl _ rfl _ rfl _ (fun w h=>(h.cell 48).trans (coC_48 _ _)))) H ?_;go_frame
      iterate 4 refine rP H ?_;go_frame
      refine tC 9 29 rfl (by kernel_rfl) iQ (by(exact yields_one one32 rfl _ rfl _ rfl _ (fun w h=>(h.cell 50).trans (coC_50 _ _)))) H ?_;go_frame
      refine tP 10 30 H ?_;go_frame
      refine o1C 11 31 (fun K hK=>?_)
      refine step_fn rfl _ _ _ (decide_any (some ⟨r,off,none⟩) n C c.rob s.stores.a s.stores.n s.stores.c c.stores i _ H.m.r.rob.sl H.m.r.rob.wf H.m.r.stores.sl HS.out hi) (by go_simp<;>rfl) ?_;unfold DecidP;rw[HD.out];rintro r w1 ⟨rfl,hb⟩;refine⟨_,rfl,?_⟩;replace H:=H.below hb
      refine hK.out _ _ (aB rfl) ?_;clear hK K;go_frame
      iterate 5 refine rQ rfl ?_;go_frame
      refine dnC ?_ _
      go_wp2_with (first|((with_reducible refine gD (Op.buildSlice 22 1 #[(0,.const (.int .i64 1))]) ?_);refine st_Sbi rfl (.int .i64 1) rfl H _ slT22' rfl rfl ?_;clear H;intro w1 b76 κ2 hlt1 hb1 hs1 H;try simp only[Act.put,xA,xB,xC,fR])|((with_reducible refine gL 28 34 ?_);refine st_ll1 rfl one28 H _ rfl _ 12 rfl _ 85 mm0 _ (enC_12 _) ?_;go_frame)|((with_reducible refine gL 36 73 ?_);refine st_ld1 rfl one36 H _ rfl 55 rfl _ (coC_55 _ _) ?_;go_frame)|((with_reducible refine gL 31 81 ?_);refine st_ld1 rfl one31 H _ rfl 48 rfl _ (coC_48 _ _) ?_;go_frame)|(go_at_call 28;refine(line_any' y.addr _).mono ?_;rintro r w1 ⟨rfl,rfl⟩)|(go_at_call 120;refine(near_any w0 _ g _ c _ (lineU y.addr) H.m).mono ?_;rw[HNr.out];rintro r w1 ⟨rfl,hb⟩;replace H:=H.below hb)|(go_at_call 68;with_reducible show Calls Tryz.prog 68 #[_,_,.slice (some ⟨b76,0,none⟩) _ _] _ _;refine(hasQ_any s.bus.a s.bus.n s.bus.c c.bus (lineU y.addr) b76 1 1 _ H.m.r.bus.sl ((H.lcell mm0 0).trans rfl) (H.llt mm0)).mono ?_;rw[HQ1.out];rintro r w1 ⟨rfl,hb⟩;replace H:=H.below hb)|((with_reducible refine gS 3 85 ?_);refine st_se rfl cel3 H _ _ rfl r off i 8 y { y with is:=2 } rfl HY.out rfl (.int .i64 2) rfl rfl rfl (by decide) (enU_8 y 2).symm ?_;clear H;intro w1 H;try simp only[Act.put,xA,xB,xC,fR]))
      go_end0
      exact⟨rfl,true,by rw[E1.out];exact H.mp⟩
     | false=>
      have HQ1:=Lib.hid hq1
      have E4:=Lib.hid (fun v=>(E3.out v).trans (if_neg (by rw[hq1];simp)))
      clear E3 hq1
      go_enter Tryz.func97,Tryz.ntmps97
      go_wp2_with (first|((with_reducible refine gL 85 14 ?_);refine st_lrow rfl row85 _ rfl r (off+i*17) rfl (enC y) rfl HC.out ?_;try simp only[Act.put,xA,xB,xC,fR])|((with_reducible refine gL 31 11 ?_);refine st_ld1 rfl one31 H _ rfl 48 rfl _ (coC_48 _ _) ?_;go_frame)|((with_reducible refine gAl 85 ?_);refine st_al rfl (enC enZ) zero85 H rfl ?_;clear H;intro w1 b4 κ1 H;go_frame)|((with_reducible refine gS 85 4 ?_);refine st_slw rfl cel85 _ _ _ H _ _ rfl rfl _ rfl rfl rfl rfl ?_;clear H;intro w1 ho1 H;go_frame)|((with_reducible refine gL 4 16 ?_);refine st_ll1 rfl one4 H _ rfl _ 15 rfl _ 85 mm0 _ (enC_15 _) ?_;go_frame))
      go_wp2_with fail
      refine beginS 11 (l0:=zz17) H (by kernel_rfl) ?_ (by kernel_rfl);clear H;intro H
      iterate 4 refine rP H ?_;go_frame
      refine tC 4 24 rfl (by kernel_rfl) iQ (by(exact yields_one one31 rfl _ rfl _ rfl _ (fun w h=>(h.cell 48).trans (coC_48 _ _)))) H ?_;go_frame
      iterate 4 refine rP H ?_;go_frame
      refine tC 9 29 rfl (by kernel_rfl) iQ (by(exact yields_one one32 rfl _ rfl _ rfl _ (fun w h=>(h.cell 50).trans (coC_50 _ _)))) H ?_;go_frame
      refine tP 10 30 H ?_;go_frame
      refine o1C 11 31 (fun K hK=>?_)
      refine step_fn rfl _ _ _ (decide_any (some ⟨r,off,none⟩) n C c.rob s.stores.a s.stores.n s.stores.c c.stores i _ H.m.r.rob.sl H.m.r.rob.wf H.m.r.stores.sl HS.out hi) (by go_simp<;>rfl) ?_;unfold DecidP;rw[HD.out];rintro r w1 ⟨rfl,hb⟩;refine⟨_,rfl,?_⟩;replace H:=H.below hb
      refine hK.out _ _ (aB rfl) ?_;clear hK K;go_frame
      iterate 5 refine rQ rfl ?_;go_frame
      refine dnC ?_ _
      go_wp2_with (first|((with_reducible refine gD (Op.buildSlice 22 1 #[(0,.const (.int .i64 1))]) ?_);refine st_Sbi rfl (.int .i64 1) rfl H _ slT22' rfl rfl ?_;clear H;intro w1 b76 κ2 hlt1 hb1 hs1 H;try simp only[Act.put,xA,xB,xC,fR])|((with_reducible refine gL 28 34 ?_);refine st_ll1 rfl one28 H _ rfl _ 12 rfl _ 85 mm0 _ (enC_12 _) ?_;go_frame)|((with_reducible refine gL 36 73 ?_);refine st_ld1 rfl one36 H _ rfl 55 rfl _ (coC_55 _ _) ?_;go_frame)|((with_reducible refine gL 31 91 ?_);refine st_ld1 rfl one31 H _ rfl 48 rfl _ (coC_48 _ _) ?_;go_frame)|(go_at_call 28;refine(line_any' y.addr _).mono ?_;rintro r w1 ⟨rfl,rfl⟩)|(go_at_call 120;refine(near_any w0 _ g _ c _ (lineU y.addr) H.m).mono ?_;rw[HNr.out];rintro r w1 ⟨rfl,hb⟩;replace H:=H.below hb)|(go_at_call 68;with_reducible show Calls Tryz.prog 68 #[_,_,.slice (some ⟨b76,0,none⟩) _ _] _ _;refine(hasQ_any s.bus.a s.bus.n s.bus.c c.bus (lineU y.addr) b76 1 1 _ H.m.r.bus.sl ((H.lcell mm0 0).trans rfl) (H.llt mm0)).mono ?_;rw[HQ1.out];rintro r w1 ⟨rfl,hb⟩;replace H:=H.below hb)|(go_at_call 118;refine(visible_weak (some ⟨r,off,none⟩) n C c.rob i _ H.m.r.rob.sl).mono ?_;rintro r w1 ⟨⟨v,rfl⟩,hb⟩;replace H:=H.below hb))
      refine(room_any w0 _ g _ c _ v H.m HF.out).mono ?_
      rintro r1 w1 ⟨rfl,hb⟩
      replace H:=H.below hb
      cases hrm:roomC c v with
      | false=>
       have E1:=Lib.hid ((E4.out v).trans (if_neg (by rw[hrm];simp)))
       go_wp2_with fail
       go_end0
       exact⟨rfl,v,by rw[E1.out];exact H.mp⟩
      | true=>
       cases hq3:hasQ c.bus (lineU y.addr) 3
       case' true=>
        have HQ3:=Lib.hid hq3
        have E1:=Lib.hid ((E4.out v).trans (if_neg (by rw[hq3];simp)))
       case' false=>
        have HQ3:=Lib.hid hq3
        have E1:=Lib.hid ((E4.out v).trans (if_pos ⟨hrm,hq3⟩))
       all_goals
        clear hrm hq3
        go_wp2_with (first|((with_reducible refine gD (Op.buildSlice 22 1 #[(0,.const (.int .i64 3))]) ?_);refine sTk rfl (fun K hK=>?_);refine wp_Sbi (.int .i64 3) rfl H _ slT22' rfl rfl ?_;intro w1 b103 κ2 hlt1 hb1 hs1 H1;refine hK _ _ ?_;clear hK K;clear H;have H:=H1;clear H1;try simp only[Act.put,xA,xB,xC,fR])|((with_reducible refine gL 36 100 ?_);refine sTj rfl ?_;refine wp_ld1 one36 H _ rfl 55 rfl _ (coC_55 _ _) ?_;go_frame)|(go_at_call 68;with_reducible show Calls Tryz.prog 68 #[_,_,.slice (some ⟨b103,0,none⟩) _ _] _ _;refine(hasQ_any s.bus.a s.bus.n s.bus.c c.bus (lineU y.addr) b103 1 3 _ H.m.r.bus.sl ((H.lcell mm0 0).trans rfl) (H.llt mm0)).mono ?_;rw[HQ3.out];rintro r w1 ⟨rfl,hb⟩;replace H:=H.below hb)|((with_reducible refine gL 31 113 ?_);refine st_ld1 rfl one31 H _ rfl 48 rfl _ (coC_48 _ _) ?_;go_frame)|(go_at_call 70;refine(ask_any w0 _ g _ c _ 1 (lineU y.addr) [] H.m HN.out).mono ?_;rintro r w1 ⟨rfl,hmp⟩;obtain⟨κ2,s2,H1⟩:=H.mpc hmp;clear hmp;clear H;have H:=H1;clear H1;have q0:c.rob.length=s2.rob.n:=H.m.r.rob.sl.len;obtain⟨r2,off2,e2⟩:=H.robat (Nat.lt_of_lt_of_eq (Nat.zero_lt_of_lt HI.out) q0);rw[e2]at H;have b5':(i:Int)<(s2.rob.n:Int):=Int.ofNat_lt.2 (Nat.lt_of_lt_of_eq HI.out q0);clear q0 e2)|((with_reducible refine gS 3 117 ?_);refine st_se rfl cel3 H _ _ rfl r2 off2 i 8 y { y with is:=2 } rfl HY.out rfl (.int .i64 2) rfl rfl rfl (by decide) (enU_8 y 2).symm ?_;clear H;intro w1 H;try simp only[Act.put,xA,xB,xC,fR]))
        go_end0
        exact⟨rfl,v,by rw[E1.out];exact H.mp⟩
theorem start_any(e:En)(a b:U)(w:World):Calls Tryz.prog 98 #[.agg (enC e),.int .u32 a.v,.int .u32 b.v] w fun r w'=>r= .returned (.agg (enC (startE e a b)))∧Below w.heap.size w w':=by
 have H:=Lo.start w
 have p2:IntKind.u32.wrap (e.pc.v+4)=(addU e.pc 4).v:=by rw[IntKind.wrap_u32];rfl
 have TK:=Lib.hid (fun W=>took_any e.i.op a.v b.v W a.lo a.hi b.lo b.hi)
 go_enter Tryz.func98,Tryz.ntmps98
 go_wp2_with (first|((with_reducible refine gBx 85 0 ?_);refine st_Lbox rfl _ H _ rfl rfl ?_;clear H;intro w1 b1 H;go_frame)|((with_reducible refine gAl 85 ?_);refine st_Lal rfl (enC enZ) zero85 H rfl ?_;clear H;intro w1 b1 hlt1 hb1 H;go_frame)|((with_reducible refine gL 83 10 ?_);refine st_Lllr rfl row83 H _ rfl _ 2 rfl _ _ mm1 (inC _) rfl (sub_inst _) ?_;go_frame)|((with_reducible refine gL 3 13 ?_);refine st_Lll1 rfl one3 H _ rfl _ 8 rfl _ _ mm1 _ (enC_8 _) ?_;go_frame)|((with_reducible refine gL 85 3 ?_);refine st_Lllr rfl row85 H _ rfl _ 0 rfl _ _ mm1 _ rfl (Sub.all _) ?_;go_frame)|((with_reducible refine gS 85 6 ?_);refine st_Lslw rfl cel85 _ _ _ H _ _ rfl rfl _ rfl rfl rfl rfl ?_;clear H;intro w1 ho1 H;go_frame)|((with_reducible refine gS 3 25 ?_);refine st_Lsl2 rfl cel3 _ _ _ _ H _ _ rfl 8 rfl _ rfl rfl rfl (Nat.le_of_ble_eq_true rfl) _ (enU_8 _ _) ?_;clear H;intro w1 ho1 H;go_frame)|((with_reducible refine gS 28 26 ?_);refine st_Lsl2 rfl cel28 _ _ _ _ H _ _ rfl 10 rfl _ rfl rfl rfl (Nat.le_of_ble_eq_true rfl) _ (enU_10z _) ?_;clear H;intro w1 ho1 H;go_frame)|((with_reducible refine gL 83 27 ?_);refine st_Lllr rfl row83 H _ rfl _ 2 rfl _ _ mm1 (inC _) rfl (sub_inst _) ?_;go_frame)|((with_reducible refine gL 83 31 ?_);refine st_Lllr rfl row83 H _ rfl _ 2 rfl _ _ mm1 (inC _) rfl (sub_inst _) ?_;go_frame)|((with_reducible refine gL 28 33 ?_);refine st_Lll1 rfl one28 H _ rfl _ 1 rfl _ _ mm1 _ (enC_1 _) ?_;go_frame)|((with_reducible refine gS 28 38 ?_);refine st_Lsl2 rfl cel28 _ _ _ _ H _ _ rfl 10 rfl _ rfl rfl rfl (Nat.le_of_ble_eq_true rfl) _ (enU_10 _ _) ?_;clear H;intro w1 ho1 H;go_frame)|((with_reducible refine gL 28 39 ?_);refine st_Lll1 rfl one28 H _ rfl _ 1 rfl _ _ mm1 _ (enC_1 _) ?_;go_frame)|((with_reducible refine gS 28 42 ?_);refine st_Lsl2 rfl cel28 _ _ _ _ H _ _ rfl 11 rfl _ rfl rfl rfl (Nat.le_of_ble_eq_true rfl) _ (enU_11 _ _) ?_;clear H;intro w1 ho1 H;go_frame)|((with_reducible refine gS 3 43 ?_);refine st_Lsl2 rfl cel3 _ _ _ _ H _ _ rfl 9 rfl _ rfl rfl rfl (Nat.le_of_ble_eq_true rfl) _ (enU_9 _ _) ?_;clear H;intro w1 ho1 H;go_frame)|((with_reducible refine gS 3 47 ?_);refine st_Lsl2 rfl cel3 _ _ _ _ H _ _ rfl 9 rfl _ rfl rfl rfl (Nat.le_of_ble_eq_true rfl) _ (enU_9 _ _) ?_;clear H;intro w1 ho1 H;go_frame)|((with_reducible refine gL 3 51 ?_);refine st_Lll1 rfl one3 H _ rfl _ 2 rfl _ _ mm1 _ (enC_2 _) ?_;go_frame)|((with_reducible refine gS 3 56 ?_);refine st_Lsl2 rfl cel3 _ _ _ _ H _ _ rfl 14 rfl _ rfl rfl rfl (Nat.le_of_ble_eq_true rfl) _ (enU_14 _ _) ?_;clear H;intro w1 ho1 H;go_frame)|((with_reducible refine gL 3 57 ?_);refine st_Lll1 rfl one3 H _ rfl _ 14 rfl _ _ mm1 _ (enC_14 _) ?_;go_frame)|((with_reducible refine gS 3 59 ?_);refine st_Lsl2 rfl cel3 _ _ _ _ H _ _ rfl 9 rfl _ rfl rfl rfl (Nat.le_of_ble_eq_true rfl) _ (enU_9 _ _) ?_;clear H;intro w1 ho1 H;go_frame)|((with_reducible refine gL 83 63 ?_);refine st_Lllr rfl row83 H _ rfl _ 2 rfl _ _ mm1 (inC _) rfl (sub_inst _) ?_;go_frame)|((with_reducible refine gL 28 65 ?_);refine st_Lll1 rfl one28 H _ rfl _ 1 rfl _ _ mm1 _ (enC_1 _) ?_;go_frame)|((with_reducible refine gS 28 74 ?_);refine st_Lsl2 rfl cel28 _ _ _ _ H _ _ rfl 11 rfl _ rfl rfl rfl (Nat.le_of_ble_eq_true rfl) _ (enU_11 _ _) ?_;clear H;intro w1 ho1 H;go_frame)|((with_reducible refine gS 3 75 ?_);refine st_Lsl2 rfl cel3 _ _ _ _ H _ _ rfl 13 rfl _ rfl rfl rfl (Nat.le_of_ble_eq_true rfl) _ (enU_13 _ _) ?_;clear H;intro w1 ho1 H;go_frame)|((with_reducible refine gS 28 76 ?_);refine st_Lsl2 rfl cel28 _ _ _ _ H _ _ rfl 10 rfl _ rfl rfl rfl (Nat.le_of_ble_eq_true rfl) _ (enU_10z _) ?_;clear H;intro w1 ho1 H;go_frame)|(go_at_call 52;refine(kind_any _ _ _ _ _ _).mono ?_;rintro r w1 ⟨rfl,hb⟩;replace H:=H.below hb)|(go_at_call 78;refine(writes_any _ _ _ _ _ _).mono ?_;rintro r w1 ⟨rfl,hb⟩;replace H:=H.below hb)|(go_at_call 121;refine(value_any e.i e.pc a b _).mono ?_;rintro r w1 ⟨rfl,hb⟩;replace H:=H.below hb)|(go_at_call 122;refine(TK.out _).mono ?_;rintro r w1 ⟨rfl,rfl⟩)|(go_at_call 123;refine(target_any e.i e.pc a b _).mono ?_;rintro r w1 ⟨rfl,hb⟩;replace H:=H.below hb))
 all_goals
  apply ret_row row85 rfl _ (enC _) rfl (enC_size _) (t:=85) (fr:=(0,0)) (hd:=rfl) (hg:=H.row mm0)
  refine⟨en_eq ?_,H.bl⟩
  have TT:=TK.out
  clear TT TK
  unfold startE workE
  simp_all
theorem addr_any(e:En)(size:Int)(a:U)(hs:size≤1000000)(w:World):Calls Tryz.prog 96 #[.agg (enC e),.int .i64 size,.int .u32 a.v] w fun r w'=>r= .returned (.agg (enC (addrE e size a)))∧Below w.heap.size w w':=by
 have p1:(a.v+e.i.imm.v) % 4294967296=(addU a e.i.imm.v).v:=rfl
 have MR:=Lib.hid (fun W=>mright_any size (addU a e.i.imm.v) (sz e.i.op) hs W)
 cases c1:decide (kd e.i.op=3∨kd e.i.op=4)with
 | false=>
  have c1':=of_decide_eq_false c1
  have d1:(kd e.i.op != 3)=true:=by rw[bne_iff_ne];omega
  have d2:(kd e.i.op != 4)=true:=by rw[bne_iff_ne];omega
  have E:=Lib.hid (show addrE e size a=e by unfold addrE;rw[if_pos (by omega)])
  clear c1 c1' p1
  go_enter Tryz.func96,Tryz.ntmps96
  go_wp2_with (first|((with_reducible refine gAl 85 ?_);refine alloc_row (enC enZ) zero85 rfl rfl ?_;try simp only[Act.put,xA,xB,xC,fR])|((with_reducible refine gD (Op.load 85 _) ?_);apply take_row row85 rfl _ rfl _ rfl (enC _) (enC_size _) (t:=85) (fr:=(0,0));(·(repeat(first|(refine heap_at _ _ _ ?_;(with_reducible rfl))|(refine(more_heap' _ _ _ _ ?_).trans ?_;(simp only[sZ]<;>omega))|(refine(heap_past _ _ _ ?_).trans ?_;(simp only[sZ]<;>omega)))));try simp only[Act.put,xA,xB,xC,fR])|((with_reducible refine gD (Op.store 85 _ _) ?_);apply store_row row85 rfl _ _ rfl _ (enC _) rfl rfl (enC_size _) (enC_ones _) (t:=85) (old:=enC _) (h2:=enC_size _);(·(repeat(first|(refine heap_at _ _ _ ?_;(simp only[sZ]<;>omega))|(refine(more_heap' _ _ _ _ ?_).trans ?_;(simp only[sZ]<;>omega)))));try simp only[Act.put,xA,xB,xC,fR];try simp (disch:=(first|(simp only[sZ]<;>omega)|fail)) only[more_row,alloc_row_past,alloc_row_at,drew_row,drewN_row])|(go_at_call 52;refine(kind_any _ _ _ _ _ _).mono ?_;rintro r w1 ⟨rfl,hb⟩;obtain⟨ow,kw,rfl⟩:=more_of hb;clear hb))
  (apply ret_row row85 rfl _ (enC _) rfl (enC_size _) (t:=85) (fr:=(0,0)) (hd:=rfl);(·(repeat(first|(refine heap_at _ _ _ ?_;(simp only[sZ]<;>omega))|(refine(more_heap' _ _ _ _ ?_).trans ?_;(simp only[sZ]<;>omega))))))
  exact⟨en_eq E.out.symm,by(repeat(first|exact Below.refl _ _|(refine Below.alloc ?_ ?_ _;rotate_left;(first|omega|(simp only[sZ]<;>omega)))|(refine bl_more ?_ ?_ _ _;rotate_left;(simp only[sZ]<;>omega))))⟩
 | true=>
  have c1':=of_decide_eq_true c1
  have d1:(kd e.i.op != 3&&kd e.i.op != 4)=false:=by rcases c1' with h|h<;>rw[h]<;>rfl
  cases c2:decide (e.is=0∧e.known=false)with
  | false=>
   have c2':=of_decide_eq_false c2
   have E:=Lib.hid (show addrE e size a=e by unfold addrE;rw[if_pos (by by_cases q:e.is=0<;>cases qq:e.known<;>simp_all)])
   have d3:e.is=0→e.known=true:=fun h=>by cases qq:e.known<;>simp_all
   have D3:=Lib.hid d3
   clear c1 c2 c2' p1 d3
   by_cases q:e.is=0
   ·have k:=D3.out q
    have q':(e.is != 0)=false:=by rw[q];rfl
    rcases c1' with c|c
    all_goals
     have c3:(kd e.i.op != 3)=(kd e.i.op != 3):=rfl
     rw[c]at d1
     go_enter Tryz.func96,Tryz.ntmps96
     go_wp2_with (first|((with_reducible refine gAl 85 ?_);refine alloc_row (enC enZ) zero85 rfl rfl ?_;try simp only[Act.put,xA,xB,xC,fR])|((with_reducible refine gD (Op.load 85 _) ?_);apply take_row row85 rfl _ rfl _ rfl (enC _) (enC_size _) (t:=85) (fr:=(0,0));(·(repeat(first|(refine heap_at _ _ _ ?_;(with_reducible rfl))|(refine(more_heap' _ _ _ _ ?_).trans ?_;(simp only[sZ]<;>omega))|(refine(heap_past _ _ _ ?_).trans ?_;(simp only[sZ]<;>omega)))));try simp only[Act.put,xA,xB,xC,fR])|((with_reducible refine gD (Op.store 85 _ _) ?_);apply store_row row85 rfl _ _ rfl _ (enC _) rfl rfl (enC_size _) (enC_ones _) (t:=85) (old:=enC _) (h2:=enC_size _);(·(repeat(first|(refine heap_at _ _ _ ?_;(simp only[sZ]<;>omega))|(refine(more_heap' _ _ _ _ ?_).trans ?_;(simp only[sZ]<;>omega)))));try simp only[Act.put,xA,xB,xC,fR];try simp (disch:=(first|(simp only[sZ]<;>omega)|fail)) only[more_row,alloc_row_past,alloc_row_at,drew_row,drewN_row])|(go_at_call 52;refine(kind_any _ _ _ _ _ _).mono ?_;rintro r w1 ⟨rfl,hb⟩;obtain⟨ow,kw,rfl⟩:=more_of hb;clear hb))
     (apply ret_row row85 rfl _ (enC _) rfl (enC_size _) (t:=85) (fr:=(0,0)) (hd:=rfl);(·(repeat(first|(refine heap_at _ _ _ ?_;(simp only[sZ]<;>omega))|(refine(more_heap' _ _ _ _ ?_).trans ?_;(simp only[sZ]<;>omega))))))
     exact⟨en_eq E.out.symm,by(repeat(first|exact Below.refl _ _|(refine Below.alloc ?_ ?_ _;rotate_left;(first|omega|(simp only[sZ]<;>omega)))|(refine bl_more ?_ ?_ _ _;rotate_left;(simp only[sZ]<;>omega))))⟩
   ·have q':(e.is != 0)=true:=by rw[bne_iff_ne];exact q
    rcases c1' with c|c
    all_goals
     rw[c]at d1
     go_enter Tryz.func96,Tryz.ntmps96
     go_wp2_with (first|((with_reducible refine gAl 85 ?_);refine alloc_row (enC enZ) zero85 rfl rfl ?_;try simp only[Act.put,xA,xB,xC,fR])|((with_reducible refine gD (Op.load 85 _) ?_);apply take_row row85 rfl _ rfl _ rfl (enC _) (enC_size _) (t:=85) (fr:=(0,0));(·(repeat(first|(refine heap_at _ _ _ ?_;(with_reducible rfl))|(refine(more_heap' _ _ _ _ ?_).trans ?_;(simp only[sZ]<;>omega))|(refine(heap_past _ _ _ ?_).trans ?_;(simp only[sZ]<;>omega)))));try simp only[Act.put,xA,xB,xC,fR])|((with_reducible refine gD (Op.store 85 _ _) ?_);apply store_row row85 rfl _ _ rfl _ (enC _) rfl rfl (enC_size _) (enC_ones _) (t:=85) (old:=enC _) (h2:=enC_size _);(·(repeat(first|(refine heap_at _ _ _ ?_;(simp only[sZ]<;>omega))|(refine(more_heap' _ _ _ _ ?_).trans ?_;(simp only[sZ]<;>omega)))));try simp only[Act.put,xA,xB,xC,fR];try simp (disch:=(first|(simp only[sZ]<;>omega)|fail)) only[more_row,alloc_row_past,alloc_row_at,drew_row,drewN_row])|(go_at_call 52;refine(kind_any _ _ _ _ _ _).mono ?_;rintro r w1 ⟨rfl,hb⟩;obtain⟨ow,kw,rfl⟩:=more_of hb;clear hb))
     (apply ret_row row85 rfl _ (enC _) rfl (enC_size _) (t:=85) (fr:=(0,0)) (hd:=rfl);(·(repeat(first|(refine heap_at _ _ _ ?_;(simp only[sZ]<;>omega))|(refine(more_heap' _ _ _ _ ?_).trans ?_;(simp only[sZ]<;>omega))))))
     exact⟨en_eq E.out.symm,by(repeat(first|exact Below.refl _ _|(refine Below.alloc ?_ ?_ _;rotate_left;(first|omega|(simp only[sZ]<;>omega)))|(refine bl_more ?_ ?_ _ _;rotate_left;(simp only[sZ]<;>omega))))⟩
  | true=>
   obtain⟨q,k⟩:=of_decide_eq_true c2
   have q':(e.is != 0)=false:=by rw[q];rfl
   cases c3:okAt size (addU a e.i.imm.v) (sz e.i.op)with
   | true=>
    have E:=Lib.hid (show addrE e size a={ e with is:=0,addr:=addU a e.i.imm.v,known:=true } by unfold addrE;rw[if_neg (by rw[q,k];simp;omega),if_pos c3];cases e;simp_all)
    have C3:=Lib.hid c3
    clear c1 c2 c3
    rcases c1' with c|c
    all_goals
     rw[c]at d1
     go_enter Tryz.func96,Tryz.ntmps96
     go_wp2_with (first|((with_reducible refine gAl 85 ?_);refine alloc_row (enC enZ) zero85 rfl rfl ?_;try simp only[Act.put,xA,xB,xC,fR])|(go_at_call 52;refine(kind_any _ _ _ _ _ _).mono ?_;rintro r w1 ⟨rfl,hb⟩;obtain⟨ow,kw,rfl⟩:=more_of hb;clear hb))
     (refine wp_named ?_;intro W hW;have hG:W.heap[w.heap.size]?=some (.cells (enC { e with is:=0,known:=false,addr:=addU a e.i.imm.v }) _ (0,0)):=(by rw[hW];(repeat(first|(refine heap_at _ _ _ ?_;(with_reducible rfl))|(refine(more_heap' _ _ _ _ ?_).trans ?_;(simp only[sZ]<;>omega))|(refine(heap_past _ _ _ ?_).trans ?_;(simp only[sZ]<;>omega)))));have hlt:w.heap.size<W.heap.size:=(Array.getElem?_eq_some_iff.1 hG).1;have hBW:Below w.heap.size w W:=(by rw[hW];(repeat(first|exact Below.refl _ _|(refine Below.alloc ?_ ?_ _;rotate_left;(first|omega|(simp only[sZ]<;>omega)))|(refine bl_more ?_ ?_ _ _;rotate_left;(simp only[sZ]<;>omega)))));have hR:=Lib.hid (RowAt.of hG);have hW':=Lib.hid hW;clear hW;go_region_held3 (fun w'=>(∀ j,w'.cell? ⟨w.heap.size,j,none⟩=(enC { e with is:=0,known:=false,addr:=addU a e.i.imm.v })[j]?)∧Below W.heap.size W w') (first|(exact startRd hR.out)|(exact keepR (by assumption) (by assumption) hlt)|assumption) ((first|(go_at_call 82;refine(size_any _ _ _ _ _ _).mono ?_;rintro r w' ⟨rfl,hg⟩)|(go_at_call 39;refine(MR.out _).mono ?_;rw[C3.out];rintro r w' ⟨rfl,rfl⟩)));rename_i hS;obtain⟨oS,kS,rfl⟩:=more_of hS.2;clear hS hR hG hlt hBW;have hW:=hW'.out;clear hW';subst hW)
     go_wp2_with (first|((with_reducible refine gD (Op.load 85 _) ?_);apply take_row row85 rfl _ rfl _ rfl (enC _) (enC_size _) (t:=85) (fr:=(0,0));(·(repeat(first|(refine heap_at _ _ _ ?_;(with_reducible rfl))|(refine(more_heap' _ _ _ _ ?_).trans ?_;(simp only[sZ]<;>omega))|(refine(heap_past _ _ _ ?_).trans ?_;(simp only[sZ]<;>omega)))));try simp only[Act.put,xA,xB,xC,fR])|((with_reducible refine gD (Op.store 85 _ _) ?_);apply store_row row85 rfl _ _ rfl _ (enC _) rfl rfl (enC_size _) (enC_ones _) (t:=85) (old:=enC _) (h2:=enC_size _);(·(repeat(first|(refine heap_at _ _ _ ?_;(simp only[sZ]<;>omega))|(refine(more_heap' _ _ _ _ ?_).trans ?_;(simp only[sZ]<;>omega)))));try simp only[Act.put,xA,xB,xC,fR];try simp (disch:=(first|(simp only[sZ]<;>omega)|fail)) only[more_row,alloc_row_past,alloc_row_at,drew_row,drewN_row]))
     (apply ret_row row85 rfl _ (enC _) rfl (enC_size _) (t:=85) (fr:=(0,0)) (hd:=rfl);(·(repeat(first|(refine heap_at _ _ _ ?_;(simp only[sZ]<;>omega))|(refine(more_heap' _ _ _ _ ?_).trans ?_;(simp only[sZ]<;>omega))))))
     exact⟨en_eq E.out.symm,by(repeat(first|exact Below.refl _ _|(refine Below.alloc ?_ ?_ _;rotate_left;(first|omega|(simp only[sZ]<;>omega)))|(refine bl_more ?_ ?_ _ _;rotate_left;(simp only[sZ]<;>omega))))⟩
   | false=>
    have E:=Lib.hid (show addrE e size a={ e with known:=false,addr:=addU a e.i.imm.v,halt:=if kd e.i.op=4 then 5 else 4,is:=3 } by unfold addrE;rw[if_neg (by rw[q,k];simp;omega),if_neg (by simp[c3])];cases e;simp_all)
    have C3:=Lib.hid c3
    clear c1 c2 c3
    rcases c1' with c|c
    all_goals
     rw[c]at d1
     rw[c]at E
     go_enter Tryz.func96,Tryz.ntmps96
     go_wp2_with (first|((with_reducible refine gAl 85 ?_);refine alloc_row (enC enZ) zero85 rfl rfl ?_;try simp only[Act.put,xA,xB,xC,fR])|(go_at_call 52;refine(kind_any _ _ _ _ _ _).mono ?_;rintro r w1 ⟨rfl,hb⟩;obtain⟨ow,kw,rfl⟩:=more_of hb;clear hb))
     (refine wp_named ?_;intro W hW;have hG:W.heap[w.heap.size]?=some (.cells (enC { e with is:=0,known:=false,addr:=addU a e.i.imm.v }) _ (0,0)):=(by rw[hW];(repeat(first|(refine heap_at _ _ _ ?_;(with_reducible rfl))|(refine(more_heap' _ _ _ _ ?_).trans ?_;(simp only[sZ]<;>omega))|(refine(heap_past _ _ _ ?_).trans ?_;(simp only[sZ]<;>omega)))));have hlt:w.heap.size<W.heap.size:=(Array.getElem?_eq_some_iff.1 hG).1;have hBW:Below w.heap.size w W:=(by rw[hW];(repeat(first|exact Below.refl _ _|(refine Below.alloc ?_ ?_ _;rotate_left;(first|omega|(simp only[sZ]<;>omega)))|(refine bl_more ?_ ?_ _ _;rotate_left;(simp only[sZ]<;>omega)))));have hR:=Lib.hid (RowAt.of hG);have hW':=Lib.hid hW;clear hW;go_region_held3 (fun w'=>(∀ j,w'.cell? ⟨w.heap.size,j,none⟩=(enC { e with is:=0,known:=false,addr:=addU a e.i.imm.v })[j]?)∧Below W.heap.size W w') (first|(exact startRd hR.out)|(exact keepR (by assumption) (by assumption) hlt)|assumption) ((first|(go_at_call 82;refine(size_any _ _ _ _ _ _).mono ?_;rintro r w' ⟨rfl,hg⟩)|(go_at_call 39;refine(MR.out _).mono ?_;rw[C3.out];rintro r w' ⟨rfl,rfl⟩)));rename_i hS;obtain⟨oS,kS,rfl⟩:=more_of hS.2;clear hS hR hG hlt hBW;have hW:=hW'.out;clear hW';subst hW)
     go_wp2_with (first|((with_reducible refine gD (Op.load 85 _) ?_);apply take_row row85 rfl _ rfl _ rfl (enC _) (enC_size _) (t:=85) (fr:=(0,0));(·(repeat(first|(refine heap_at _ _ _ ?_;(with_reducible rfl))|(refine(more_heap' _ _ _ _ ?_).trans ?_;(simp only[sZ]<;>omega))|(refine(heap_past _ _ _ ?_).trans ?_;(simp only[sZ]<;>omega)))));try simp only[Act.put,xA,xB,xC,fR])|((with_reducible refine gD (Op.store 85 _ _) ?_);apply store_row row85 rfl _ _ rfl _ (enC _) rfl rfl (enC_size _) (enC_ones _) (t:=85) (old:=enC _) (h2:=enC_size _);(·(repeat(first|(refine heap_at _ _ _ ?_;(simp only[sZ]<;>omega))|(refine(more_heap' _ _ _ _ ?_).trans ?_;(simp only[sZ]<;>omega)))));try simp only[Act.put,xA,xB,xC,fR];try simp (disch:=(first|(simp only[sZ]<;>omega)|fail)) only[more_row,alloc_row_past,alloc_row_at,drew_row,drewN_row]))
     (apply ret_row row85 rfl _ (enC _) rfl (enC_size _) (t:=85) (fr:=(0,0)) (hd:=rfl);(·(repeat(first|(refine heap_at _ _ _ ?_;(simp only[sZ]<;>omega))|(refine(more_heap' _ _ _ _ ?_).trans ?_;(simp only[sZ]<;>omega))))))
     exact⟨en_eq E.out.symm,by(repeat(first|exact Below.refl _ _|(refine Below.alloc ?_ ?_ _;rotate_left;(first|omega|(simp only[sZ]<;>omega)))|(refine bl_more ?_ ?_ _ _;rotate_left;(simp only[sZ]<;>omega))))⟩
theorem sz_le(op:Int):(sz op).toNat≤4:=by unfold sz;split<;>(try split)<;>(try split)<;>decide
theorem seek_len(a:U)(n:Int)(hn:n.toNat≤4):∀ L:List Sd,(seekS a n L).2.length≤4
 | []=>Nat.zero_le _
 | s::l=>by
  unfold seekS
  split
  ·exact seek_len a n hn l
  ·split
   ·exact Nat.zero_le _
   ·simp only[cutB,List.length_take];omega
theorem decide_len(l:List En)(s:List Pt)(i:Nat):(decideR l s i).2.length≤4:=by
 unfold decideR
 simp only
 split
 ·exact Nat.zero_le _
 ·split
  ·exact Nat.zero_le _
  ·exact seek_len _ _ (sz_le _) _
theorem start_eq{c:Co}{i:Nat}{y:En}{a b:U}{is:Bool}(h:c.rob[i]?=some y)(hb:bothE c.rob c.regs i=(a,b,is))(v:Bool):start1 v c i=if kd y.i.op=4 then setE c i (addrE y c.mem.length a)else if kd y.i.op=3 then load1 v (setE c i (addrE y c.mem.length a)) i else setE c i (startE y a b):=by
 unfold start1
 simp only[List.getD_eq_getElem?_getD,h,Option.getD_some,hb]
def StaP(w0 w:World)(g:Nat)(κ:Nat→Nat)(c:Co)(i:Nat)(w':World):Prop:=∃ v,MP w0 w g κ (start1 v c i) w'
theorem start_m(w0 w:World)(g:Nat)(κ:Nat→Nat)(c:Co)(s:Ss)(i:Nat)(M:MS w0 w g κ c s)(hi:i<c.rob.length)(hf:rightF c.conf=true)(hr:rightC c.data=true)(hm:c.mem.length≤1000000)(hn:c.bus.length≤900000)(hs:∀ p∈c.stores,p.data.length≤1000000):Calls Tryz.prog 64 #[.pointer (some ⟨g,0,none⟩),.int .i64 (i:Int)] w fun e w'=>e= .returned (.tuple #[])∧StaP w0 w g κ c i w':=by
 have H:=St'.start M
 have HF:=Lib.hid hf
 have HR:=Lib.hid hr
 have HM:=Lib.hid hm
 have HN:=Lib.hid hn
 have HS:=Lib.hid hs
 have lr:=M.r.rob.sl.len
 clear M hf hr hm hn hs
 obtain⟨r,off,e0⟩:=H.robat (by omega)
 rw[e0]at H
 have hi2:i<s.rob.n:=by omega
 clear e0
 generalize s.rob.n=n at H hi2 lr
 generalize s.rob.c=C at H
 obtain⟨r',off',cur,y,eA,_,_,_,hy,hcl⟩:=H.m.entry (i:=i) hi
 cases eA
 have HC:=Lib.hid hcl
 have HY:=Lib.hid hy
 have LR:=Lib.hid lr
 have HI:=Lib.hid hi
 have hi:=hi2
 have b3':(0:Int)≤(i:Int):=by omega
 have b4':(i:Int)<(n:Int):=by omega
 obtain⟨ba,bb,bi,hb⟩:∃ ba bb bi,bothE c.rob c.regs i=(ba,bb,bi):=⟨_,_,_,rfl⟩
 have HB:=Lib.hid hb
 have E:=Lib.hid (start_eq hy hb)
 clear hy hcl lr hi2 hb
 cases e4:(kd y.i.op== 4)with
 | true=>
  have E1:=Lib.hid (show start1 true c i=setE c i (addrE y c.mem.length ba) by rw[E.out,if_pos (by simpa using e4)])
  clear E
  go_enter Tryz.func64,Tryz.ntmps64
  go_wp2_with (first|((with_reducible refine gL 85 14 ?_);refine st_lrow rfl row85 _ rfl r (off+i*17) rfl (enC y) rfl HC.out ?_;try simp only[Act.put,xA,xB,xC,fR])|((with_reducible refine gL 31 11 ?_);refine st_ld1 rfl one31 H _ rfl 48 rfl _ (coC_48 _ _) ?_;go_frame)|((with_reducible refine gAl 85 ?_);refine st_al rfl (enC enZ) zero85 H rfl ?_;clear H;intro w1 b4 κ1 H;go_frame)|((with_reducible refine gS 85 4 ?_);refine st_slw rfl cel85 _ _ _ H _ _ rfl rfl _ rfl rfl rfl rfl ?_;clear H;intro w1 ho1 H;go_frame))
  go_wp2_with fail
  refine beginS 11 (l0:=zz19) H (by kernel_rfl) ?_ (by kernel_rfl);clear H;intro H
  iterate 4 refine rP H ?_;go_frame
  refine tC 4 21 rfl (by kernel_rfl) iQ (by(exact yields_one one31 rfl _ rfl _ rfl _ (fun w h=>(h.cell 48).trans (coC_48 _ _)))) H ?_;go_frame
  iterate 4 refine rP H ?_;go_frame
  refine tC 9 26 rfl (by kernel_rfl) iQ (by(exact yields_row row29 rfl _ rfl _ _ rfl _ rfl (fun w h j v hj=>(h.cell _).trans (sub_regs _ _ j v hj)))) H ?_;go_frame
  refine tP 10 27 H ?_;go_frame
  refine o1C 11 28 (fun K hK=>?_)
  refine step_fn rfl _ _ _ (both_any (some ⟨r,off,none⟩) n C c.rob c.regs i _ H.m.r.rob.sl hi) (by go_simp<;>rfl) ?_;unfold BothP;rw[HB.out];rintro r1 w1 ⟨rfl,hb⟩;refine⟨_,rfl,?_⟩;replace H:=H.below hb
  refine hK.out _ _ (aB rfl) ?_;clear hK K;go_frame
  iterate 7 refine rQ rfl ?_;go_frame
  refine dnC ?_ _
  go_wp2_with (first|((with_reducible refine gL 83 32 ?_);refine st_llr rfl row83 H _ rfl _ 2 rfl _ 85 mm0 (inC _) rfl (sub_inst _) ?_;go_frame)|(go_at_call 52;refine(kind_any y.i.op y.i.rd y.i.r1 y.i.r2 y.i.imm.v _).mono ?_;rintro r w1 ⟨rfl,hb⟩;replace H:=H.below hb))
  go_wp2_with fail
  refine beginS 16 (l0:=zz17) H (by kernel_rfl) ?_ (by kernel_rfl);clear H;intro H
  iterate 4 refine rP H ?_;go_frame
  refine tC 4 52 rfl (by kernel_rfl) iQ (by(exact yields_one one31 rfl _ rfl _ rfl _ (fun w h=>(h.cell 48).trans (coC_48 _ _)))) H ?_;go_frame
  refine tP 5 53 H ?_;go_frame
  refine tC 6 54 rfl (by kernel_rfl) iQ (by(exact yields_row row85 rfl _ rfl _ _ rfl _ rfl (fun w h j v hj=>(h.lcell mm0 _).trans (Sub.all _ j v hj)))) H ?_;go_frame
  iterate 4 refine rP H ?_;go_frame
  refine tC 11 59 rfl (by kernel_rfl) iQ (by(exact yields_one one9 rfl _ rfl _ rfl _ (fun w h=>(h.cell 58).trans (coC_58 _ _)))) H ?_;go_frame
  iterate 2 refine rP H ?_;go_frame
  refine o1C 14 62 (fun K hK=>?_)
  refine step_fn rfl _ _ _ (addr_any y c.mem.length ba (by have:=HM.out;omega) _) (by go_simp<;>rfl) ?_;rintro r w1 ⟨rfl,hb⟩;refine⟨_,rfl,?_⟩;replace H:=H.below hb
  refine hK.out _ _ (fun _=>H) ?_;clear hK K;go_frame
  refine tP 15 63 H ?_;go_frame
  refine o1N 16 (fun K hK=>?_)
  refine step_se rfl cel85 H _ _ rfl r off i 0 y (addrE y c.mem.length ba) rfl HY.out rfl _ rfl rfl rfl (by decide) (en_put y _) ?_;clear H;intro w1 H
  refine hK.out _ _ (aB rfl) ?_;clear hK K;go_frame
  refine dnC ?_ _
  go_wp2
  go_end0
  exact⟨rfl,true,by rw[E1.out];exact H.mp⟩
 | false=>
  have N4:¬ kd y.i.op=4:=by simpa using e4
  cases e3:(kd y.i.op== 3)with
  | true=>
   have E1:=Lib.hid (show ∀ v,start1 v c i=load1 v (setE c i (addrE y c.mem.length ba)) i from fun v=>by rw[E.out,if_neg N4,if_pos (by simpa using e3)])
   clear E N4
   go_enter Tryz.func64,Tryz.ntmps64
   go_wp2_with (first|((with_reducible refine gL 85 14 ?_);refine st_lrow rfl row85 _ rfl r (off+i*17) rfl (enC y) rfl HC.out ?_;try simp only[Act.put,xA,xB,xC,fR])|((with_reducible refine gL 31 11 ?_);refine st_ld1 rfl one31 H _ rfl 48 rfl _ (coC_48 _ _) ?_;go_frame)|((with_reducible refine gAl 85 ?_);refine st_al rfl (enC enZ) zero85 H rfl ?_;clear H;intro w1 b4 κ1 H;go_frame)|((with_reducible refine gS 85 4 ?_);refine st_slw rfl cel85 _ _ _ H _ _ rfl rfl _ rfl rfl rfl rfl ?_;clear H;intro w1 ho1 H;go_frame))
   go_wp2_with fail
   refine beginS 11 (l0:=zz19) H (by kernel_rfl) ?_ (by kernel_rfl);clear H;intro H
   iterate 4 refine rP H ?_;go_frame
   refine tC 4 21 rfl (by kernel_rfl) iQ (by(exact yields_one one31 rfl _ rfl _ rfl _ (fun w h=>(h.cell 48).trans (coC_48 _ _)))) H ?_;go_frame
   iterate 4 refine rP H ?_;go_frame
   refine tC 9 26 rfl (by kernel_rfl) iQ (by(exact yields_row row29 rfl _ rfl _ _ rfl _ rfl (fun w h j v hj=>(h.cell _).trans (sub_regs _ _ j v hj)))) H ?_;go_frame
   refine tP 10 27 H ?_;go_frame
   refine o1C 11 28 (fun K hK=>?_)
   refine step_fn rfl _ _ _ (both_any (some ⟨r,off,none⟩) n C c.rob c.regs i _ H.m.r.rob.sl hi) (by go_simp<;>rfl) ?_;unfold BothP;rw[HB.out];rintro r1 w1 ⟨rfl,hb⟩;refine⟨_,rfl,?_⟩;replace H:=H.below hb
   refine hK.out _ _ (aB rfl) ?_;clear hK K;go_frame
   iterate 7 refine rQ rfl ?_;go_frame
   refine dnC ?_ _
   go_wp2_with (first|((with_reducible refine gL 83 32 ?_);refine st_llr rfl row83 H _ rfl _ 2 rfl _ 85 mm0 (inC _) rfl (sub_inst _) ?_;go_frame)|(go_at_call 52;refine(kind_any y.i.op y.i.rd y.i.r1 y.i.r2 y.i.imm.v _).mono ?_;rintro r w1 ⟨rfl,hb⟩;replace H:=H.below hb))
   go_wp2_with fail
   refine beginS 16 (l0:=zz17) H (by kernel_rfl) ?_ (by kernel_rfl);clear H;intro H
   iterate 4 refine rP H ?_;go_frame
   refine tC 4 70 rfl (by kernel_rfl) iQ (by(exact yields_one one31 rfl _ rfl _ rfl _ (fun w h=>(h.cell 48).trans (coC_48 _ _)))) H ?_;go_frame
   refine tP 5 71 H ?_;go_frame
   refine tC 6 72 rfl (by kernel_rfl) iQ (by(exact yields_row row85 rfl _ rfl _ _ rfl _ rfl (fun w h j v hj=>(h.lcell mm0 _).trans (Sub.all _ j v hj)))) H ?_;go_frame
   iterate 4 refine rP H ?_;go_frame
   refine tC 11 77 rfl (by kernel_rfl) iQ (by(exact yields_one one9 rfl _ rfl _ rfl _ (fun w h=>(h.cell 58).trans (coC_58 _ _)))) H ?_;go_frame
   iterate 2 refine rP H ?_;go_frame
   refine o1C 14 80 (fun K hK=>?_)
   refine step_fn rfl _ _ _ (addr_any y c.mem.length ba (by have:=HM.out;omega) _) (by go_simp<;>rfl) ?_;rintro r w1 ⟨rfl,hb⟩;refine⟨_,rfl,?_⟩;replace H:=H.below hb
   refine hK.out _ _ (fun _=>H) ?_;clear hK K;go_frame
   refine tP 15 81 H ?_;go_frame
   refine o1N 16 (fun K hK=>?_)
   refine step_se rfl cel85 H _ _ rfl r off i 0 y (addrE y c.mem.length ba) rfl HY.out rfl _ rfl rfl rfl (by decide) (en_put y _) ?_;clear H;intro w1 H
   refine hK.out _ _ (aB rfl) ?_;clear hK K;go_frame
   refine dnC ?_ _
   go_wp2_with ((go_at_call 97;(refine(load_m w0 _ g _ (setE c i (addrE y c.mem.length ba)) _ i H.m (by show i<(c.rob.set i _).length;rw[List.length_set];exact HI.out) HF.out HR.out HM.out HN.out HS.out (fun _ _=>Nat.le_trans (decide_len _ _ _) (by decide))).mono ?_);rintro r1 w1 ⟨rfl,hmp⟩;have HL:=Lib.hid hmp;clear hmp))
   go_end0
   refine⟨rfl,?_⟩
   obtain⟨v,κ2,s2,hm2,hk2,hs2⟩:=HL.out
   exact⟨v,by rw[E1.out];exact(H.call hm2 hk2 hs2).mp⟩
  | false=>
   have E1:=Lib.hid (show start1 true c i=setE c i (startE y ba bb) by rw[E.out,if_neg N4,if_neg (by simpa using e3)])
   clear E N4
   go_enter Tryz.func64,Tryz.ntmps64
   go_wp2_with (first|((with_reducible refine gL 85 14 ?_);refine st_lrow rfl row85 _ rfl r (off+i*17) rfl (enC y) rfl HC.out ?_;try simp only[Act.put,xA,xB,xC,fR])|((with_reducible refine gL 31 11 ?_);refine st_ld1 rfl one31 H _ rfl 48 rfl _ (coC_48 _ _) ?_;go_frame)|((with_reducible refine gAl 85 ?_);refine st_al rfl (enC enZ) zero85 H rfl ?_;clear H;intro w1 b4 κ1 H;go_frame)|((with_reducible refine gS 85 4 ?_);refine st_slw rfl cel85 _ _ _ H _ _ rfl rfl _ rfl rfl rfl rfl ?_;clear H;intro w1 ho1 H;go_frame))
   go_wp2_with fail
   refine beginS 11 (l0:=zz19) H (by kernel_rfl) ?_ (by kernel_rfl);clear H;intro H
   iterate 4 refine rP H ?_;go_frame
   refine tC 4 21 rfl (by kernel_rfl) iQ (by(exact yields_one one31 rfl _ rfl _ rfl _ (fun w h=>(h.cell 48).trans (coC_48 _ _)))) H ?_;go_frame
   iterate 4 refine rP H ?_;go_frame
   refine tC 9 26 rfl (by kernel_rfl) iQ (by(exact yields_row row29 rfl _ rfl _ _ rfl _ rfl (fun w h j v hj=>(h.cell _).trans (sub_regs _ _ j v hj)))) H ?_;go_frame
   refine tP 10 27 H ?_;go_frame
   refine o1C 11 28 (fun K hK=>?_)
   refine step_fn rfl _ _ _ (both_any (some ⟨r,off,none⟩) n C c.rob c.regs i _ H.m.r.rob.sl hi) (by go_simp<;>rfl) ?_;unfold BothP;rw[HB.out];rintro r1 w1 ⟨rfl,hb⟩;refine⟨_,rfl,?_⟩;replace H:=H.below hb
   refine hK.out _ _ (aB rfl) ?_;clear hK K;go_frame
   iterate 7 refine rQ rfl ?_;go_frame
   refine dnC ?_ _
   go_wp2_with (first|((with_reducible refine gL 83 32 ?_);refine st_llr rfl row83 H _ rfl _ 2 rfl _ 85 mm0 (inC _) rfl (sub_inst _) ?_;go_frame)|(go_at_call 52;refine(kind_any y.i.op y.i.rd y.i.r1 y.i.r2 y.i.imm.v _).mono ?_;rintro r w1 ⟨rfl,hb⟩;replace H:=H.below hb))
   go_wp2_with fail
   refine beginS 11 (l0:=zz12) H (by kernel_rfl) ?_ (by kernel_rfl);clear H;intro H
   iterate 4 refine rP H ?_;go_frame
   refine tC 4 39 rfl (by kernel_rfl) iQ (by(exact yields_one one31 rfl _ rfl _ rfl _ (fun w h=>(h.cell 48).trans (coC_48 _ _)))) H ?_;go_frame
   refine tP 5 40 H ?_;go_frame
   refine tC 6 41 rfl (by kernel_rfl) iQ (by(exact yields_row row85 rfl _ rfl _ _ rfl _ rfl (fun w h j v hj=>(h.lcell mm0 _).trans (Sub.all _ j v hj)))) H ?_;go_frame
   iterate 2 refine rP H ?_;go_frame
   refine o1C 9 44 (fun K hK=>?_)
   refine step_fn rfl _ _ _ (start_any y ba bb _) (by go_simp<;>rfl) ?_;rintro r w1 ⟨rfl,hb⟩;refine⟨_,rfl,?_⟩;replace H:=H.below hb
   refine hK.out _ _ (fun _=>H) ?_;clear hK K;go_frame
   refine tP 10 45 H ?_;go_frame
   refine o1N 11 (fun K hK=>?_)
   refine step_se rfl cel85 H _ _ rfl r off i 0 y (startE y ba bb) rfl HY.out rfl _ rfl rfl rfl (by decide) (en_put y _) ?_;clear H;intro w1 H
   refine hK.out _ _ (aB rfl) ?_;clear hK K;go_frame
   refine dnC ?_ _
   go_wp2
   go_end0
   exact⟨rfl,true,by rw[E1.out];exact H.mp⟩
end Go.Proofs.YtdmhfogegfmnfaaGreatDoor
