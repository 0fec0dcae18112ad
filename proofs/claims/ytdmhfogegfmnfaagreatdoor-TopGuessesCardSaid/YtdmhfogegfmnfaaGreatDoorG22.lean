/- Contracts: a fetched word becomes an entry. Conditions: the entries, the program read as lists. Contracts: what comes behind a word is guessed. Conditions: the machine is one, the table of codes is laid. Contracts: fetched words become entries. Conditions: the machine is one, its shape right, the table of codes is laid, no word is taken out yet in this cycle. Contracts: .. -/
import Derived.Test.YtdmhfogegfmnfaaGreatDoorG01
import Derived.Test.YtdmhfogegfmnfaaGreatDoorG04
import Derived.Test.YtdmhfogegfmnfaaGreatDoorG06
import Derived.Test.YtdmhfogegfmnfaaGreatDoorG07
import Derived.Test.YtdmhfogegfmnfaaGreatDoorG08
import Derived.Test.YtdmhfogegfmnfaaGreatDoorG09
import Derived.Test.YtdmhfogegfmnfaaGreatDoorG10
import Derived.Test.YtdmhfogegfmnfaaGreatDoorG13
import Derived.Test.YtdmhfogegfmnfaaGreatDoorG16
import Derived.Test.YtdmhfogegfmnfaaGreatDoorG20
import Derived.Test.YtdmhfogegfmnfaaGreatDoorG21
set_option maxRecDepth 100000
set_option maxHeartbeats 4000000
set_option linter.unusedVariables false
set_option linter.unusedSimpArgs false
namespace Go.Proofs.YtdmhfogegfmnfaaGreatDoor
open Go.RowKit
theorem new_1{no:Int}{f:Fe}{prog:List U}{x:U}(h:fetchM prog f.pc=(x,false)):newE no f prog=⟨no,f.pc,⟨0,0,0,0,U.of 0⟩,f.guess,3,0,U.of 0,U.of 0,U.of 0,1,0,false,false⟩:=by
 unfold newE;rw[h];rfl
theorem new_2{no:Int}{f:Fe}{prog:List U}{x:U}{i:In}{z:Int}(h:fetchM prog f.pc=(x,true))(hd:dec x=(i,z))(hz:z≠0):newE no f prog=⟨no,f.pc,⟨0,0,0,0,U.of 0⟩,f.guess,3,0,U.of 0,U.of 0,U.of 0,2,0,false,false⟩:=by
 unfold newE;rw[h];simp only[hd,if_pos hz,Bool.true_eq_false,if_false]
theorem new_3{no:Int}{f:Fe}{prog:List U}{x:U}{i:In}(h:fetchM prog f.pc=(x,true))(hd:dec x=(i,0))(hh:Int)(hs:Int)(e1:(if i.op=47 then 6 else if i.op=48 then 7 else 0)=hh)(e2:(if hh≠0 then 3 else 0)=hs):newE no f prog=⟨no,f.pc,i,f.guess,hs,0,U.of 0,U.of 0,U.of 0,hh,0,false,false⟩:=by
 unfold newE;rw[h];simp only[hd];rw[if_neg (by simp),if_neg (by simp)];simp only[e1,e2]
theorem enter_rob(A:Option Addr)(n C:Nat)(L:List En)(no:Int)(f:Fe)(P:Option Addr)(pn pc:Nat)(prog:List U)(w:World)(hT:TabC w)(hL:Sl enC 17 w A n L)(hW:Wf A n C)(hn1:n+1≤1000000)(hP:Sl u32C 1 w P pn prog):Calls Tryz.prog 65 #[.slice A n C,.int .i64 no,.agg (feC f),.slice P pn pc] w (OwP enC 17 85 (L++[newE no f prog]) w):=by
 have hn:=hL.few
 have hl:=hL.len
 have hC:=hW.le
 have hCm:=hW.few
 have b1:(n:Int)≤(C:Int):=by omega
 have HL:=Lib.hid hL
 have HW:=Lib.hid hW
 have H:=Lo.start w
 obtain⟨x,th,hft⟩:∃ x th,fetchM prog f.pc=(x,th):=⟨_,_,rfl⟩
 obtain⟨i,z,hdc⟩:∃ i z,dec x=(i,z):=⟨_,_,rfl⟩
 have FT:=Lib.hid (fun W h=>fetch_any prog P pn pc f.pc W h)
 have DC:=Lib.hid (fun W h=>decode_any x W h)
 unfold FetP at FT
 unfold DecP at DC
 rw[hft]at FT
 rw[hdc]at DC
 simp only at FT DC
 have HP:=Lib.hid hP
 have HT:=Lib.hid hT
 have key:(th=false∧Hid (newE no f prog=⟨no,f.pc,⟨0,0,0,0,U.of 0⟩,f.guess,3,0,U.of 0,U.of 0,U.of 0,1,0,false,false⟩))∨
  (th=true∧(z != 0)=true∧Hid (newE no f prog=⟨no,f.pc,⟨0,0,0,0,U.of 0⟩,f.guess,3,0,U.of 0,U.of 0,U.of 0,2,0,false,false⟩))∨
  (th=true∧(z != 0)=false∧(i.op== 47)=true∧Hid (newE no f prog=⟨no,f.pc,i,f.guess,3,0,U.of 0,U.of 0,U.of 0,6,0,false,false⟩))∨
  (th=true∧(z != 0)=false∧(i.op== 47)=false∧(i.op== 48)=true∧Hid (newE no f prog=⟨no,f.pc,i,f.guess,3,0,U.of 0,U.of 0,U.of 0,7,0,false,false⟩))∨
  (th=true∧(z != 0)=false∧(i.op== 47)=false∧(i.op== 48)=false∧Hid (newE no f prog=⟨no,f.pc,i,f.guess,0,0,U.of 0,U.of 0,U.of 0,0,0,false,false⟩)):=by
  cases th with
  | false=>exact .inl ⟨rfl,Lib.hid (new_1 hft)⟩
  | true=>
   by_cases c1:z=0
   ·subst c1
    by_cases c2:i.op=47
    ·exact .inr (.inr (.inl ⟨rfl,rfl,by rw[c2];rfl,Lib.hid (new_3 hft hdc 6 3 (by rw[c2];rfl) rfl)⟩))
    ·by_cases c3:i.op=48
     ·exact .inr (.inr (.inr (.inl ⟨rfl,rfl,by rw[c3];rfl,by rw[c3];rfl,Lib.hid (new_3 hft hdc 7 3 (by rw[c3];rfl) rfl)⟩)))
     ·exact .inr (.inr (.inr (.inr ⟨rfl,rfl,by simpa using c2,by simpa using c3,Lib.hid (new_3 hft hdc 0 0 (by rw[if_neg c2,if_neg c3]) rfl)⟩)))
   ·exact .inr (.inl ⟨rfl,by simpa using c1,Lib.hid (new_2 hft hdc c1)⟩)
 clear hft hdc hL hW hP hT
 rcases key with⟨rfl,HE⟩|⟨rfl,d1,HE⟩|⟨rfl,d1,d2,HE⟩|⟨rfl,d1,d2,d3,HE⟩|⟨rfl,d1,d2,d3,HE⟩
 all_goals
  go_enter Tryz.func65,Tryz.ntmps65
  go_wp2_with (first|((with_reducible refine gS 85 9 ?_);refine st_Lslw rfl cel85 _ _ _ H _ _ rfl rfl (enC (⟨no,f.pc,⟨0,0,0,0,U.of 0⟩,f.guess,0,0,U.of 0,U.of 0,U.of 0,0,0,false,false⟩)) rfl rfl (enC_ones _) rfl ?_;clear H;intro w1 ho1 H;go_frame)|((with_reducible refine gBx 94 2 ?_);refine st_Lbox rfl _ H _ rfl rfl ?_;clear H;intro w1 b1 H;go_frame)|((with_reducible refine gL 28 15 ?_);refine st_Lll1 rfl one28 H _ rfl _ 0 rfl _ _ mm0 _ (feC_0 _) ?_;go_frame)|((with_reducible refine gL 28 17 ?_);refine st_Lll1 rfl one28 H _ rfl _ 1 rfl _ _ mm0 _ (feC_1 _) ?_;go_frame)|((with_reducible refine gAl 85 ?_);refine st_Lal rfl (enC enZ) zero85 H rfl ?_;clear H;intro w1 b1 hlt1 hb1 H;go_frame)|((with_reducible refine gL 28 22 ?_);refine st_Lll1 rfl one28 H _ rfl _ 0 rfl _ _ mm1 _ (feC_0 _) ?_;go_frame)|((with_reducible refine gAl 83 ?_);refine st_Lal rfl (inC inZ) zero83 H rfl ?_;clear H;intro w1 b1 hlt1 hb1 H;go_frame)|((with_reducible refine gS 83 12 ?_);refine st_Lslw rfl cel83 _ _ _ H _ _ rfl rfl _ rfl rfl rfl rfl ?_;clear H;intro w1 ho1 H;go_frame)|((with_reducible refine gS 3 45 ?_);refine st_Lsl2 rfl cel3 _ _ _ _ H _ _ rfl 13 rfl _ rfl rfl rfl (Nat.le_of_ble_eq_true rfl) _ (enU_13 _ _) ?_;clear H;intro w1 ho1 H;go_frame)|((with_reducible refine gL 3 50 ?_);refine st_Lll1 rfl one3 H _ rfl _ 13 rfl _ _ mm1 _ (enC_13 _) ?_;go_frame)|((with_reducible refine gS 3 53 ?_);refine st_Lsl2 rfl cel3 _ _ _ _ H _ _ rfl 8 rfl _ rfl rfl rfl (Nat.le_of_ble_eq_true rfl) _ (enU_8 _ _) ?_;clear H;intro w1 ho1 H;go_frame)|(go_at_call 66;refine(FT.out _ (HP.out.below H.bl)).mono ?_;rintro r w1 ⟨rfl,rfl⟩)|(go_at_call 99;refine(DC.out _ (HT.out.below H.bl)).mono ?_;rintro r w1 ⟨rfl,hb⟩;replace H:=H.below hb)|((with_reducible refine gS 3 49 ?_);refine st_Lsl2 rfl cel3 _ _ _ _ H _ _ rfl 13 rfl _ rfl rfl rfl (Nat.le_of_ble_eq_true rfl) _ (enU_13 _ _) ?_;clear H;intro w1 ho1 H;go_frame)|((with_reducible refine gL 83 12 ?_);refine st_Lllr rfl row83 H _ rfl _ 0 rfl _ _ mm0 _ rfl (Sub.all _) ?_;go_frame)|((with_reducible refine gS 83 33 ?_);refine st_Lsl2 rfl cel83 _ _ _ _ H _ _ rfl 2 rfl _ rfl rfl (inC_ones _) (Nat.le_of_ble_eq_true rfl) _ (enU_i _ _) ?_;clear H;intro w1 ho1 H;go_frame)|((with_reducible refine gL 3 34 ?_);refine st_Lll1 rfl one3 H _ rfl _ 0 rfl _ _ mm0 _ (inC_0 _) ?_;go_frame)|((with_reducible refine gS 3 38 ?_);refine st_Lsl2 rfl cel3 _ _ _ _ H _ _ rfl 13 rfl _ rfl rfl rfl (Nat.le_of_ble_eq_true rfl) _ (enU_13 _ _) ?_;clear H;intro w1 ho1 H;go_frame)|((with_reducible refine gS 3 41 ?_);refine st_Lsl2 rfl cel3 _ _ _ _ H _ _ rfl 13 rfl _ rfl rfl rfl (Nat.le_of_ble_eq_true rfl) _ (enU_13 _ _) ?_;clear H;intro w1 ho1 H;go_frame))
  go_wp2_with fail
  refine beginL 7 (l0:=zz10) H (by kernel_rfl) ?_ (by kernel_rfl);clear H;intro H
  iterate 6 refine rP H ?_;go_frame
  refine tC 6 60 rfl (by kernel_rfl) iQ (by(exact yields_row row85 rfl _ rfl _ _ rfl _ rfl (fun w h j v hj=>(h.lcell mm1 _).trans (Sub.all _ j v hj)))) H ?_;go_frame
  refine o1C 7 61 (fun K hK=>?_)
  refine step_Lbs rfl slT31 (by decide) (enC _) H _ rfl rfl rfl ?_;clear H;intro w1 b1' hlt1 hb1 H
  refine hK.out _ _ (aB rfl) ?_;clear hK K;go_frame
  refine o1C 8 62 (fun K hK=>?_)
  refine step_clip (L:=L) rfl slT31 enC_size enC_ones (HL.out.below H.bl) ⟨(fun h=>by have:=HW.out.nil h;omega),Nat.le_refl _,by omega⟩ (by omega) _ _ rfl rfl _ b1' 1 rfl (H.row mm0) ?_;intro g' C' w1 how hb2;have hz:=H.bl.size;replace H:=H.below hb2
  refine hK.out _ _ (aB rfl) ?_;clear hK K;go_frame
  refine tQ 9 8 rfl ?_;go_frame
  refine dnC ?_ _
  go_wp2
  go_ret
  refine⟨_,rfl,?_,H.bl⟩
  rw[HE.out]
  exact Ow.lower how hz
def plainB(y:U):Bool:=!decide ((dec y).2=0)||!decide (kd (dec y).1.op=5)
def BehP(w0:World)(g:Nat)(κ:Nat→Nat)(c:Co)(y:U)(w:World)(e:Ending)(w':World):Prop:=∃(x:U) (gd:Int),e= .returned (.int .u32 x.v)∧(plainB y=true→x=addU c.fetch 4)∧MP w0 w g κ { c with guessed:=gd } w'
theorem MR.tabC{w0 w:World}{g:Nat}{κ:Nat→Nat}{c:Co}{s:Ss}(h:MR w0 w g κ c s)(hT:TabC w0):TabC w:=hT.below h.bl
theorem MR.gur{w0 w:World}{g:Nat}{κ:Nat→Nat}{c:Co}{s:Ss}(h:MR w0 w g κ c s):GuR w ⟨s.slots,c.guess.history,s.returns⟩ c.guess:=⟨rfl,h.slots.sl,h.slots.wf,h.returns.sl,h.returns.wf⟩
theorem behind_m(w0 w:World)(g:Nat)(κ:Nat→Nat)(c:Co)(s:Ss)(y:U)(M:MS w0 w g κ c s)(hT:TabC w0):Calls Tryz.prog 72 #[.pointer (some ⟨g,0,none⟩),.int .u32 y.v] w (BehP w0 g κ c y w):=by
 have H:=St'.start M
 have HT:=Lib.hid hT
 obtain⟨di,dn,hd⟩:∃ di dn,dec y=(di,dn):=⟨_,_,rfl⟩
 have HD:=Lib.hid hd
 have E:=Lib.hid (show plainB y=(!decide (dn=0)||!decide (kd di.op=5)) by unfold plainB;rw[hd])
 clear M hT hd
 by_cases h0:dn=0
 ·subst h0
  by_cases h5:kd di.op=5
  ·cases ht:c.conf.tables with
   | true=>
    have d1:(kd di.op== 5)=true:=by simp[h5]
    have d2:(kd di.op != 5)=false:=by simp[h5]
    go_enter Tryz.func72,Tryz.ntmps72
    go_wp2_with (first|((with_reducible refine gL 4 30 ?_);refine st_ld1 rfl one4 H _ rfl 9 rfl (.bool true) ((coC_9 _ _).trans (by rw[ht])) ?_;try simp only[Act.put,xA,xB,xC,fR])|((with_reducible refine gAl 83 ?_);refine st_al rfl (inC inZ) zero83 H rfl ?_;clear H;intro w1 b5 κ1 H;go_frame)|((with_reducible refine gS 83 5 ?_);refine st_slw rfl cel83 _ _ _ H _ _ rfl rfl _ rfl rfl rfl rfl ?_;clear H;intro w1 ho1 H;go_frame)|((with_reducible refine gL 83 5 ?_);refine sTj rfl ?_;refine wp_llr row83 H _ rfl _ 0 rfl _ _ mm0 _ rfl (Sub.all _) ?_;go_frame)|(go_at_call 99;refine(decode_any y _ (H.m.r.tabC HT.out)).mono ?_;unfold DecP;rw[HD.out];rintro r w1 ⟨rfl,hb⟩;replace H:=H.below hb)|(go_at_call 52;refine(kind_any di.op di.rd di.r1 di.r2 di.imm.v _).mono ?_;rintro r w1 ⟨rfl,hb⟩;replace H:=H.below hb))
    go_wp2_with fail
    refine beginS 11 (l0:=zz13) H (by kernel_rfl) ?_ (by kernel_rfl);clear H;intro H
    iterate 4 refine rP H ?_;go_frame
    refine tC 4 36 rfl (by kernel_rfl) iQ (by(exact yields_row row39 rfl _ rfl _ _ rfl _ rfl (fun w h j v hj=>(h.cell _).trans (sub_guess _ _ j v hj)))) H ?_;go_frame
    iterate 4 refine rP H ?_;go_frame
    refine tC 9 41 rfl (by kernel_rfl) iQ (by(exact yields_one one28 rfl _ rfl _ rfl _ (fun w h=>(h.cell 45).trans (coC_45 _ _)))) H ?_;go_frame
    refine tC 10 42 rfl (by kernel_rfl) iQ (by(exact yields_row row83 rfl _ rfl _ _ rfl _ rfl (fun w h j v hj=>(h.lcell mm0 _).trans (Sub.all _ j v hj)))) H ?_;go_frame
    refine o1C 11 43 (fun K hK=>?_)
    refine step_fn rfl _ _ _ (nextg_any ⟨s.slots,c.guess.history,s.returns⟩ c.guess c.fetch di _ H.m.r.gur) (by go_simp<;>rfl) ?_;rintro r w1 ⟨⟨x,rfl⟩,hb⟩;refine⟨_,rfl,?_⟩;replace H:=H.below hb
    refine hK.out _ _ (aB rfl) ?_;clear hK K;go_frame
    refine tQ 12 4 rfl ?_;go_frame
    refine dnC ?_ _
    go_wp2_with fail
    go_ret
    exact⟨x,c.guessed,rfl,(fun q=>by rw[E.out,h5]at q;cases q),H.mp⟩
   | false=>
    have d1:(kd di.op== 5)=true:=by simp[h5]
    have d2:(kd di.op != 5)=false:=by simp[h5]
    go_enter Tryz.func72,Tryz.ntmps72
    go_wp2_with (first|((with_reducible refine gL 4 30 ?_);refine st_ld1 rfl one4 H _ rfl 9 rfl (.bool false) ((coC_9 _ _).trans (by rw[ht])) ?_;try simp only[Act.put,xA,xB,xC,fR])|((with_reducible refine gAl 83 ?_);refine st_al rfl (inC inZ) zero83 H rfl ?_;clear H;intro w1 b5 κ1 H;go_frame)|((with_reducible refine gS 83 5 ?_);refine st_slw rfl cel83 _ _ _ H _ _ rfl rfl _ rfl rfl rfl rfl ?_;clear H;intro w1 ho1 H;go_frame)|((with_reducible refine gL 83 5 ?_);refine sTj rfl ?_;refine wp_llr row83 H _ rfl _ 0 rfl _ _ mm0 _ rfl (Sub.all _) ?_;go_frame)|(go_at_call 99;refine(decode_any y _ (H.m.r.tabC HT.out)).mono ?_;unfold DecP;rw[HD.out];rintro r w1 ⟨rfl,hb⟩;replace H:=H.below hb)|(go_at_call 52;refine(kind_any di.op di.rd di.r1 di.r2 di.imm.v _).mono ?_;rintro r w1 ⟨rfl,hb⟩;replace H:=H.below hb))
    go_wp2_with fail
    refine beginS 15 (l0:=zz17) H (by kernel_rfl) ?_ (by kernel_rfl);clear H;intro H
    iterate 4 refine rP H ?_;go_frame
    refine tC 4 48 rfl (by kernel_rfl) iQ (by(exact yields_row row25 rfl _ rfl _ _ rfl _ rfl (fun w h j v hj=>(h.cell _).trans (sub_conf _ _ j v hj)))) H ?_;go_frame
    iterate 4 refine rP H ?_;go_frame
    refine tC 9 53 rfl (by kernel_rfl) iQ (by(exact yields_one one3 rfl _ rfl _ rfl _ (fun w h=>(h.cell 57).trans (coC_57 _ _)))) H ?_;go_frame
    iterate 4 refine rP H ?_;go_frame
    refine tC 14 58 rfl (by kernel_rfl) iQ (by(exact yields_one one28 rfl _ rfl _ rfl _ (fun w h=>(h.cell 45).trans (coC_45 _ _)))) H ?_;go_frame
    refine o1C 15 59 (fun K hK=>?_)
    refine step_fn rfl _ _ _ (tape_co c.conf s.lat s.tape c.guessed c.fetch _ H.m.r.lat.sl H.m.r.tape.sl) (by go_simp<;>rfl) ?_;rintro r w1 ⟨⟨x,rfl⟩,hb⟩;refine⟨_,rfl,?_⟩;replace H:=H.below hb
    refine hK.out _ _ (aB rfl) ?_;clear hK K;go_frame
    refine tQ 16 7 rfl ?_;go_frame
    refine dnC ?_ _
    go_wp2_with (first|((with_reducible refine gL 3 63 ?_);refine st_ld1 rfl one3 H _ rfl 57 rfl _ (coC_57 _ _) ?_;go_frame)|((with_reducible refine gS 3 68 ?_);refine st_sb rfl cel3 (H.md (H.m.r.s_guessed _)) _ _ rfl 57 rfl _ rfl rfl rfl (by decide) (coU_guessed _ _ _) ?_;clear H;intro w1 H;go_frame))
    go_ret
    exact⟨x,wrap64 (c.guessed+1),rfl,(fun q=>by rw[E.out,h5]at q;cases q),H.mp⟩
  ·have d1:(kd di.op== 5)=false:=by simp[h5]
   have d2:(kd di.op != 5)=true:=by simp[h5]
   go_enter Tryz.func72,Tryz.ntmps72
   go_wp2_with (first|((with_reducible refine gAl 83 ?_);refine st_al rfl (inC inZ) zero83 H rfl ?_;clear H;intro w1 b5 κ1 H;go_frame)|((with_reducible refine gS 83 5 ?_);refine st_slw rfl cel83 _ _ _ H _ _ rfl rfl _ rfl rfl rfl rfl ?_;clear H;intro w1 ho1 H;go_frame)|((with_reducible refine gL 83 5 ?_);refine sTj rfl ?_;refine wp_llr row83 H _ rfl _ 0 rfl _ _ mm0 _ rfl (Sub.all _) ?_;go_frame)|((with_reducible refine gL 28 23 ?_);refine st_ld1 rfl one28 H _ rfl 45 rfl _ (coC_45 _ _) ?_;go_frame)|(go_at_call 99;refine(decode_any y _ (H.m.r.tabC HT.out)).mono ?_;unfold DecP;rw[HD.out];rintro r w1 ⟨rfl,hb⟩;replace H:=H.below hb)|(go_at_call 52;refine(kind_any di.op di.rd di.r1 di.r2 di.imm.v _).mono ?_;rintro r w1 ⟨rfl,hb⟩;replace H:=H.below hb))
   go_ret
   exact⟨addU c.fetch 4,c.guessed,rfl,(fun _=>rfl),H.mp⟩
 ·have d1:(dn== 0)=false:=by simp[h0]
  have d2:(dn != 0)=true:=by simp[h0]
  go_enter Tryz.func72,Tryz.ntmps72
  go_wp2_with (first|((with_reducible refine gAl 83 ?_);refine st_al rfl (inC inZ) zero83 H rfl ?_;clear H;intro w1 b5 κ1 H;go_frame)|((with_reducible refine gS 83 5 ?_);refine st_slw rfl cel83 _ _ _ H _ _ rfl rfl _ rfl rfl rfl rfl ?_;clear H;intro w1 ho1 H;go_frame)|((with_reducible refine gL 83 5 ?_);refine sKp rfl ?_;go_frame)|((with_reducible refine gL 28 23 ?_);refine st_ld1 rfl one28 H _ rfl 45 rfl _ (coC_45 _ _) ?_;go_frame)|(go_at_call 99;refine(decode_any y _ (H.m.r.tabC HT.out)).mono ?_;unfold DecP;rw[HD.out];rintro r w1 ⟨rfl,hb⟩;replace H:=H.below hb))
  go_ret
  exact⟨addU c.fetch 4,c.guessed,rfl,(fun _=>rfl),H.mp⟩
theorem times_succ(f:Co→Co):∀(k:Nat) (c:Co),timesC f (k+1) c=f (timesC f k c)
 | 0,c=>rfl
 | k+1,c=>by rw[timesC,times_succ f k (f c),timesC]
theorem times_stop{f:Co→Co}{c:Co}(h:f c=c):∀ k,timesC f k c=c
 | 0=>rfl
 | k+1=>by rw[timesC,h,times_stop h k]
theorem times_add(f:Co→Co)(c:Co):∀(j k:Nat),timesC f (k+j) c=timesC f j (timesC f k c)
 | 0,k=>rfl
 | j+1,k=>by rw[← Nat.add_assoc,times_succ,times_add f c j k,times_succ]
structure EnK(c x:Co)(k:Nat):Prop where
 conf:x.conf=c.conf
 ph:x.ph=c.ph
 halt:x.halt=c.halt
 rob:x.rob.length≤c.rob.length+k
theorem EnK.next{c x:Co}{k:Nat}(h:EnK c x k):EnK c (enter1 x) (k+1):=by
 obtain⟨h1,h2,h3,h4⟩:=h
 unfold enter1
 split
 ·exact⟨h1,h2,h3,by omega⟩
 ·split
  ·exact⟨h1,h2,h3,by omega⟩
  ·split
   ·exact⟨h1,h2,h3,by omega⟩
   ·exact⟨h1,h2,h3,by simp;omega⟩
theorem EnK.times(c:Co):∀ k,EnK c (timesC enter1 k c) k
 | 0=>⟨rfl,rfl,rfl,Nat.le_refl _⟩
 | k+1=>by rw[times_succ];exact(EnK.times c k).next
theorem enters_stop{c:Co}{W k:Nat}(hW:c.conf.width=(W:Int))(hk:k≤W)(h:enter1 (timesC enter1 k c)=timesC enter1 k c):entersC c=timesC enter1 k c:=by
 unfold entersC
 rw[hW,Int.toNat_natCast,show W=k+(W-k) by omega,times_add,times_stop h]
theorem CE.fe0{w0 ws w:World}{g:Nat}{κs:Nat→Nat}{c:Co}{s:Ss}{l:List Lc}{f:Fe}{T:List Fe}{r off:Nat}(H:CE w0 ws g κs c s l w)(e0:c.fetched=f::T)(hn:0<s.fetched.n)(eA:s.fetched.a=some ⟨r,off,none⟩):∀ j v,(feC f)[j]?=some v→w.cell? ⟨r,off+j,none⟩=some v:=by
 obtain⟨κ,H⟩:=H
 obtain⟨g',off',x,h1,_,h2,h3⟩:=H.m.r.fetched.sl.at_ (i:=0) hn
 rw[e0]at h2
 simp only[List.getElem?_cons_zero,Option.some.injEq]at h2
 subst h2
 rw[eA]at h1
 cases h1
 intro j v hv
 have:=h3 j v hv
 simpa using this
theorem enters_m(w0 w:World)(g:Nat)(κ:Nat→Nat)(c:Co)(s:Ss)(M:MS w0 w g κ c s)(hT:TabC w0)(hf:rightF c.conf=true)(hp:c.ph=0)(hn:c.rob.length≤900000):Calls Tryz.prog 25 #[.pointer (some ⟨g,0,none⟩)] w fun e w'=>e= .returned (.tuple #[])∧MP w0 w g κ (entersC c) w':=by
 have H:=St'.start M
 have HT:=Lib.hid hT
 have HP:=Lib.hid hp
 have HN:=Lib.hid hn
 obtain⟨W,hW,hW2⟩:∃ W:Nat,c.conf.width=(W:Int)∧W≤2:=by
  unfold rightF wi at hf
  simp only[Bool.and_eq_true,decide_eq_true_eq]at hf
  exact⟨c.conf.width.toNat,by omega,by omega⟩
 clear M hT hf hp hn
 cases e0:(c.halt != 0)with
 | true=>
  have h0:c.halt≠0:=by simpa using e0
  have E:=Lib.hid (enters_stop (k:=0) hW (Nat.zero_le _) (show enter1 c=c by unfold enter1;rw[if_pos h0]))
  clear h0 hW
  go_enter Tryz.func25,Tryz.ntmps25
  go_wp2_with (((with_reducible refine gL 3 5 ?_);refine st_ld1 rfl one3 H _ rfl 62 rfl _ (coC_62 _ _) ?_;go_frame))
  ((try simp only[Exit.inBlock,Exit.then]);refine bodyPost_ret (results_none rfl _ _ _) rfl ?_)
  exact⟨rfl,by rw[E.out];exact H.mp⟩
 | false=>
  have h0:c.halt=0:=by simpa using e0
  have HH:=Lib.hid h0
  have HW:=Lib.hid hW
  clear h0 hW
  go_enter Tryz.func25,Tryz.ntmps25
  go_wp2_with (first|((with_reducible refine gL 3 12 ?_);refine st_ld1 rfl one3 H _ rfl 1 rfl (.int .i64 (W:Int)) ((coC_1 _ _).trans (by rw[HW.out])) ?_;try simp only[Act.put,xA,xB,xC,fR])|((with_reducible refine gL 3 5 ?_);refine st_ld1 rfl one3 H _ rfl 62 rfl _ (coC_62 _ _) ?_;go_frame))
  go_loopw [14] (fun i wr=>∃(k:Nat) (κ':Nat→Nat) (s':Ss),k≤W∧i= .int .i64 (k:Int)∧St' w0 w wr g κ κ' (timesC enter1 k c) s' []) (fun i _=>W-(intOf i).toNat)
  case atStart=>exact⟨0,κ,s,Nat.zero_le _,rfl,H⟩
  case round=>
   clear H
   obtain⟨k,κ',s',hk,rfl,H⟩:=hrel
   by_cases hlt:k<W
   ·have hK:=EnK.times c k
    have HX:=Lib.hid (times_succ enter1 k c)
    have HZ:=Lib.hid (enters_stop (c:=c) (k:=k) HW.out (Nat.le_of_lt hlt))
    generalize timesC enter1 k c=x at H hK HX HZ
    have xp:x.ph=0:=hK.ph.trans HP.out
    have xh:=Lib.hid (hK.halt.trans HH.out)
    have xr:x.rob.length≤900002:=by have:=hK.rob;have:=HN.out;omega
    have lr:=H.m.r.rob.sl.len
    have lf:=H.m.r.fetched.sl.len
    have XP:=Lib.hid xp
    have XR:=Lib.hid xr
    clear hK xp xr
    cases g1:decide (x.conf.rob≤(s'.rob.n:Int))with
    | true=>
     have E:=Lib.hid (HZ.out (by
      unfold enter1
      rw[if_neg (by rw[xh.out];simp)]
      cases hfe:x.fetched with
      | nil=>rfl
      | cons f T=>simp only;rw[if_pos (by have:=of_decide_eq_true g1;omega)]))
     clear HZ lr lf
     go_wp2_with fail
     go_wp2_with fail
     refine beginS 21 (l0:=zz22) H (by kernel_rfl) ?_ (by kernel_rfl);clear H;intro H
     iterate 4 refine rP H ?_;go_frame
     refine tC 4 20 rfl (by kernel_rfl) iQ (by(exact yields_one one31 rfl _ rfl _ rfl _ (fun w h=>(h.cell 48).trans (coC_48 _ _)))) H ?_;go_frame
     iterate 6 refine rP H ?_;go_frame
     refine tC 11 27 rfl (by kernel_rfl) iQ (by(exact yields_one one3 rfl _ rfl _ rfl _ (fun w h=>(h.cell 2).trans (coC_2 _ _)))) H ?_;go_frame
     iterate 2 refine rP H ?_;go_frame
     refine tU 14 30 H ?_;go_frame
     refine tU 15 31 H ?_;go_frame
     refine tU 16 32 H ?_;go_frame
     refine tU 17 33 H ?_;go_frame
     refine tU 18 34 H ?_;go_frame
     refine tU 19 35 H ?_;go_frame
     refine tU 20 36 H ?_;go_frame
     refine o1C 21 37 (fun K hK=>?_)
     refine step_v rfl (v:=?vr121) ?hyr121 ?restr121
     case hyr121=>(go_simp;try(with_reducible rfl))
     refine hK.out _ _ (aB rfl) ?_;clear hK K;go_frame
     refine dnC ?_ _
     go_wp2_with fail
     ((try simp only[Exit.inBlock,Exit.then]);refine bodyPost_ret (results_none rfl _ _ _) rfl ?_)
     exact⟨rfl,by rw[E.out];exact H.mp⟩
    | false=>
     have G1:=Lib.hid (of_decide_eq_false g1)
     by_cases hz:s'.fetched.n=0
     ·have E:=Lib.hid (HZ.out (by
       unfold enter1
       rw[if_neg (by rw[xh.out];simp),List.eq_nil_of_length_eq_zero (l:=x.fetched) (by omega)]))
      have g2:((s'.fetched.n:Int)== 0)=true:=by rw[hz];rfl
      clear HZ lr lf hz
      go_wp2_with fail
      go_wp2_with fail
      refine beginS 21 (l0:=zz22) H (by kernel_rfl) ?_ (by kernel_rfl);clear H;intro H
      iterate 4 refine rP H ?_;go_frame
      refine tC 4 20 rfl (by kernel_rfl) iQ (by(exact yields_one one31 rfl _ rfl _ rfl _ (fun w h=>(h.cell 48).trans (coC_48 _ _)))) H ?_;go_frame
      iterate 6 refine rP H ?_;go_frame
      refine tC 11 27 rfl (by kernel_rfl) iQ (by(exact yields_one one3 rfl _ rfl _ rfl _ (fun w h=>(h.cell 2).trans (coC_2 _ _)))) H ?_;go_frame
      iterate 6 refine rP H ?_;go_frame
      refine tC 18 34 rfl (by kernel_rfl) iQ (by(exact yieldsG_one (by rfl) one30 _ rfl _ rfl _ (fun w h=>(h.cell 47).trans (coC_47 _ _)))) H ?_;go_frame
      iterate 2 refine rP H ?_;go_frame
      refine o1C 21 37 (fun K hK=>?_)
      refine step_v rfl (v:=?vr221) ?hyr221 ?restr221
      case hyr221=>(go_simp;try(with_reducible rfl))
      refine hK.out _ _ (aB rfl) ?_;clear hK K;go_frame
      refine dnC ?_ _
      go_wp2_with fail
      ((try simp only[Exit.inBlock,Exit.then]);refine bodyPost_ret (results_none rfl _ _ _) rfl ?_)
      exact⟨rfl,by rw[E.out];exact H.mp⟩
     ·obtain⟨f,T,hfe⟩:∃ f T,x.fetched=f::T:=by
       cases h:x.fetched with
       | nil=>rw[h]at lf;exact absurd lf.symm hz
       | cons f T=>exact⟨f,T,rfl⟩
      have g2:((s'.fetched.n:Int)== 0)=false:=by simp;exact hz
      have E:=Lib.hid (show enter1 x={ x with rob:=x.rob++[newE x.next f x.prog],next:=wrap64 (x.next+1),fetched:=T } by
       unfold enter1
       rw[if_neg (by rw[xh.out];simp),hfe]
       simp only
       rw[if_neg (by have:=G1.out;omega)])
      have FE:=Lib.hid hfe
      have FN:=Lib.hid (show 0<s'.fetched.n by omega)
      obtain⟨r,off,_,eA,_⟩:=H.m.r.fetched.sl.at_ (i:=0) FN.out
      have EA:=Lib.hid eA
      have b3':(0:Int)≤0:=Int.le_refl _
      have b4':(0:Int)<(s'.fetched.n:Int):=by omega
      have LR:=Lib.hid lr
      have b5':=FN.out
      clear HZ lr lf eA hfe
      go_wp2_with fail
      go_wp2_with fail
      refine beginS 21 (l0:=zz22) H (by kernel_rfl) ?_ (by kernel_rfl);clear H;intro H
      iterate 4 refine rP H ?_;go_frame
      refine tC 4 20 rfl (by kernel_rfl) iQ (by(exact yields_one one31 rfl _ rfl _ rfl _ (fun w h=>(h.cell 48).trans (coC_48 _ _)))) H ?_;go_frame
      iterate 6 refine rP H ?_;go_frame
      refine tC 11 27 rfl (by kernel_rfl) iQ (by(exact yields_one one3 rfl _ rfl _ rfl _ (fun w h=>(h.cell 2).trans (coC_2 _ _)))) H ?_;go_frame
      iterate 6 refine rP H ?_;go_frame
      refine tC 18 34 rfl (by kernel_rfl) iQ (by(exact yieldsG_one (by rfl) one30 _ rfl _ rfl _ (fun w h=>(h.cell 47).trans (coC_47 _ _)))) H ?_;go_frame
      iterate 2 refine rP H ?_;go_frame
      refine o1C 21 37 (fun K hK=>?_)
      refine step_v rfl (v:=?vr321) ?hyr321 ?restr321
      case hyr321=>(go_simp;try(with_reducible rfl))
      refine hK.out _ _ (aB rfl) ?_;clear hK K;go_frame
      refine dnC ?_ _
      go_wp2_with fail
      go_wp2_with fail
      refine beginE 23 (l0:=zz28) H (by kernel_rfl) ?_ (by kernel_rfl);clear H;intro H
      iterate 5 refine rP ⟨_,H⟩ ?_;go_frame
      refine tC 5 43 rfl (by kernel_rfl) iQ (by(exact yields_one one31 rfl _ rfl _ rfl _ (fun w h=>(h.cell 48).trans (coC_48 _ _)))) ⟨_,H⟩ ?_;go_frame
      iterate 4 refine rP ⟨_,H⟩ ?_;go_frame
      refine tC 10 48 rfl (by kernel_rfl) iQ (by(exact yields_one one3 rfl _ rfl _ rfl _ (fun w h=>(h.cell 49).trans (coC_49 _ _)))) ⟨_,H⟩ ?_;go_frame
      iterate 4 refine rP ⟨_,H⟩ ?_;go_frame
      refine tC 15 53 rfl (by kernel_rfl) iQ (by exact yields_one one30 rfl _ rfl _ rfl (.slice (some ⟨r,off,none⟩) s'.fetched.n s'.fetched.c) (fun w h=>(h.cell 47).trans ((coC_47 _ _).trans (by rw[EA.out])))) ⟨_,H⟩ ?_;go_frame
      refine tP 16 54 ⟨_,H⟩ ?_;go_frame
      refine tC 17 55 rfl (by kernel_rfl) iQ (by exact yields_row row94 rfl _ rfl r off rfl (feC f) rfl (fun w h=>h.fe0 FE.out FN.out EA.out)) ⟨_,H⟩ ?_;go_frame
      iterate 4 refine rP ⟨_,H⟩ ?_;go_frame
      refine tC 22 60 rfl (by kernel_rfl) iQ (by(exact yields_one one23 rfl _ rfl _ rfl _ (fun w h=>(h.cell 11).trans (coC_11 _ _)))) ⟨_,H⟩ ?_;go_frame
      refine o1C 23 61 (fun K hK=>?_)
      refine step_fn rfl _ _ _ (enter_rob s'.rob.a s'.rob.n s'.rob.c x.rob x.next f s'.prog.a s'.prog.n s'.prog.c x.prog _ (H.m.r.tabC HT.out) H.m.r.rob.sl H.m.r.rob.wf (by have:=XR.out;have:=LR.out;omega) H.m.r.prog.sl) (by go_simp<;>rfl) ?_;rintro r w1 ⟨v,rfl,how,hb⟩;obtain⟨A,C,κ2,rfl,HMd⟩:=H.newrob hb how;refine⟨_,rfl,?_⟩;clear how hb H
      refine hK.out _ _ (aB rfl) ?_;clear hK K;go_frame
      iterate 3 refine rQ rfl ?_;go_frame
      refine o1N 27 (fun K hK=>?_)
      refine step_sb rfl cel31 HMd _ _ rfl 48 rfl _ rfl rfl rfl (by decide) (coU_rob _ _ (x.rob++[newE x.next f x.prog]) A _ C) ?_;intro w1 H;clear HMd
      refine hK.out _ _ (aB rfl) ?_;clear hK K;go_frame
      refine dnC ?_ _
      go_wp2_with (first|((with_reducible refine gD (Op.slice 30 _ _ _ _) ?_);refine st_tail rfl tl30 _ rfl s'.fetched.a s'.fetched.c rfl FN.out ?_;try simp only[Act.put,xA,xB,xC,fR])|((with_reducible refine gS 30 83 ?_);have q1:Fet x.ph _ _ _ _ x.fetched:=H.m.r.fetched;rw[XP.out,FE.out]at q1;refine st_sb rfl cel30 (H.md (H.m.r.s_fetched ⟨tailA s'.fetched.a s'.fetched.c 2,s'.fetched.n-1,s'.fetched.c-1⟩ T q1.tl)) _ _ rfl 47 rfl _ rfl rfl rfl (by decide) (coU_fetched _ _ T (tailA s'.fetched.a s'.fetched.c 2) (s'.fetched.n-1) (s'.fetched.c-1)) ?_;intro w1 H1;clear q1 H;have H:=H1;clear H1;try simp only[Act.put,xA,xB,xC,fR])|((with_reducible refine gL 3 68 ?_);refine st_ld1 rfl one3 H _ rfl 49 rfl _ (coC_49 _ _) ?_;go_frame)|((with_reducible refine gL 30 78 ?_);refine st_ld1 rfl one30 H _ rfl 47 rfl _ (coC_47 _ _) ?_;go_frame)|((with_reducible refine gS 3 73 ?_);refine st_sb rfl cel3 (H.md (H.m.r.s_next _)) _ _ rfl 49 rfl _ rfl rfl rfl (by decide) (coU_next _ _ _) ?_;clear H;intro w1 H;go_frame))
      go_roundw
      all_goals first
       | exact⟨k+1,_,_,by omega,by go_num,by rw[HX.out,E.out];exact H⟩|(simp[intOf];omega)
   ·have hkn:k=W:=by omega
    subst hkn
    go_wp2
    go_end0
    refine⟨rfl,?_⟩
    unfold entersC
    rw[HW.out,Int.toNat_natCast]
    exact H.mp
structure FtK(c x:Co)(k:Nat):Prop where
 conf:x.conf=c.conf
 ph:x.ph=c.ph
 halt:x.halt=c.halt
 bus:x.bus.length≤c.bus.length+k
 fetched:x.fetched.length≤c.fetched.length+k
theorem FtK.next{c x:Co}{k:Nat}(h:FtK c x k)(u:U)(gd:Int):FtK c (fetch1 u gd x) (k+1):=by
 obtain⟨h1,h2,h3,h4,h5⟩:=h
 unfold fetch1
 simp only
 split
 ·exact⟨h1,h2,h3,by omega,by omega⟩
 ·split
  ·exact⟨h1,h2,h3,by show x.bus.length≤_;omega,by simp;omega⟩
  ·split
   ·split
    ·exact⟨h1,h2,h3,by simp[askC,pushQ];omega,by show x.fetched.length≤_;omega⟩
    ·exact⟨h1,h2,h3,by omega,by omega⟩
   ·exact⟨h1,h2,h3,by show x.bus.length≤_;omega,by simp;omega⟩
def Fts(c:Co)(k:Nat)(x:Co):Prop:=∃ gs:List (U×Int),gs.length=k∧x=gs.foldl (fun c g=>fetch1 g.1 g.2 c) c
theorem Fts.next{c x:Co}{k:Nat}(h:Fts c k x)(u:U)(gd:Int):Fts c (k+1) (fetch1 u gd x):=by
 obtain⟨gs,h1,h2⟩:=h
 exact⟨gs++[(u,gd)],by simp[h1],by rw[List.foldl_append,← h2];rfl⟩
theorem Fts.keep{c x:Co}{k:Nat}(h:Fts c k x):FtK c x k:=by
 obtain⟨gs,h1,h2⟩:=h
 subst h1 h2
 suffices q:∀(gs:List (U×Int)) (y:Co) (j:Nat),FtK c y j→FtK c (gs.foldl (fun c g=>fetch1 g.1 g.2 c) y) (j+gs.length) by
  have:=q gs c 0 ⟨rfl,rfl,rfl,Nat.le_refl _,Nat.le_refl _⟩
  rwa [Nat.zero_add]at this
 intro gs
 induction gs with
 | nil=>intro y j h;exact h
 | cons g gs ih=>
  intro y j h
  have:=ih (fetch1 g.1 g.2 y) (j+1) (h.next g.1 g.2)
  rw[List.length_cons,show j+(gs.length+1)=j+1+gs.length by omega]
  exact this
theorem Fts.stop{c x:Co}{k W:Nat}(h:Fts c k x)(hk:k≤W)(hs:∀ u gd,fetch1 u gd x=x):Fts c W x:=by
 obtain⟨gs,h1,h2⟩:=h
 refine⟨gs++List.replicate (W-k) (U.of 0,0),by simp[h1];omega,?_⟩
 rw[List.foldl_append,← h2]
 generalize W-k=j
 induction j with
 | zero=>rfl
 | succ j ih=>rw[List.replicate_succ,List.foldl_cons,hs];exact ih
theorem Fts.fetches{c x:Co}{W:Nat}(h:Fts c W x)(hW:c.conf.width=(W:Int)):FetchesR c x:=by
 obtain⟨gs,h1,h2⟩:=h
 exact⟨gs,by rw[hW,Int.toNat_natCast];exact h1,h2⟩
theorem fetch_idle{x:Co}(h:x.halt≠0∨x.stop=true∨x.conf.queue≤x.fetched.length)(u:U)(gd:Int):fetch1 u gd x=x:=by unfold fetch1;simp only;rw[if_pos h]
theorem fetch_none{x:Co}(h:¬ (x.halt≠0∨x.stop=true∨x.conf.queue≤x.fetched.length))(h2:(fetchM x.prog x.fetch).2=false)(u:U)(gd:Int):fetch1 u gd x={ x with fetched:=x.fetched++[⟨x.fetch,addU x.fetch 4⟩],stop:=true }:=by unfold fetch1;simp only;rw[if_neg h,if_pos h2]
theorem fetch_far{x:Co}(h:¬ (x.halt≠0∨x.stop=true∨x.conf.queue≤x.fetched.length))(h2:¬ (fetchM x.prog x.fetch).2=false)(h3:(findC x.words (lineU x.fetch)).2.2=false)(u:U)(gd:Int):fetch1 u gd x=if hasQ x.bus (lineU x.fetch) 2=false∧roomC x false=true then askC x 2 (lineU x.fetch) []else x:=by unfold fetch1;simp only;rw[if_neg h,if_neg h2,if_pos h3]
theorem fetch_near{x:Co}(h:¬ (x.halt≠0∨x.stop=true∨x.conf.queue≤x.fetched.length))(h2:¬ (fetchM x.prog x.fetch).2=false)(h3:¬ (findC x.words (lineU x.fetch)).2.2=false)(u:U)(gd:Int)(hu:plainB (fetchM x.prog x.fetch).1=true→u=addU x.fetch 4):fetch1 u gd x={ x with words:=touchC x.words (lineU x.fetch),fetched:=x.fetched++[⟨x.fetch,u⟩],fetch:=u,guessed:=gd }:=by
 have e:(if plainW x then addU x.fetch 4 else u)=u:=by
  by_cases q:plainW x=true
  ·rw[if_pos q];exact(hu q).symm
  ·rw[if_neg q]
 unfold fetch1
 simp only
 rw[if_neg h,if_neg h2,if_neg h3,e]
theorem hasQ_ask(x:Co)(line:U):hasQ (askC x 2 line []).bus line 2=true:=by
 unfold askC pushQ hasQ
 simp
end Go.Proofs.YtdmhfogegfmnfaaGreatDoor
