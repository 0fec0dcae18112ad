/- Contracts: a cycle of the bus goes by. Conditions: the machine is one, its cache of data right, memory and bus not long. Contracts: encoding. Condition: the table of codes reads as it is laid. Contracts: whether an entry may stand. No conditions. -/
import Derived.Test.YtdmhfogegfmnfaaGreatDoorB00
import Derived.Test.YtdmhfogegfmnfaaGreatDoorB01
import Derived.Test.YtdmhfogegfmnfaaGreatDoorB03
import Derived.Test.YtdmhfogegfmnfaaGreatDoorB04
import Derived.Test.YtdmhfogegfmnfaaGreatDoorB06
import Derived.Test.YtdmhfogegfmnfaaGreatDoorB08
import Derived.Test.YtdmhfogegfmnfaaGreatDoorB10
import Derived.Test.YtdmhfogegfmnfaaGreatDoorB13
import Derived.Test.YtdmhfogegfmnfaaGreatDoorB15
import Derived.Test.YtdmhfogegfmnfaaGreatDoorB16
import Derived.Test.YtdmhfogegfmnfaaGreatDoorB17
import Derived.Deep.RegionHeld3
set_option maxRecDepth 100000
set_option maxHeartbeats 4000000
set_option linter.unusedVariables false
set_option linter.unusedSimpArgs false
namespace Go.Proofs.YtdmhfogegfmnfaaGreatDoor
open Go.RowKit
def robk(f:En→En)(c:Co)(k:Nat):Co:={ c with rob:=(c.rob.take k).map f++c.rob.drop k }
theorem robk_set{f:En→En}{c:Co}{k:Nat}{e:En}(h:c.rob[k]?=some e):({ robk f c k with rob:=(robk f c k).rob.set k (f e) }:Co)=robk f c (k+1):=by
 unfold robk
 simp only
 rw[map_step h]
theorem robk_at{f:En→En}{c:Co}{k:Nat}{e:En}(h:c.rob[k]?=some e):(robk f c k).rob[k]?=some e:=map_at h
theorem robk_0(f:En→En)(c:Co):robk f c 0=c:=by
 unfold robk;rw[List.take_zero,List.map_nil,List.nil_append,List.drop_zero]
theorem robk_all{f:En→En}{c:Co}{k:Nat}(h:c.rob.length≤k):robk f c k={ c with rob:=c.rob.map f }:=by
 unfold robk;rw[List.take_of_length_le h,List.drop_eq_nil_of_le h,List.append_nil]
theorem set_self{α:Type}{L:List α}{k:Nat}{e:α}(h:L[k]?=some e):L.set k e=L:=by
 obtain⟨hk,he⟩:=List.getElem?_eq_some_iff.1 h
 rw[← he];exact List.set_getElem_self hk
theorem robk_id{f:En→En}{c:Co}{k:Nat}{e:En}(h:c.rob[k]?=some e)(he:f e=e):robk f c k=robk f c (k+1):=by
 rw[← robk_set h,he]
 unfold robk
 simp only
 rw[set_self (map_at h)]
theorem fillE_no{c:Co}{line:U}{e:En}(h:¬ (e.is=2∧lineU e.addr=line)):fillE c line e=e:=by unfold fillE;rw[if_neg h]
theorem fillE_yes{c:Co}{line:U}{e:En}(h:e.is=2∧lineU e.addr=line):fillE c line e=takeE { e with filled:=true } (bytesE c { e with filled:=true }):=by unfold fillE;rw[if_pos h]
theorem tick_len(q:List Rq):(tickQ q).1.length≤q.length:=by
 cases q with
 | nil=>exact Nat.le_refl _
 | cons r q=>
  unfold tickQ
  simp only
  by_cases h:0<wrap64 (r.left-1)
  ·rw[if_pos h];simp
  ·rw[if_neg h];simp
theorem ticksC_eq(c:Co){q:List Rq}{d:Rq}{ok:Bool}(h:tickQ c.bus=(q,d,ok)):ticksC c=if ok=false then { c with bus:=q } else if d.kind=1 then { c with bus:=q,rob:=c.rob.map (fillE { c with bus:=q } d.line) } else if d.kind=2 then { c with bus:=q,words:=(putC c.words d.line [] false).1 } else if d.kind=3 then bringC { c with bus:=q } d.line else if d.kind=4 then { c with bus:=q,mem:=overM c.mem [⟨d.line,d.data⟩] } else { c with bus:=q }:=by
 unfold ticksC
 simp only[h]
theorem ticks_m(w0 w:World)(g:Nat)(κ:Nat→Nat)(c:Co)(s:Ss)(M:MS w0 w g κ c s)(hr:rightC c.data=true)(hm:c.mem.length≤1000000)(hn:c.bus.length≤900000):Calls Tryz.prog 21 #[.pointer (some ⟨g,0,none⟩)] w fun e w'=>e= .returned (.tuple #[])∧MP w0 w g κ (ticksC c) w':=by
 have H:=St'.start M
 obtain⟨q,d,ok,ht⟩:∃ q d ok,tickQ c.bus=(q,d,ok):=⟨_,_,_,rfl⟩
 have HB:=Lib.hid ht
 have E:=Lib.hid (ticksC_eq c ht)
 have HQ:=Lib.hid (show q.length≤c.bus.length by have:=tick_len c.bus;rw[ht]at this;exact this)
 have HR:=Lib.hid hr
 have HM:=Lib.hid hm
 have HN:=Lib.hid hn
 clear M ht hr hm hn
 cases ok with
 | false=>
  go_enter Tryz.func21,Tryz.ntmps21
  go_wp2_with (first|(go_at_call 45;refine(tick_any s.bus.a s.bus.n s.bus.c c.bus _ H.m.r.bus.sl H.m.r.bus.wf).mono ?_;unfold TicP;rw[HB.out];rintro r w1 ⟨t1,rfl,T1,T2,hb,T3⟩;have F2:Rd (fun j=>κ j=0) rqC 4 w1 t1 q:=⟨T1,T2,fun hn p hp=>H.zero _ (T3 hn p hp)⟩;clear T1 T2 T3;replace H:=H.below hb)|((with_reducible refine gAl 98 ?_);refine st_alb rfl (rqC rqZ) zero98 H rfl ?_;intro w1 b3 κ1 hlt1 hb1 hs1 H1;have F0:=F2.up hs1 hb1;clear F2 hs1;have F2:=F0;clear F0;clear H;have H:=H1;clear H1;try simp only[Act.put,xA,xB,xC,fR])|((with_reducible refine gS 98 3 ?_);refine st_slw rfl cel98 _ _ _ H _ _ rfl rfl _ rfl rfl rfl rfl ?_;intro w1 ho1 H1;have F0:=F2.off ho1 (H.k6 mm0);clear F2 ho1;have F2:=F0;clear F0;clear H;have H:=H1;clear H1;try simp only[Act.put,xA,xB,xC,fR])|((with_reducible refine gL 36 11 ?_);refine st_ld1 rfl one36 H _ rfl 55 rfl _ (coC_55 _ _) ?_;go_frame)|((with_reducible refine gS 36 21 ?_);refine st_sb rfl cel36 (H.md (H.m.r.s_bus ⟨t1.a,t1.n,t1.c⟩ q F2)) _ _ rfl 55 rfl _ rfl rfl rfl (by decide) (coU_bus _ _ q t1.a t1.n t1.c) ?_;intro w1 H1;clear F2 H;have H:=H1;clear H1;try simp only[Act.put,xA,xB,xC,fR]))
  ((try simp only[Exit.inBlock,Exit.then]);refine bodyPost_ret (results_none rfl _ _ _) rfl ?_)
  exact⟨rfl,by rw[E.out];exact H.mp⟩
 | true=>
  obtain⟨c1,hc1⟩:∃ c1,c1=({ c with bus:=q }:Co):=⟨_,rfl⟩
  have HC:=Lib.hid hc1
  have E1:=Lib.hid (show ticksC c=if d.kind=1 then { c1 with rob:=c1.rob.map (fillE c1 d.line) } else if d.kind=2 then { c1 with words:=(putC c1.words d.line [] false).1 } else if d.kind=3 then bringC c1 d.line else if d.kind=4 then { c1 with mem:=overM c1.mem [⟨d.line,d.data⟩] } else c1 by rw[E.out,hc1];rfl)
  have HR1:=Lib.hid (show rightC c1.data=true by rw[hc1];exact HR.out)
  have HM1:=Lib.hid (show c1.mem.length≤1000000 by rw[hc1];exact HM.out)
  have HN1:=Lib.hid (show c1.bus.length≤900000 by rw[hc1];exact Nat.le_trans HQ.out HN.out)
  clear hc1 E HR HM HN HQ
  cases e1:(d.kind== 1)with
  | true=>
   have E:=Lib.hid (show ticksC c={ c1 with rob:=c1.rob.map (fillE c1 d.line) } by rw[E1.out,if_pos (by simpa using e1)])
   clear E1
   go_enter Tryz.func21,Tryz.ntmps21
   go_wp2_with (first|(go_at_call 45;refine(tick_any s.bus.a s.bus.n s.bus.c c.bus _ H.m.r.bus.sl H.m.r.bus.wf).mono ?_;unfold TicP;rw[HB.out];rintro r w1 ⟨t1,rfl,T1,T2,hb,T3⟩;have F2:Rd (fun j=>κ j=0) rqC 4 w1 t1 q:=⟨T1,T2,fun hn p hp=>H.zero _ (T3 hn p hp)⟩;clear T1 T2 T3;replace H:=H.below hb)|((with_reducible refine gAl 98 ?_);refine st_alb rfl (rqC rqZ) zero98 H rfl ?_;intro w1 b3 κ1 hlt1 hb1 hs1 H1;have F0:=F2.up hs1 hb1;clear F2 hs1;have F2:=F0;clear F0;clear H;have H:=H1;clear H1;try simp only[Act.put,xA,xB,xC,fR])|((with_reducible refine gS 98 3 ?_);refine st_slw rfl cel98 _ _ _ H _ _ rfl rfl _ rfl rfl rfl rfl ?_;intro w1 ho1 H1;have F0:=F2.off ho1 (H.k6 mm0);clear F2 ho1;have F2:=F0;clear F0;clear H;have H:=H1;clear H1;try simp only[Act.put,xA,xB,xC,fR])|((with_reducible refine gL 36 11 ?_);refine st_ld1 rfl one36 H _ rfl 55 rfl _ (coC_55 _ _) ?_;go_frame)|((with_reducible refine gL 3 24 ?_);refine st_ll1 rfl one3 H _ rfl _ 0 rfl _ 98 mm0 _ (rqC_0 _) ?_;go_frame)|((with_reducible refine gL 31 31 ?_);refine st_ld1 rfl one31 H _ rfl 48 rfl _ (coC_48 _ _) ?_;go_frame)|((with_reducible refine gS 36 21 ?_);refine st_sb rfl cel36 (H.md (H.m.r.s_bus ⟨t1.a,t1.n,t1.c⟩ q F2)) _ _ rfl 55 rfl _ rfl rfl rfl (by decide) (coU_bus _ _ q t1.a t1.n t1.c) ?_;intro w1 H1;clear F2 H;obtain⟨s2,H⟩:∃ s2,St' w0 w w1 g κ κ1 c1 s2 [(b3,rqC d,98)]:=⟨_,by rw[HC.out];exact H1⟩;clear H1;try simp only[Act.put,xA,xB,xC,fR]))
   have hlen:=H.m.r.rob.sl.len
   have hfew:=H.m.r.rob.sl.few
   go_loopw [34] (fun i wr=>∃(k:Nat) (κ':Nat→Nat),k≤s2.rob.n∧i= .int .i64 (k:Int)∧St' w0 w wr g κ κ' (robk (fillE c1 d.line) c1 k) s2 [(b3,rqC d,98)]) (fun i _=>s2.rob.n-(intOf i).toNat)
   case atStart=>exact⟨0,κ1,Nat.zero_le _,rfl,by rw[robk_0];exact H⟩
   case round=>
    clear H
    obtain⟨k,κ',hk,rfl,H⟩:=hrel
    by_cases hlt:k<s2.rob.n
    ·obtain⟨r,off,cur,y,eA,_,_,_,hy',hcl⟩:=H.m.entry (i:=k) (by rw[H.m.r.rob.sl.len];exact hlt)
     have hy:c1.rob[k]?=some y:=by
      obtain⟨z,hz⟩:∃ z,c1.rob[k]?=some z:=⟨_,List.getElem?_eq_getElem (by omega)⟩
      have:=robk_at (f:=fillE c1 d.line) hz
      rw[hy']at this;rw[hz,this]
     have HY:=Lib.hid hy
     have HY':=Lib.hid hy'
     have HC1:=Lib.hid hcl
     have EA:=Lib.hid eA
     have b3':(0:Int)≤(k:Int):=by omega
     have b4':(k:Int)<(s2.rob.n:Int):=by omega
     clear hy hy' hcl
     cases g1:(y.is== 2)with
     | false=>
      have HX:=Lib.hid (robk_id (f:=fillE c1 d.line) HY.out (fillE_no (fun h=>by rw[h.1]at g1;cases g1)))
      go_wp2_with (first|((with_reducible refine gL 85 37 ?_);refine st_lrow rfl row85 _ rfl r (off+k*17) rfl (enC y) rfl HC1.out ?_;try simp only[Act.put,xA,xB,xC,fR])|((with_reducible refine gAl 85 ?_);refine st_al rfl (enC enZ) zero85 H rfl ?_;clear H;intro w1 b6 κ1 H;go_frame)|((with_reducible refine gS 85 6 ?_);refine st_slw rfl cel85 _ _ _ H _ _ rfl rfl _ rfl rfl rfl rfl ?_;clear H;intro w1 ho1 H;go_frame))
      go_wp2_with fail
      refine beginS 10 (l0:=zz11) H (by kernel_rfl) ?_ (by kernel_rfl);clear H;intro H
      refine tP 0 39 H ?_;go_frame
      refine tC 1 40 rfl (by kernel_rfl) iQ (by(exact yields_one one3 rfl _ rfl _ rfl _ (fun w h=>(h.lcell mm0 8).trans (enC_8 _)))) H ?_;go_frame
      iterate 2 refine rP H ?_;go_frame
      refine tU 4 43 H ?_;go_frame
      refine tU 5 44 H ?_;go_frame
      refine tU 6 45 H ?_;go_frame
      refine tU 7 46 H ?_;go_frame
      refine tU 8 47 H ?_;go_frame
      refine tU 9 48 H ?_;go_frame
      refine o1C 10 49 (fun K hK=>?_)
      refine step_v rfl (v:=?vr110) ?hyr110 ?restr110
      case hyr110=>(go_simp;try(with_reducible rfl))
      refine hK.out _ _ (aB rfl) ?_;clear hK K;go_frame
      refine dnC ?_ _
      go_wp2_with fail
      try simp only[← eA]
      clear eA
      go_roundw
      all_goals first
       | exact⟨k+1,_,by omega,by go_num,by rw[← HX.out];exact H.drop⟩|(simp[intOf];omega)
     | true=>
      have hq1:y.is=2:=by simpa using g1
      cases g2:((lineU y.addr).v== d.line.v)with
      | false=>
       have HX:=Lib.hid (robk_id (f:=fillE c1 d.line) HY.out (fillE_no (fun h=>by rw[h.2]at g2;simp at g2)))
       clear hq1
       go_wp2_with (first|((with_reducible refine gL 85 37 ?_);refine st_lrow rfl row85 _ rfl r (off+k*17) rfl (enC y) rfl HC1.out ?_;try simp only[Act.put,xA,xB,xC,fR])|((with_reducible refine gAl 85 ?_);refine st_al rfl (enC enZ) zero85 H rfl ?_;clear H;intro w1 b6 κ1 H;go_frame)|((with_reducible refine gS 85 6 ?_);refine st_slw rfl cel85 _ _ _ H _ _ rfl rfl _ rfl rfl rfl rfl ?_;clear H;intro w1 ho1 H;go_frame))
       go_wp2_with fail
       refine beginS 10 (l0:=zz11) H (by kernel_rfl) ?_ (by kernel_rfl);clear H;intro H
       refine tP 0 39 H ?_;go_frame
       refine tC 1 40 rfl (by kernel_rfl) iQ (by(exact yields_one one3 rfl _ rfl _ rfl _ (fun w h=>(h.lcell mm0 8).trans (enC_8 _)))) H ?_;go_frame
       iterate 3 refine rP H ?_;go_frame
       refine tC 5 44 rfl (by kernel_rfl) iQ (by(first|(exact yieldsG_one (by rfl) one28 _ rfl _ rfl _ (fun w h=>(h.lcell mm0 12).trans (enC_12 _)))|fail)) H ?_;go_frame
       refine tP 7 46 H ?_;go_frame
       refine tC 8 47 rfl (by kernel_rfl) iQ (by(first|(exact yieldsG_one (by rfl) one28 _ rfl _ rfl _ (fun w h=>(h.lcell mm1 1).trans (rqC_1 _)))|fail)) H ?_;go_frame
       refine o1C 6 45 (fun K hK=>?_)
       refine openG (by rfl) (wp_fn _ _ _ (line_any' y.addr _) (by go_simp<;>rfl) ?_);rintro r w1 ⟨rfl,rfl⟩;refine⟨_,rfl,?_⟩
       refine hK.out _ _ (fun _=>H) ?_;clear hK K;go_frame
       refine tP 9 48 H ?_;go_frame
       refine o1C 10 49 (fun K hK=>?_)
       refine step_v rfl (v:=?vr210) ?hyr210 ?restr210
       case hyr210=>(go_simp;try(with_reducible rfl))
       refine hK.out _ _ (aB rfl) ?_;clear hK K;go_frame
       refine dnC ?_ _
       go_wp2_with fail
       try simp only[← eA]
       clear eA
       go_roundw
       all_goals first
        | exact⟨k+1,_,by omega,by go_num,by rw[← HX.out];exact H.drop⟩|(simp[intOf];omega)
      | true=>
       have HX:=Lib.hid (fillE_yes (c:=c1) (line:=d.line) (e:=y) ⟨hq1,U.eq_of (by simpa using g2)⟩)
       clear hq1
       go_wp2_with (first|((with_reducible refine gL 85 37 ?_);refine st_lrow rfl row85 _ rfl r (off+k*17) rfl (enC y) rfl HC1.out ?_;try simp only[Act.put,xA,xB,xC,fR])|((with_reducible refine gAl 85 ?_);refine st_al rfl (enC enZ) zero85 H rfl ?_;clear H;intro w1 b6 κ1 H;go_frame)|((with_reducible refine gS 85 6 ?_);refine st_slw rfl cel85 _ _ _ H _ _ rfl rfl _ rfl rfl rfl rfl ?_;clear H;intro w1 ho1 H;go_frame))
       go_wp2_with fail
       refine beginS 10 (l0:=zz11) H (by kernel_rfl) ?_ (by kernel_rfl);clear H;intro H
       refine tP 0 39 H ?_;go_frame
       refine tC 1 40 rfl (by kernel_rfl) iQ (by(exact yields_one one3 rfl _ rfl _ rfl _ (fun w h=>(h.lcell mm0 8).trans (enC_8 _)))) H ?_;go_frame
       iterate 3 refine rP H ?_;go_frame
       refine tC 5 44 rfl (by kernel_rfl) iQ (by(first|(exact yieldsG_one (by rfl) one28 _ rfl _ rfl _ (fun w h=>(h.lcell mm0 12).trans (enC_12 _)))|fail)) H ?_;go_frame
       refine tP 7 46 H ?_;go_frame
       refine tC 8 47 rfl (by kernel_rfl) iQ (by(first|(exact yieldsG_one (by rfl) one28 _ rfl _ rfl _ (fun w h=>(h.lcell mm1 1).trans (rqC_1 _)))|fail)) H ?_;go_frame
       refine o1C 6 45 (fun K hK=>?_)
       refine openG (by rfl) (wp_fn _ _ _ (line_any' y.addr _) (by go_simp<;>rfl) ?_);rintro r w1 ⟨rfl,rfl⟩;refine⟨_,rfl,?_⟩
       refine hK.out _ _ (fun _=>H) ?_;clear hK K;go_frame
       refine tP 9 48 H ?_;go_frame
       refine o1C 10 49 (fun K hK=>?_)
       refine step_v rfl (v:=?vr310) ?hyr310 ?restr310
       case hyr310=>(go_simp;try(with_reducible rfl))
       refine hK.out _ _ (aB rfl) ?_;clear hK K;go_frame
       refine dnC ?_ _
       go_wp2_with (((with_reducible refine gS 4 50 ?_);refine st_sl rfl cel4 _ _ _ H _ _ rfl 16 rfl _ rfl rfl rfl (Nat.le_of_ble_eq_true rfl) _ (enU_16 _ _) ?_;clear H;intro w1 ho1 H;go_frame))
       go_wp2_with fail
       refine beginE 12 (l0:=zz13) H (by kernel_rfl) ?_ (by kernel_rfl);clear H;intro H
       iterate 4 refine rP ⟨_,H⟩ ?_;go_frame
       refine tC 4 55 rfl (by kernel_rfl) iQ (by(exact yields_one one31 rfl _ rfl _ rfl _ (fun w h=>(h.cell 48).trans (coC_48 _ _)))) ⟨_,H⟩ ?_;go_frame
       refine tP 5 56 ⟨_,H⟩ ?_;go_frame
       refine tC 6 57 rfl (by kernel_rfl) iQ (by(exact yields_row row85 rfl _ rfl _ _ rfl _ rfl (fun w h j v hj=>(h.lcell mm0 _).trans (Sub.all _ j v hj)))) ⟨_,H⟩ ?_;go_frame
       refine tP 7 58 ⟨_,H⟩ ?_;go_frame
       refine tC 8 59 rfl (by kernel_rfl) iQ (by(exact yields_row row85 rfl _ rfl _ _ rfl _ rfl (fun w h j v hj=>(h.lcell mm0 _).trans (Sub.all _ j v hj)))) ⟨_,H⟩ ?_;go_frame
       refine o1C 9 60 (fun K hK=>?_)
       refine step_fn rfl _ _ _ (bytes_m w0 _ g _ _ _ { y with filled:=true } H.m HR1.out HM1.out) (by go_simp<;>rfl) ?_;rintro r w1 ⟨rfl,κ2,hm2,hk2,hs2⟩;refine⟨_,rfl,?_⟩;have H1:=H.call hm2 hk2 hs2;clear H hm2 hk2 hs2;have H:=H1;clear H1
       refine hK.out _ _ (fun _=>⟨_,H⟩) ?_;clear hK K;go_frame
       refine o1C 10 61 (fun K hK=>?_)
       refine step_fn rfl _ _ _ (take_any { y with filled:=true } (bytesE c1 { y with filled:=true }) (Nat.le_trans (bytesE_len _ _) (by decide)) _) (by go_simp<;>rfl) ?_;rintro r w1 ⟨rfl,hb⟩;refine⟨_,rfl,?_⟩;replace H:=H.below hb
       refine hK.out _ _ (fun _=>⟨_,H⟩) ?_;clear hK K;go_frame
       refine tP 11 62 ⟨_,H⟩ ?_;go_frame
       refine o1N 12 (fun K hK=>?_)
       refine step_se rfl cel85 H _ _ rfl r off k 0 y (takeE { y with filled:=true } (bytesE c1 { y with filled:=true })) EA.out HY'.out rfl _ rfl rfl rfl (by decide) (en_put y _) ?_;clear H;intro w1 H
       refine hK.out _ _ (aB rfl) ?_;clear hK K;go_frame
       refine dnC ?_ _
       go_wp2_with fail
       try simp only[← eA]
       clear eA
       go_roundw
       all_goals first
        | exact⟨k+1,_,by omega,by go_num,by rw[← robk_set HY.out,HX.out];exact H.drop⟩|(simp[intOf];omega)
    ·have hkn:k=s2.rob.n:=by omega
     subst hkn
     go_wp2
     go_end0
     refine⟨rfl,?_⟩
     rw[E.out,← robk_all (k:=s2.rob.n) (by omega)]
     exact H.mp
  | false=>
   have N1:¬ d.kind=1:=by simpa using e1
   cases e2:(d.kind== 2)with
   | true=>
    have E:=Lib.hid (show ticksC c={ c1 with words:=(putC c1.words d.line [] false).1 } by rw[E1.out,if_neg N1,if_pos (by simpa using e2)])
    clear E1 N1
    go_enter Tryz.func21,Tryz.ntmps21
    go_wp2_with (first|(go_at_call 45;refine(tick_any s.bus.a s.bus.n s.bus.c c.bus _ H.m.r.bus.sl H.m.r.bus.wf).mono ?_;unfold TicP;rw[HB.out];rintro r w1 ⟨t1,rfl,T1,T2,hb,T3⟩;have F2:Rd (fun j=>κ j=0) rqC 4 w1 t1 q:=⟨T1,T2,fun hn p hp=>H.zero _ (T3 hn p hp)⟩;clear T1 T2 T3;replace H:=H.below hb)|((with_reducible refine gAl 98 ?_);refine st_alb rfl (rqC rqZ) zero98 H rfl ?_;intro w1 b3 κ1 hlt1 hb1 hs1 H1;have F0:=F2.up hs1 hb1;clear F2 hs1;have F2:=F0;clear F0;clear H;have H:=H1;clear H1;try simp only[Act.put,xA,xB,xC,fR])|((with_reducible refine gS 98 3 ?_);refine st_slw rfl cel98 _ _ _ H _ _ rfl rfl _ rfl rfl rfl rfl ?_;intro w1 ho1 H1;have F0:=F2.off ho1 (H.k6 mm0);clear F2 ho1;have F2:=F0;clear F0;clear H;have H:=H1;clear H1;try simp only[Act.put,xA,xB,xC,fR])|((with_reducible refine gL 36 11 ?_);refine st_ld1 rfl one36 H _ rfl 55 rfl _ (coC_55 _ _) ?_;go_frame)|((with_reducible refine gL 3 24 ?_);refine st_ll1 rfl one3 H _ rfl _ 0 rfl _ 98 mm0 _ (rqC_0 _) ?_;go_frame)|((with_reducible refine gS 36 21 ?_);refine st_sb rfl cel36 (H.md (H.m.r.s_bus ⟨t1.a,t1.n,t1.c⟩ q F2)) _ _ rfl 55 rfl _ rfl rfl rfl (by decide) (coU_bus _ _ q t1.a t1.n t1.c) ?_;intro w1 H1;clear F2 H;obtain⟨s2,H⟩:∃ s2,St' w0 w w1 g κ κ1 c1 s2 [(b3,rqC d,98)]:=⟨_,by rw[HC.out];exact H1⟩;clear H1;try simp only[Act.put,xA,xB,xC,fR]))
    go_wp2_with fail
    refine beginS 8 (l0:=zz17) H (by kernel_rfl) ?_ (by kernel_rfl);clear H;intro H
    iterate 5 refine rP H ?_;go_frame
    refine tC 5 72 rfl (by kernel_rfl) iQ (by(exact yields_row row35 rfl _ rfl _ _ rfl _ rfl (fun w h j v hj=>(h.cell _).trans (sub_words _ _ j v hj)))) H ?_;go_frame
    refine tP 6 73 H ?_;go_frame
    refine tC 7 74 rfl (by kernel_rfl) iQ (by(exact yields_one one28 rfl _ rfl _ rfl _ (fun w h=>(h.lcell mm0 1).trans (rqC_1 _)))) H ?_;go_frame
    refine o1C 8 75 (fun K hK=>?_)
    refine step_fn rfl _ _ _ (put_any _ s2.words c1.words d.line [] false (Nat.zero_le _) _ H.zero H.m.r.words) (by go_simp<;>rfl) ?_;unfold PutP;rintro r w1 ⟨u1,rfl,F1,hb⟩;refine⟨_,rfl,?_⟩;replace H:=H.below hb
    refine hK.out _ _ (aB rfl) ?_;clear hK K;go_frame
    iterate 7 refine rQ rfl ?_;go_frame
    refine o1N 16 (fun K hK=>?_)
    refine step_sb rfl cel35 (H.md (H.m.r.s_words ⟨u1.a,u1.n,u1.c⟩ (putC c1.words d.line [] false).1 F1)) _ _ rfl 53 rfl _ rfl rfl rfl (by decide) (coU_words _ _ (putC c1.words d.line [] false).1 u1.a u1.n u1.c) ?_;intro w1 H1;clear F1 H;have H:=H1;clear H1
    refine hK.out _ _ (aB rfl) ?_;clear hK K;go_frame
    refine dnC ?_ _
    go_wp2
    go_end0
    exact⟨rfl,by rw[E.out];exact H.mp⟩
   | false=>
    have N2:¬ d.kind=2:=by simpa using e2
    cases e3:(d.kind== 3)with
    | true=>
     have E:=Lib.hid (show ticksC c=bringC c1 d.line by rw[E1.out,if_neg N1,if_neg N2,if_pos (by simpa using e3)])
     clear E1 N1 N2
     go_enter Tryz.func21,Tryz.ntmps21
     go_wp2_with (first|(go_at_call 45;refine(tick_any s.bus.a s.bus.n s.bus.c c.bus _ H.m.r.bus.sl H.m.r.bus.wf).mono ?_;unfold TicP;rw[HB.out];rintro r w1 ⟨t1,rfl,T1,T2,hb,T3⟩;have F2:Rd (fun j=>κ j=0) rqC 4 w1 t1 q:=⟨T1,T2,fun hn p hp=>H.zero _ (T3 hn p hp)⟩;clear T1 T2 T3;replace H:=H.below hb)|((with_reducible refine gAl 98 ?_);refine st_alb rfl (rqC rqZ) zero98 H rfl ?_;intro w1 b3 κ1 hlt1 hb1 hs1 H1;have F0:=F2.up hs1 hb1;clear F2 hs1;have F2:=F0;clear F0;clear H;have H:=H1;clear H1;try simp only[Act.put,xA,xB,xC,fR])|((with_reducible refine gS 98 3 ?_);refine st_slw rfl cel98 _ _ _ H _ _ rfl rfl _ rfl rfl rfl rfl ?_;intro w1 ho1 H1;have F0:=F2.off ho1 (H.k6 mm0);clear F2 ho1;have F2:=F0;clear F0;clear H;have H:=H1;clear H1;try simp only[Act.put,xA,xB,xC,fR])|((with_reducible refine gL 36 11 ?_);refine st_ld1 rfl one36 H _ rfl 55 rfl _ (coC_55 _ _) ?_;go_frame)|((with_reducible refine gL 3 24 ?_);refine st_ll1 rfl one3 H _ rfl _ 0 rfl _ 98 mm0 _ (rqC_0 _) ?_;go_frame)|((with_reducible refine gL 28 85 ?_);refine st_ll1 rfl one28 H _ rfl _ 1 rfl _ 98 mm0 _ (rqC_1 _) ?_;go_frame)|((with_reducible refine gS 36 21 ?_);refine st_sb rfl cel36 (H.md (H.m.r.s_bus ⟨t1.a,t1.n,t1.c⟩ q F2)) _ _ rfl 55 rfl _ rfl rfl rfl (by decide) (coU_bus _ _ q t1.a t1.n t1.c) ?_;intro w1 H1;clear F2 H;obtain⟨s2,H⟩:∃ s2,St' w0 w w1 g κ κ1 c1 s2 [(b3,rqC d,98)]:=⟨_,by rw[HC.out];exact H1⟩;clear H1;try simp only[Act.put,xA,xB,xC,fR])|(go_at_call 49;refine(bring_m w0 _ g _ c1 _ d.line H.m HM1.out HN1.out).mono ?_;rintro r w1 ⟨rfl,hmp⟩;obtain⟨κ2,s2,H1⟩:=H.mpc hmp;clear hmp;clear H;have H:=H1;clear H1))
     go_end0
     exact⟨rfl,by rw[E.out];exact H.mp⟩
    | false=>
     have N3:¬ d.kind=3:=by simpa using e3
     cases e4:(d.kind== 4)
     case' true=>
      have E:=Lib.hid (show ticksC c={ c1 with mem:=overM c1.mem [⟨d.line,d.data⟩] } by rw[E1.out,if_neg N1,if_neg N2,if_neg N3,if_pos (by simpa using e4)])
      clear E1 N1 N2 N3
      go_enter Tryz.func21,Tryz.ntmps21
      go_wp2_with (first|(go_at_call 45;refine(tick_any s.bus.a s.bus.n s.bus.c c.bus _ H.m.r.bus.sl H.m.r.bus.wf).mono ?_;unfold TicP;rw[HB.out];rintro r w1 ⟨t1,rfl,T1,T2,hb,T3⟩;have F2:Rd (fun j=>κ j=0) rqC 4 w1 t1 q:=⟨T1,T2,fun hn p hp=>H.zero _ (T3 hn p hp)⟩;clear T1 T2 T3;replace H:=H.below hb)|((with_reducible refine gAl 98 ?_);refine st_alb rfl (rqC rqZ) zero98 H rfl ?_;intro w1 b3 κ1 hlt1 hb1 hs1 H1;have F0:=F2.up hs1 hb1;clear F2 hs1;have F2:=F0;clear F0;clear H;have H:=H1;clear H1;try simp only[Act.put,xA,xB,xC,fR])|((with_reducible refine gS 98 3 ?_);refine st_slw rfl cel98 _ _ _ H _ _ rfl rfl _ rfl rfl rfl rfl ?_;intro w1 ho1 H1;have F0:=F2.off ho1 (H.k6 mm0);clear F2 ho1;have F2:=F0;clear F0;clear H;have H:=H1;clear H1;try simp only[Act.put,xA,xB,xC,fR])|((with_reducible refine gL 36 11 ?_);refine st_ld1 rfl one36 H _ rfl 55 rfl _ (coC_55 _ _) ?_;go_frame)|((with_reducible refine gL 3 24 ?_);refine st_ll1 rfl one3 H _ rfl _ 0 rfl _ 98 mm0 _ (rqC_0 _) ?_;go_frame)|((with_reducible refine gS 36 21 ?_);refine st_sb rfl cel36 (H.md (H.m.r.s_bus ⟨t1.a,t1.n,t1.c⟩ q F2)) _ _ rfl 55 rfl _ rfl rfl rfl (by decide) (coU_bus _ _ q t1.a t1.n t1.c) ?_;intro w1 H1;clear F2 H;obtain⟨s2,H⟩:∃ s2,St' w0 w w1 g κ κ1 c1 s2 [(b3,rqC d,98)]:=⟨_,by rw[HC.out];exact H1⟩;clear H1;try simp only[Act.put,xA,xB,xC,fR]))
      go_wp2_with fail
      refine beginE 12 (l0:=zz17) H (by kernel_rfl) ?_ (by kernel_rfl);clear H;intro H
      iterate 5 refine rP ⟨_,H⟩ ?_;go_frame
      refine tC 5 95 rfl (by kernel_rfl) iQ (by(exact yields_one one9 rfl _ rfl _ rfl _ (fun w h=>(h.cell 58).trans (coC_58 _ _)))) ⟨_,H⟩ ?_;go_frame
      refine tP 6 96 ⟨_,H⟩ ?_;go_frame
      refine tC 7 97 rfl (by kernel_rfl) iQ (by(exact yields_one one28 rfl _ rfl _ rfl _ (fun w h=>(h.lcell mm0 1).trans (rqC_1 _)))) ⟨_,H⟩ ?_;go_frame
      refine tP 8 98 ⟨_,H⟩ ?_;go_frame
      refine tC 9 99 rfl (by kernel_rfl) iQ (by(exact yields_one one9 rfl _ rfl _ rfl _ (fun w h=>(h.lcell mm0 3).trans (rqC_3 _)))) ⟨_,H⟩ ?_;go_frame
      refine tP 10 100 ⟨_,H⟩ ?_;go_frame
      refine o1C 11 101 (fun K hK=>?_)
      refine step_Sbs rfl slT32' (by decide) (ptC ⟨d.line,d.data⟩) H _ rfl rfl rfl ?_;intro w1 b101 κ2 HL;clear H;have H:=HL.drop
      refine hK.out _ _ (fun _=>⟨_,H⟩) ?_;clear hK K;go_frame
      refine o1C 12 102 (fun K hK=>?_)
      refine step_fn rfl _ _ _ (over_any c1.mem HM1.out (some ⟨b101,0,none⟩) 1 1 [⟨d.line,d.data⟩] _ (Sl.one (HL.lc _ mm0).1)) (by go_simp<;>rfl) ?_;rintro r w1 ⟨rfl,hb⟩;refine⟨_,rfl,?_⟩;have H1:=H.below hb;clear H HL;have H:=H1;clear H1
      refine hK.out _ _ (aB rfl) ?_;clear hK K;go_frame
      iterate 3 refine rQ rfl ?_;go_frame
      refine o1N 16 (fun K hK=>?_)
      refine step_sb rfl cel9 (H.md (H.m.r.s_mem (overM c1.mem [⟨d.line,d.data⟩]))) _ _ rfl 58 rfl _ rfl rfl rfl (by decide) (coU_mem _ _ _) ?_;clear H;intro w1 H
      refine hK.out _ _ (aB rfl) ?_;clear hK K;go_frame
      refine dnC ?_ _
     case' false=>
      have N4:¬ d.kind=4:=by simpa using e4
      have E:=Lib.hid (show ticksC c=c1 by rw[E1.out,if_neg N1,if_neg N2,if_neg N3,if_neg N4])
      clear E1 N1 N2 N3 N4
      go_enter Tryz.func21,Tryz.ntmps21
     all_goals
      go_wp2_with (first|(go_at_call 45;refine(tick_any s.bus.a s.bus.n s.bus.c c.bus _ H.m.r.bus.sl H.m.r.bus.wf).mono ?_;unfold TicP;rw[HB.out];rintro r w1 ⟨t1,rfl,T1,T2,hb,T3⟩;have F2:Rd (fun j=>κ j=0) rqC 4 w1 t1 q:=⟨T1,T2,fun hn p hp=>H.zero _ (T3 hn p hp)⟩;clear T1 T2 T3;replace H:=H.below hb)|((with_reducible refine gAl 98 ?_);refine st_alb rfl (rqC rqZ) zero98 H rfl ?_;intro w1 b3 κ1 hlt1 hb1 hs1 H1;have F0:=F2.up hs1 hb1;clear F2 hs1;have F2:=F0;clear F0;clear H;have H:=H1;clear H1;try simp only[Act.put,xA,xB,xC,fR])|((with_reducible refine gS 98 3 ?_);refine st_slw rfl cel98 _ _ _ H _ _ rfl rfl _ rfl rfl rfl rfl ?_;intro w1 ho1 H1;have F0:=F2.off ho1 (H.k6 mm0);clear F2 ho1;have F2:=F0;clear F0;clear H;have H:=H1;clear H1;try simp only[Act.put,xA,xB,xC,fR])|((with_reducible refine gL 36 11 ?_);refine st_ld1 rfl one36 H _ rfl 55 rfl _ (coC_55 _ _) ?_;go_frame)|((with_reducible refine gL 3 24 ?_);refine st_ll1 rfl one3 H _ rfl _ 0 rfl _ 98 mm0 _ (rqC_0 _) ?_;go_frame)|((with_reducible refine gS 36 21 ?_);refine st_sb rfl cel36 (H.md (H.m.r.s_bus ⟨t1.a,t1.n,t1.c⟩ q F2)) _ _ rfl 55 rfl _ rfl rfl rfl (by decide) (coU_bus _ _ q t1.a t1.n t1.c) ?_;intro w1 H1;clear F2 H;obtain⟨s2,H⟩:∃ s2,St' w0 w w1 g κ κ1 c1 s2 [(b3,rqC d,98)]:=⟨_,by rw[HC.out];exact H1⟩;clear H1;try simp only[Act.put,xA,xB,xC,fR]))
      go_end0
      exact⟨rfl,by rw[E.out];exact H.mp⟩
theorem neq83(a b:In)(w:World):(binOp .neq 83 (.agg (inC a)) (.agg (inC b))).run Tryz.prog w= .ok (.bool (!(decide (a=b)))) w:=by
 obtain⟨a1,a2,a3,a4,a5⟩:=a
 obtain⟨b1,b2,b3,b4,b5⟩:=b
 have hu:a5.v=b5.v↔a5=b5:=⟨U.eq_of,fun h=>by rw[h]⟩
 unfold inC
 simp[go_sem]
 repeat' split
 all_goals simp_all
theorem neq83t{a b:In}(h:a=b)(w:World):(binOp .neq 83 (.agg (inC a)) (.agg #[.int .i64 b.op,.int .i64 b.rd,.int .i64 b.r1,.int .i64 b.r2,.int .u32 b.imm.v])).run Tryz.prog w= .ok (.bool false) w:=by
 have:=neq83 a b w
 rw[decide_eq_true h]at this
 exact this
theorem neq83f{a b:In}(h:¬ a=b)(w:World):(binOp .neq 83 (.agg (inC a)) (.agg #[.int .i64 b.op,.int .i64 b.rd,.int .i64 b.r1,.int .i64 b.r2,.int .u32 b.imm.v])).run Tryz.prog w= .ok (.bool true) w:=by
 have:=neq83 a b w
 rw[decide_eq_false h]at this
 exact this
theorem ret_enc{i:In}{x:U}{z:Int}(h:enc i=(x,z)):Ending.returned (.tuple #[.int .u32 x.v,.int .i64 z])= .returned (.tuple #[.int .u32 (enc i).1.v,.int .i64 (enc i).2]):=by rw[h]
theorem enc_ok{i:In}{f:Int}(hf:fm i.op=f)(h0:f≠0){x:U}(hx:encO (h2 f) (encO (h1 f) (encO (hd f) (orU (codeU i.op) (scat (parts f) (shrU i.imm (lowB f)) (U.of 0))) 7 i.rd) 15 i.r1) 20 i.r2=x)(h:readI i.op x=i):enc i=(x,0):=by
 unfold enc
 simp only[hf]
 rw[if_neg h0,hx,if_pos h]
theorem enc_no{i:In}{f:Int}(hf:fm i.op=f)(h0:f≠0){x:U}(hx:encO (h2 f) (encO (h1 f) (encO (hd f) (orU (codeU i.op) (scat (parts f) (shrU i.imm (lowB f)) (U.of 0))) 7 i.rd) 15 i.r1) 20 i.r2=x)(h:¬ readI i.op x=i):enc i=(U.of 0,1):=by
 unfold enc
 simp only[hf]
 rw[if_neg h0,hx,if_neg h]
def EncP(i:In)(w:World)(e:Ending)(w':World):Prop:=e= .returned (.tuple #[.int .u32 (enc i).1.v,.int .i64 (enc i).2])∧Below w.heap.size w w'
theorem fm_in{op:Int}(h:fm op≠0):1≤op∧op≤48:=by
 unfold fm at h
 split at h
 ·exact absurd rfl h
 ·omega
theorem keep6{w1 w w':World}{a1 a2 a3 a4 a5 a6:Addr}{v1 v2 v3 v4 v5 v6:Option Value}(h:w.cell? a1=v1∧w.cell? a2=v2∧w.cell? a3=v3∧w.cell? a4=v4∧w.cell? a5=v5∧w.cell? a6=v6∧Below w1.heap.size w1 w)(hb:Below w.heap.size w w')
 (l:a1.block<w1.heap.size∧a2.block<w1.heap.size∧a3.block<w1.heap.size∧a4.block<w1.heap.size∧a5.block<w1.heap.size∧a6.block<w1.heap.size):
 w'.cell? a1=v1∧w'.cell? a2=v2∧w'.cell? a3=v3∧w'.cell? a4=v4∧w'.cell? a5=v5∧w'.cell? a6=v6∧Below w1.heap.size w1 w':=by
 obtain⟨h1,h2,h3,h4,h5,h6,h7⟩:=h
 have hs:=h7.size
 exact⟨(hb.cell (by omega)).trans h1,(hb.cell (by omega)).trans h2,(hb.cell (by omega)).trans h3,(hb.cell (by omega)).trans h4,(hb.cell (by omega)).trans h5,(hb.cell (by omega)).trans h6,h7.trans (hb.mono hs)⟩
theorem encode_any(i:In)(w:World)(hT:TabC w):Calls Tryz.prog 105 #[.agg (inC i)] w (EncP i w):=by
 have HT:=Lib.hid hT
 clear hT
 have x0:=i.imm.lo
 have x1:=i.imm.hi
 obtain⟨f,hf⟩:∃ f,fm i.op=f:=⟨_,rfl⟩
 have F:=Lib.hid (fun w=>form_any i.op w)
 have HF:=Lib.hid hf
 by_cases hz:f=0
 ·have E0:enc i=(U.of 0,1):=by unfold enc;rw[hf,if_pos hz]
  have E:=Lib.hid E0
  clear E0 hf
  subst hz
  go_enter Tryz.func105,Tryz.ntmps105
  go_wp2_with (go_at_call 107;refine(F.out _).mono ?_;rw[HF.out];rintro r w1 ⟨rfl,rfl⟩)
  go_ret2
  exact⟨by rw[E.out];rfl,by(repeat(first|exact Below.refl _ _|(refine Below.alloc ?_ ?_ _;rotate_left;(omega))))⟩
 ·obtain⟨o0,o1⟩:=fm_in (op:=i.op) (by rw[hf];exact hz)
  have hz':(f== 0)=false:=by rw[beq_eq_false_iff_ne];exact hz
  obtain⟨l0,l1⟩:=lowB_bd f
  have N':=Lib.hid (fun w=>number_any f w)
  clear hf hz
  go_enter Tryz.func105,Tryz.ntmps105
  go_wp2_with (first|(go_at_call 107;refine(F.out _).mono ?_;rw[HF.out];rintro r w1 ⟨rfl,rfl⟩)|(go_at_call 126;refine(N'.out _).mono ?_;rintro r w1 ⟨A,C,rfl,hsl,hb⟩;have HSL:=Lib.hid hsl;clear hsl;have HB:=Lib.hid hb;clear hb))
  have hB:=HB.out
  rw[World.size_alloc]at hB
  have s1:w.heap.size<w1.heap.size:=by have:=hB.size;rw[World.size_alloc]at this;omega
  have hBw:Below w.heap.size w w1:=by
   have:=((Below.refl w.heap.size w).alloc (Nat.le_refl _) (.cells (inC i) 83)).trans (hB.mono (Nat.le_succ _))
   exact this
  have HBW:=Lib.hid hBw
  have hg:w1.heap[w.heap.size]?=some (.cells (inC i) 83 (0,0)):=(hB.block _ (Nat.lt_succ_self _)).trans (heap_alloc_new w _)
  have HG:=Lib.hid hg
  have cj:∀ k v,(inC i)[k]?=some v→w1.cell? ⟨w.heap.size,k,none⟩=some v:=fun k v h=>by rw[cell_of_row _ _ _ _ _ _ hg];exact h
  have cT:w1.cell? ⟨0,i.op.toNat,none⟩=some (.int .u32 (codeU i.op).v):=by
   rw[(HT.out.below hBw).2 i.op.toNat (by omega),← code_v _ (by omega),show((i.op.toNat:Nat):Int)=i.op by omega]
  have HC:=Lib.hid (show w1.cell? ⟨w.heap.size,0,none⟩=some (.int .i64 i.op)∧w1.cell? ⟨w.heap.size,1,none⟩=some (.int .i64 i.rd)∧w1.cell? ⟨w.heap.size,2,none⟩=some (.int .i64 i.r1)∧w1.cell? ⟨w.heap.size,3,none⟩=some (.int .i64 i.r2)∧w1.cell? ⟨w.heap.size,4,none⟩=some (.int .u32 i.imm.v)∧w1.cell? ⟨0,i.op.toNat,none⟩=some (.int .u32 (codeU i.op).v)∧Below w1.heap.size w1 w1 from⟨cj 0 _ rfl,cj 1 _ rfl,cj 2 _ rfl,cj 3 _ rfl,cj 4 _ rfl,cT,Below.refl _ _⟩)
  have q0:=(codeU i.op).lo
  have q1:=(codeU i.op).hi
  have e1:i.imm.v / 2 ^ (lowB f).toNat=(shrU i.imm (lowB f)).v:=rfl
  have sc:=fun(W:World) (h:Below w1.heap.size w1 W)=>scatter_any (shrU i.imm (lowB f)) A _ C (parts f) W (HSL.out.below h) (parts_ok f)
  have SC:=Lib.hid sc
  have o2:(0:Int)≤i.op:=by omega
  have o3:i.op<49:=by omega
  have t0:0<w.heap.size:=HT.out.1
  clear hB hBw hg cj cT sc
  have e2:bits .or .u32 (codeU i.op).v (scat (parts f) (shrU i.imm (lowB f)) (U.of 0)).v=(orU (codeU i.op) (scat (parts f) (shrU i.imm (lowB f)) (U.of 0))).v:=rfl
  have e3:i.rd % 4294967296=(U.of i.rd).v:=rfl
  have e4:i.r1 % 4294967296=(U.of i.r1).v:=rfl
  have e5:i.r2 % 4294967296=(U.of i.r2).v:=rfl
  go_region_held3 (fun w'=>w'.cell? ⟨w.heap.size,0,none⟩=some (.int .i64 i.op)∧w'.cell? ⟨w.heap.size,1,none⟩=some (.int .i64 i.rd)∧w'.cell? ⟨w.heap.size,2,none⟩=some (.int .i64 i.r1)∧w'.cell? ⟨w.heap.size,3,none⟩=some (.int .i64 i.r2)∧w'.cell? ⟨w.heap.size,4,none⟩=some (.int .u32 i.imm.v)∧w'.cell? ⟨0,i.op.toNat,none⟩=some (.int .u32 (codeU i.op).v)∧Below w1.heap.size w1 w') (first|(exact⟨HC.out.1,HC.out.2.1,HC.out.2.2.1,HC.out.2.2.2.1,HC.out.2.2.2.2.1,HC.out.2.2.2.2.2.1,HC.out.2.2.2.2.2.2.drew⟩)|(exact keep6 (by assumption) (by assumption) ⟨by assumption,by assumption,by assumption,by assumption,by assumption,(show 0<w1.heap.size by omega)⟩)) ((go_at_call 127;refine(SC.out _ (And.right (And.right (And.right (And.right (And.right (And.right (by assumption)))))))).mono ?_;rintro e w' ⟨rfl,hg⟩))
  rename_i hS
  have HS:=Lib.hid hS
  cases c1:hd f<;>cases c2:h1 f<;>cases c3:h2 f
  all_goals
   have C1:=Lib.hid c1
   have C2:=Lib.hid c2
   have C3:=Lib.hid c3
   clear c1 c2 c3
   go_wp2_with (first|(go_at_call 106;refine(has_any f _).mono ?_;rw[C1.out,C2.out,C3.out];rintro r w1 ⟨rfl,rfl⟩)|(go_at_call 128;refine(set_any _ _ _ _ _).mono ?_;rintro r w1 ⟨rfl,rfl⟩))
   obtain⟨X,hX⟩:∃ X,encO (h2 f) (encO (h1 f) (encO (hd f) (orU (codeU i.op) (scat (parts f) (shrU i.imm (lowB f)) (U.of 0))) 7 i.rd) 15 i.r1) 20 i.r2=X:=⟨_,rfl⟩
   have hX':=hX
   rw[C1.out,C2.out,C3.out]at hX'
   simp only[encO,if_true,Bool.false_eq_true,if_false]at hX'
   have HX:=Lib.hid hX
   rw[hX']
   clear hX
   have RD:=Lib.hid (fun W=>read_any i.op X W)
   by_cases hq:readI i.op X=i
   have nq:=neq83t hq
   have HE:=Lib.hid (enc_ok HF.out (by simpa using hz') HX.out hq)
   rotate_left
   have nq:=neq83f hq
   have HE:=Lib.hid (enc_no HF.out (by simpa using hz') HX.out hq)
   rotate_left
   all_goals
    clear hq hX'
    go_region_held3 (fun w'=>w'.cell? ⟨w.heap.size,0,none⟩=some (.int .i64 i.op)∧w'.cell? ⟨w.heap.size,1,none⟩=some (.int .i64 i.rd)∧w'.cell? ⟨w.heap.size,2,none⟩=some (.int .i64 i.r1)∧w'.cell? ⟨w.heap.size,3,none⟩=some (.int .i64 i.r2)∧w'.cell? ⟨w.heap.size,4,none⟩=some (.int .u32 i.imm.v)∧w'.cell? ⟨0,i.op.toNat,none⟩=some (.int .u32 (codeU i.op).v)∧Below w1.heap.size w1 w') (first|(exact⟨HS.out.1,HS.out.2.1,HS.out.2.2.1,HS.out.2.2.2.1,HS.out.2.2.2.2.1,HS.out.2.2.2.2.2.1,HS.out.2.2.2.2.2.2.drew⟩)|(exact keep6 (by assumption) (by assumption) ⟨by assumption,by assumption,by assumption,by assumption,by assumption,(show 0<w1.heap.size by omega)⟩)) ((go_at_call 125;refine(RD.out _).mono ?_;rintro e w' ⟨rfl,hg⟩))
    rename_i hS2
    have HS2:=Lib.hid hS2
    clear hS2
    go_wp2
    go_ret2
    exact⟨ret_enc HE.out,HBW.out.trans (HS2.out.2.2.2.2.2.2.mono (by omega))⟩
theorem stands_any(e:En)(w:World)(hT:TabC w):Calls Tryz.prog 77 #[.agg (enC e)] w fun r w'=>r= .returned (.bool (standsE e))∧Below w.heap.size w w':=by
 obtain⟨ew,ee,he⟩:∃ ew ee,enc e.i=(ew,ee):=⟨_,_,rfl⟩
 have EN:=Lib.hid (fun W h=>encode_any e.i W h)
 have HT:=Lib.hid hT
 clear hT
 go_enter Tryz.func77,Tryz.ntmps77
 go_wp2_with (first|(go_at_call 52;refine(kind_any _ _ _ _ _ _).mono ?_;rintro r w1 ⟨rfl,hb⟩;obtain⟨ow,kw,rfl⟩:=more_of hb;clear hb)|(go_at_call 105;refine(EN.out _ (HT.out.below (by(repeat(first|exact Below.refl _ _|(refine Below.alloc ?_ ?_ _;rotate_left;(omega))|(refine bl_more ?_ ?_ _ _;rotate_left;(simp only[sZ]<;>omega))))))).mono ?_;unfold EncP;rw[he];rintro r w1 ⟨rfl,hb⟩;obtain⟨ow2,kw2,rfl⟩:=more_of hb;clear hb))
 all_goals
  go_ret
  refine⟨?_,by(repeat(first|exact Below.refl _ _|(refine Below.alloc ?_ ?_ _;rotate_left;(omega))|(refine bl_more ?_ ?_ _ _;rotate_left;(simp only[sZ]<;>omega))))⟩
  congr 2
  unfold standsE
  rw[he]
  simp_all
 all_goals(by_cases h:e.halt=2<;>simp_all)
def UpTo(L:List En)(k:Nat):Prop:=(∀ i y,i<k→L[i]?=some y→standsE y=true)∧(∀ i y z,i+1<k→L[i]?=some y→L[i+1]?=some z→y.no<z.no)
theorem stand_iff:∀ L:List En,standR L=true↔UpTo L L.length
 | []=>by simp[standR,UpTo]
 | e::l=>by
  have ih:=stand_iff l
  unfold standR
  rw[Bool.and_eq_true,Bool.and_eq_true,ih]
  constructor
  ·rintro⟨⟨h1,h2⟩,h3,h4⟩
   refine⟨fun i y hi hy=>?_,fun i y z hi hy hz=>?_⟩
   ·cases i with
    | zero=>simp at hy;rw[← hy];exact h1
    | succ i=>exact h3 i y (by simp at hi;omega) (by simpa using hy)
   ·cases i with
    | zero=>
     simp only[List.getElem?_cons_zero,Option.some.injEq]at hy
     subst hy
     cases l with
     | nil=>simp at hz
     | cons f l=>
      simp at hz h2
      rw[← hz];exact h2
    | succ i=>exact h4 i y z (by simp at hi;omega) (by simpa using hy) (by simpa using hz)
  ·rintro⟨h3,h4⟩
   refine⟨⟨h3 0 e (by simp) rfl,?_⟩,fun i y hi hy=>h3 (i+1) y (by simp;omega) (by simpa using hy),fun i y z hi hy hz=>h4 (i+1) y z (by simp;omega) (by simpa using hy) (by simpa using hz)⟩
   cases l with
   | nil=>rfl
   | cons f l=>simpa using h4 0 e f (by simp) rfl rfl
theorem upTo_next{L:List En}{k:Nat}{y:En}(h:UpTo L k)(hy:L[k]?=some y)(hs:standsE y=true)(hp:∀ i z,i+1=k→L[i]?=some z→z.no<y.no):UpTo L (k+1):=by
 refine⟨fun i z hi hz=>?_,fun i z u hi hz hu=>?_⟩
 ·by_cases e:i=k
  ·subst e;rw[hy]at hz;cases hz;exact hs
  ·exact h.1 i z (by omega) hz
 ·by_cases e:i+1=k
  ·rw[e,hy]at hu;cases hu;exact hp i z e hz
  ·exact h.2 i z u (by omega) hz hu
theorem right_no1{L:List En}{k:Nat}{y:En}(hy:L[k]?=some y)(hs:standsE y=false):rightR L=false:=by
 have hk:=(List.getElem?_eq_some_iff.1 hy).1
 have:¬ standR L=true:=fun h=>by have:=((stand_iff L).1 h).1 k y hk hy;rw[hs]at this;cases this
 unfold rightR
 rw[Bool.not_eq_true]at this
 rw[this,Bool.and_false]
theorem right_no2{L:List En}{k:Nat}{y z:En}(hy:L[k]?=some y)(hz:L[k+1]?=some z)(h:¬ y.no<z.no):rightR L=false:=by
 have hk:=(List.getElem?_eq_some_iff.1 hz).1
 have:¬ standR L=true:=fun h'=>h (((stand_iff L).1 h').2 k y z hk hy hz)
 unfold rightR
 rw[Bool.not_eq_true]at this
 rw[this,Bool.and_false]
theorem right_yes{L:List En}{n:Nat}(hn:L.length=n)(h8:n≤8)(h:UpTo L n):rightR L=true:=by
 unfold rightR
 rw[(stand_iff L).2 (by rw[hn];exact h)]
 simp;omega
theorem srights_any(A:Option Addr)(n C:Nat)(L:List En)(w:World)(hT:TabC w)(hL:Sl enC 17 w A n L):Calls Tryz.prog 36 #[.slice A n C] w fun r w'=>r= .returned (.bool (rightR L))∧Below w.heap.size w w':=by
 have hn:=hL.few
 have HL:=Lib.hid hL
 have HT:=Lib.hid hT
 clear hL hT
 by_cases h8:n≤8
 ·have d8:¬ (8:Int)<(n:Int):=by omega
  go_enter Tryz.func36,Tryz.ntmps36
  go_wp2
  go_loopw [10] (fun i wr=>∃(k:Nat),k≤n∧i= .int .i64 k∧Hid (UpTo L k)∧Below w.heap.size w wr) (fun i _=>n-(intOf i).toNat)
  case atStart=>exact⟨0,by omega,rfl,Lib.hid ⟨fun i y h=>by omega,fun i y z h=>by omega⟩,Below.refl _ _⟩
  case round=>
   obtain⟨k,hk,rfl,HG,HB⟩:=hrel
   have hBs:=HB.size
   by_cases hlt:k<n
   ·obtain⟨g,off,y,rfl,hg,hy,hc⟩:=(HL.out.below HB).at_ hlt
    have HY:=Lib.hid hy
    have HC:=Lib.hid hc
    have ST:=Lib.hid (fun W h=>stands_any y W h)
    obtain⟨sb,hsb⟩:∃ sb,standsE y=sb:=⟨_,rfl⟩
    rw[hsb]at ST
    have HSB:=Lib.hid hsb
    clear hy hc hsb
    have hH:Lo w wr []:=⟨HB,(fun x hx=>by cases hx),List.Pairwise.nil⟩
    have H:=hH
    clear hH
    cases k with
    | zero=>
     go_wp2_with (first|((with_reducible refine gL 85 13 ?_);refine st_lrow rfl row85 _ rfl g (off+0*17) rfl (enC y) rfl HC.out ?_;try simp only[Act.put,xA,xB,xC,fR])|((with_reducible refine gAl 85 ?_);refine st_Lal rfl (enC enZ) zero85 H rfl ?_;clear H;intro w1 b1 hlt1 hb1 H;go_frame)|((with_reducible refine gS 85 4 ?_);refine st_Lslw rfl cel85 _ _ _ H _ _ rfl rfl _ rfl rfl rfl rfl ?_;clear H;intro w1 ho1 H;go_frame))
     go_wp2_with fail
     refine beginL 15 (l0:=zz18) H (by kernel_rfl) ?_ (by kernel_rfl);clear H;intro H
     iterate 3 refine rP H ?_;go_frame
     refine tU 3 18 H ?_;go_frame
     refine tU 4 19 H ?_;go_frame
     refine tU 5 20 H ?_;go_frame
     refine tU 6 21 H ?_;go_frame
     refine tU 7 22 H ?_;go_frame
     refine tU 8 23 H ?_;go_frame
     refine tU 9 24 H ?_;go_frame
     refine tU 10 25 H ?_;go_frame
     refine tU 11 26 H ?_;go_frame
     iterate 2 refine rP H ?_;go_frame
     refine tC 14 29 rfl (by kernel_rfl) iQ (by(first|(exact yieldsG_row (by rfl) row85 _ rfl _ _ rfl _ rfl (fun w h j v hj=>(h.lcell mm0 _).trans (Sub.all _ j v hj)))|fail)) H ?_;go_frame
     refine o1C 15 30 (fun K hK=>?_)
     refine openG (by rfl) (wp_fn _ _ _ (ST.out _ (HT.out.below H.bl)) (by go_simp<;>rfl) ?_);rintro r w1 ⟨rfl,hb⟩;refine⟨_,rfl,?_⟩;replace H:=H.below hb
     refine hK.out _ _ (aB rfl) ?_;clear hK K;go_frame
     iterate 2 refine rQ rfl ?_;go_frame
     refine dnC ?_ _
     cases sb
     ·go_wp2
      go_ret
      exact⟨ret_b (right_no1 HY.out HSB.out).symm,H.bl⟩
     ·go_wp2
      go_roundw
      case rel=>exact⟨1,by omega,by go_num,Lib.hid (upTo_next HG.out HY.out HSB.out (fun i z' hi hz'=>by omega)),H.bl⟩
      case measure=>simp[intOf];omega
    | succ k=>
     obtain⟨g0,off0,z,e0,hg0,hz,hcz⟩:=HL.out.at_ (i:=k) (by omega)
     cases e0
     have HZ:=Lib.hid hz
     have c0:w.cell? ⟨g,off+k*17,none⟩=some (.int .i64 z.no):=by have:=hcz 0 (.int .i64 z.no) rfl;simpa using this
     have C0:=Lib.hid c0
     have HGg:=Lib.hid hg0
     have b1:(0:Int)<((k+1:Nat):Int):=by omega
     have b2:IntKind.i64.wrap (k:Int)=(k:Int):=IntWalk.i64_in _ (by omega)
     have b3:(0:Int)≤(k:Int):=by omega
     have b4:(k:Int)<(n:Int):=by omega
     clear hz hcz c0 hg0
     by_cases hno:z.no<y.no
     ·have b5:decide (y.no≤z.no)=false:=decide_eq_false (by omega)
      go_wp2_with (first|((with_reducible refine gL 85 13 ?_);refine st_lrow rfl row85 _ rfl g (off+(k+1)*17) rfl (enC y) rfl HC.out ?_;try simp only[Act.put,xA,xB,xC,fR])|((with_reducible refine gAl 85 ?_);refine st_Lal rfl (enC enZ) zero85 H rfl ?_;clear H;intro w1 b1 hlt1 hb1 H;go_frame)|((with_reducible refine gS 85 4 ?_);refine st_Lslw rfl cel85 _ _ _ H _ _ rfl rfl _ rfl rfl rfl rfl ?_;clear H;intro w1 ho1 H;go_frame))
      go_wp2_with fail
      refine beginL 15 (l0:=zz18) H (by kernel_rfl) ?_ (by kernel_rfl);clear H;intro H
      iterate 8 refine rP H ?_;go_frame
      refine tC 8 23 rfl (by kernel_rfl) iQ (by exact yieldsG_one (by rfl) one3 _ rfl _ rfl _ (fun w h=>(h.bl.cell (p:=⟨g,off+k*17,none⟩) HGg.out).trans C0.out)) H ?_;go_frame
      refine tP 9 24 H ?_;go_frame
      refine tC 10 25 rfl (by kernel_rfl) iQ (by(first|(exact yieldsG_one (by rfl) one3 _ rfl _ rfl _ (fun w h=>(h.lcell mm0 0).trans (enC_0 _)))|fail)) H ?_;go_frame
      iterate 3 refine rP H ?_;go_frame
      refine tC 14 29 rfl (by kernel_rfl) iQ (by(first|(exact yieldsG_row (by rfl) row85 _ rfl _ _ rfl _ rfl (fun w h j v hj=>(h.lcell mm0 _).trans (Sub.all _ j v hj)))|fail)) H ?_;go_frame
      refine o1C 15 30 (fun K hK=>?_)
      refine openG (by rfl) (wp_fn _ _ _ (ST.out _ (HT.out.below H.bl)) (by go_simp<;>rfl) ?_);rintro r w1 ⟨rfl,hb⟩;refine⟨_,rfl,?_⟩;replace H:=H.below hb
      refine hK.out _ _ (aB rfl) ?_;clear hK K;go_frame
      iterate 2 refine rQ rfl ?_;go_frame
      refine dnC ?_ _
      cases sb
      ·go_wp2
       go_ret
       exact⟨ret_b (right_no1 HY.out HSB.out).symm,H.bl⟩
      ·go_wp2
       go_roundw
       case rel=>exact⟨k+1+1,by omega,by go_num,Lib.hid (upTo_next HG.out HY.out HSB.out (fun i z' hi hz'=>by(have e:i=k:=by omega);subst e;rw[HZ.out]at hz';cases hz';exact hno)),H.bl⟩
       case measure=>simp[intOf];omega
     ·have b5:y.no≤z.no:=by omega
      go_wp2_with (first|((with_reducible refine gL 85 13 ?_);refine st_lrow rfl row85 _ rfl g (off+(k+1)*17) rfl (enC y) rfl HC.out ?_;try simp only[Act.put,xA,xB,xC,fR])|((with_reducible refine gAl 85 ?_);refine st_Lal rfl (enC enZ) zero85 H rfl ?_;clear H;intro w1 b1 hlt1 hb1 H;go_frame)|((with_reducible refine gS 85 4 ?_);refine st_Lslw rfl cel85 _ _ _ H _ _ rfl rfl _ rfl rfl rfl rfl ?_;clear H;intro w1 ho1 H;go_frame))
      go_wp2_with fail
      refine beginL 15 (l0:=zz18) H (by kernel_rfl) ?_ (by kernel_rfl);clear H;intro H
      iterate 8 refine rP H ?_;go_frame
      refine tC 8 23 rfl (by kernel_rfl) iQ (by exact yieldsG_one (by rfl) one3 _ rfl _ rfl _ (fun w h=>(h.bl.cell (p:=⟨g,off+k*17,none⟩) HGg.out).trans C0.out)) H ?_;go_frame
      refine tP 9 24 H ?_;go_frame
      refine tC 10 25 rfl (by kernel_rfl) iQ (by(first|(exact yieldsG_one (by rfl) one3 _ rfl _ rfl _ (fun w h=>(h.lcell mm0 0).trans (enC_0 _)))|fail)) H ?_;go_frame
      iterate 3 refine rP H ?_;go_frame
      refine tU 14 29 H ?_;go_frame
      refine o1C 15 30 (fun K hK=>?_)
      refine shutG (by rfl) ?_
      refine hK.out _ _ (aB rfl) ?_;clear hK K;go_frame
      refine tV 16 31 rfl ?_;go_frame
      refine tQ 17 32 rfl ?_;go_frame
      refine dnC ?_ _
      go_wp2
      go_ret
      exact⟨ret_b (right_no2 HZ.out HY.out (by omega)).symm,H.bl⟩
   ·have hkn:k=n:=by omega
    subst hkn
    have HR:=Lib.hid (right_yes HL.out.len h8 HG.out)
    go_wp2
    go_ret
    exact⟨ret_b HR.out.symm,HB⟩
 ·have d8:(8:Int)<(n:Int):=by omega
  have HR:=Lib.hid (show rightR L=false by unfold rightR;rw[HL.out.len];simp[h8])
  go_enter Tryz.func36,Tryz.ntmps36
  go_wp2
  go_ret
  exact⟨ret_b HR.out.symm,Below.refl _ _⟩
end Go.Proofs.YtdmhfogegfmnfaaGreatDoor
