/- Contracts: the first store is written, dirty lines behind the halt. Conditions: the machine is one, its shape right, its bus not long. Contracts: the bytes of a load. Conditions: the machine is one, its cache of data right, memory not long. Contracts: a cycle of the bus. Conditions: the requests read as a list. Contracts: what a load makes of its bytes. Conditions: sizes .. -/
import Derived.Test.YtdmhfogegfmnfaaGreatDoorB01
import Derived.Test.YtdmhfogegfmnfaaGreatDoorB02
import Derived.Test.YtdmhfogegfmnfaaGreatDoorB03
import Derived.Test.YtdmhfogegfmnfaaGreatDoorB04
import Derived.Test.YtdmhfogegfmnfaaGreatDoorB07
import Derived.Test.YtdmhfogegfmnfaaGreatDoorB10
import Derived.Test.YtdmhfogegfmnfaaGreatDoorB13
import Derived.Test.YtdmhfogegfmnfaaGreatDoorB14
import Derived.Test.YtdmhfogegfmnfaaGreatDoorB16
set_option maxRecDepth 100000
set_option maxHeartbeats 4000000
set_option linter.unusedVariables false
set_option linter.unusedSimpArgs false
namespace Go.Proofs.YtdmhfogegfmnfaaGreatDoor
open Go.RowKit
structure Tl(B:Option Addr)(w:World)(t:Sv)(L:List Pt):Prop where
 sl:Sl ptC 2 w t.a t.n L
 wf:Wf t.a t.n t.c
 blk:∀ p,t.a=some p→∃ q,B=some q∧p.block=q.block
theorem Tl.below{B:Option Addr}{w w':World}{t:Sv}{L:List Pt}(h:Tl B w t L)(hb:Below w.heap.size w w'):Tl B w' t L:=⟨h.sl.below hb,h.wf,h.blk⟩
theorem Tl.offM{w0 w w':World}{g b:Nat}{κ:Nat→Nat}{c:Co}{s:Ss}{t:Sv}{L:List Pt}(h:Tl s.stores.a w t L)(M:MR w0 w g κ c s)(hl:L.length≤c.stores.length)(ho:Off b w w')(hb:κ b=6):Tl s.stores.a w' t L:=by
 refine⟨?_,h.wf,h.blk⟩
 refine h.sl.sameX (X:=fun j=>κ j=0∨κ j=4) (fun hn p hp=>?_) (by rw[ho.size];exact Nat.le_refl _) (fun j hj=>ho.heap j (fun e=>by subst e;omega))
 obtain⟨q,h1,h2⟩:=h.blk p hp
 show κ p.block=0∨κ p.block=4
 rw[h2]
 have h3:=M.stores.sl.len
 have h4:=h.sl.len
 exact M.stores.av (by omega) q h1
theorem drainS_suf(S:List Pt)(c:Ca):(drainS S c).1.length≤S.length:=by
 unfold drainS
 cases S with
 | nil=>exact Nat.le_refl _
 | cons p T=>simp only;split<;>simp
theorem Tl.sto{w0 w:World}{g:Nat}{κ:Nat→Nat}{c:Co}{s:Ss}{t:Sv}{L:List Pt}(h:Tl s.stores.a w t L)(M:MR w0 w g κ c s)(hl:L.length≤c.stores.length)(B:Nat):Sto 2 κ B w t L:=
 ⟨h.sl,h.wf,fun hn p hp=>by
  obtain⟨q,h1,h2⟩:=h.blk p hp
  show κ p.block=0∨κ p.block=4
  rw[h2]
  have h3:=M.stores.sl.len
  have h4:=h.sl.len
  exact M.stores.av (by omega) q h1,fun(q:2≤1)=>absurd q (by decide)⟩
def drain1(c:Co):Co:={ c with stores:=(drainS c.stores c.data).1,data:=(drainS c.stores c.data).2.1 }
def drain2(c:Co)(ok:Bool):Co:=match c.stores with
 | []=>c
 | p::_=>if ok=false∧hasQ c.bus (lineU p.addr) 3=false∧roomC c true=true then askC c 3 (lineU p.addr) []else c
def drain3(c:Co):Co:=
 if c.stores≠[]∨c.halt=0 then c
 else
  let d:=dirtyC c.data
  if d.2=true∧d.1.data≠[]then { askC c 4 d.1.line d.1.data with data:=cleanC c.data d.1.line } else c
theorem drainsC_eq(c:Co):drainsC c=drain3 (drain2 (drain1 c) (drainS c.stores c.data).2.2):=rfl
theorem drain1_ph(c:Co):{ drain1 c with ph:=2 }={ c with stores:=(drainS c.stores c.data).1,data:=(drainS c.stores c.data).2.1,ph:=2 }:=rfl
theorem drain2_ph(c:Co)(ok:Bool):drain2 { c with ph:=2 } ok={ drain2 c ok with ph:=2 }:=by
 obtain⟨f1,f2,f3,f4,f5,f6,f7,f8,f9,st,f11,f12,f13,f14,f15,f16,f17,f18,f19,f20⟩:=c
 cases st with
 | nil=>rfl
 | cons p T=>
  unfold drain2 roomC
  simp only[if_true]
  split<;>rfl
theorem drain3_ph(c:Co):drain3 { c with ph:=2 }={ drain3 c with ph:=2 }:=by
 unfold drain3
 by_cases q:(c.stores≠[]∨c.halt=0)
 ·rw[if_pos q,if_pos (show({ c with ph:=2 }:Co).stores≠[]∨({ c with ph:=2 }:Co).halt=0 from q)]
 ·rw[if_neg q,if_neg (show ¬ (({ c with ph:=2 }:Co).stores≠[]∨({ c with ph:=2 }:Co).halt=0)from q)]
  simp only
  by_cases q2:(dirtyC c.data).2=true∧(dirtyC c.data).1.data≠[]
  ·rw[if_pos q2,if_pos q2];rfl
  ·rw[if_neg q2,if_neg q2]
theorem St'.st0{w0 ws w:World}{g:Nat}{κs κ:Nat→Nat}{c:Co}{s:Ss}{l:List Lc}{p:Pt}{T:List Pt}{r off:Nat}(H:St' w0 ws w g κs κ c s l)(e0:c.stores=p::T)(hn:0<s.stores.n)(eA:s.stores.a=some ⟨r,off,none⟩):w.cell? ⟨r,off,none⟩=some (.int .u32 p.addr.v):=by
 obtain⟨g',off',x,h1,_,h2,h3⟩:=H.m.r.stores.sl.at_ (i:=0) hn
 rw[e0]at h2
 simp only[List.getElem?_cons_zero,Option.some.injEq]at h2
 subst h2
 rw[eA]at h1
 cases h1
 have:=h3 0 (.int .u32 p.addr.v) rfl
 simpa using this
theorem drains_m(w0 w:World)(g:Nat)(κ:Nat→Nat)(c:Co)(s:Ss)(M:MS w0 w g κ c s)(hf:rightF c.conf=true)(hd:∀ p∈c.stores,p.data.length≤1000000)(hn:c.bus.length≤800000):Calls Tryz.prog 27 #[.pointer (some ⟨g,0,none⟩)] w fun e w'=>e= .returned (.tuple #[])∧MP w0 w g κ { drainsC c with ph:=2 } w':=by
 have H:=St'.start M
 have HD:=Lib.hid hd
 have HF:=Lib.hid hf
 have HN:=Lib.hid hn
 have HL:=Lib.hid (drainS_suf c.stores c.data)
 obtain⟨rs,rd,rk,hr⟩:∃ rs rd rk,drainS c.stores c.data=(rs,rd,rk):=⟨_,_,_,rfl⟩
 have E:=Lib.hid (show({ drainsC c with ph:=2 }:Co)=drain3 (drain2 { c with stores:=rs,data:=rd,ph:=2 } rk) by
  rw[drainsC_eq,← drain3_ph,← drain2_ph,drain1_ph,hr])
 have HB:=Lib.hid hr
 rw[hr]at HL
 clear M hd hf hn hr
 go_enter Tryz.func27,Tryz.ntmps27
 go_wp2_with fail
 refine beginE 10 (l0:=zz19) H (by kernel_rfl) ?_ (by kernel_rfl);intro H1;clear H;revert H1
 apply meet5
 ·intro rest1
  apply meet3
  ·intro rest0
   intro H
   iterate 4 refine rP ⟨_,H⟩ ?_;go_frame
   refine tC 4 13 rfl (by kernel_rfl) iQ (by(exact yields_one one32 rfl _ rfl _ rfl _ (fun w h=>(h.cell 50).trans (coC_50 _ _)))) ⟨_,H⟩ ?_;go_frame
   iterate 4 refine rP ⟨_,H⟩ ?_;go_frame
   refine tC 9 18 rfl (by kernel_rfl) iQ (by(exact yields_row row35 rfl _ rfl _ _ rfl _ rfl (fun w h j v hj=>(h.cell _).trans (sub_data _ _ j v hj)))) ⟨_,H⟩ ?_;go_frame
   refine twoC (i:=10) (j:=15) (oi:=⟨some 19,_,_,_,_,_⟩) (oj:=⟨some 3,_,_,_,_,_⟩) rfl rfl (by kernel_rfl) (fun K hK=>?_) (fun K hK=>?_)
   ·refine step_fn rfl _ _ _ (drain_at _ s.stores.a s.stores.n s.stores.c c.stores s.data.a s.data.n s.data.c c.data HD.out _ H.zero H.m.r.stores.sl H.m.r.stores.wf H.m.r.data) (by go_simp<;>rfl) ?_;unfold DraP;rw[HB.out];rintro r w1 ⟨t1,s1,rfl,T1,T2,T3,F1,hb⟩;refine⟨_,rfl,?_⟩;have T0:Tl s.stores.a w1 t1 rs:=⟨T1,T2,T3⟩;clear T1 T2 T3;have T1:=T0;clear T0;have F0:CaX _ w1 s1 rd:=F1;clear F1;have F1:=F0;clear F0;replace H:=H.below hb
    refine hK.out _ _ (aB rfl) ?_;clear hK K;go_frame
    iterate 4 refine rQ rfl ?_;go_frame
    refine o1C 15 3 (fun K hK=>?_)
    refine step_alb rfl (ccC ccZ) zero35 H rfl ?_;clear H;intro w1 b1 κ1 hlt1 hb1 hs1 H;have F0:=T1.below hb1;clear T1;have T1:=F0;clear F0;have F0:=caUp F1 hs1 hb1;clear F1;have F1:=F0;clear F0
    refine hK.out _ _ (aB rfl) ?_;clear hK K;go_frame
    refine tQ 16 2 rfl ?_;go_frame
    exact rest1 w1 b1 κ1 t1 s1 (And.intro H (And.intro T1 F1))
   ·refine step_alb rfl (ccC ccZ) zero35 H rfl ?_;clear H;intro w1 b1 κ1 hlt1 hb1 hs1 H
    refine hK.out _ _ (fun _=>⟨_,H.drop⟩) ?_;clear hK K;go_frame
    exact rest0 w1 b1 κ1 H
  ·intro w1 b1 κ1 H
   refine o1C 10 19 (fun K hK=>?_)
   refine step_fn rfl _ _ _ (drain_at _ s.stores.a s.stores.n s.stores.c c.stores s.data.a s.data.n s.data.c c.data HD.out _ H.zero H.m.r.stores.sl H.m.r.stores.wf H.m.r.data) (by go_simp<;>rfl) ?_;unfold DraP;rw[HB.out];rintro r w1 ⟨t1,s1,rfl,T1,T2,T3,F1,hb⟩;refine⟨_,rfl,?_⟩;have T0:Tl s.stores.a w1 t1 rs:=⟨T1,T2,T3⟩;clear T1 T2 T3;have T1:=T0;clear T0;have F0:CaX _ w1 s1 rd:=F1;clear F1;have F1:=F0;clear F0;replace H:=H.below hb
   refine hK.out _ _ (aB rfl) ?_;clear hK K;go_frame
   iterate 5 refine rQ rfl ?_;go_frame
   exact rest1 w1 b1 κ1 t1 s1 (And.intro H (And.intro T1 F1))
 rintro w1 b1 κ1 t1 s1 ⟨H,T1,F1⟩
 refine o1N 17 (fun K hK=>?_)
 refine step_slw rfl cel35 _ _ _ H _ _ rfl rfl _ rfl rfl rfl rfl ?_;intro w1 ho1 H1;have k6:=(H.lc _ mm0).2.1;have F0:=caOff F1 ho1 (by show κ1 _≠0;simp only at k6;omega);clear F1;have F1:=F0;clear F0;have T0:=T1.offM H.m.r HL.out ho1 k6;clear T1 k6 ho1;have T1:=T0;clear T0;clear H;have H:=H1;clear H1
 refine hK.out _ _ (aB rfl) ?_;clear hK K;go_frame
 refine tQ 18 4 rfl ?_;go_frame
 refine dnC ?_ _
 go_wp2_with fail
 go_wp2_with fail
 refine beginF 11 (l0:=zz12) H (by kernel_rfl) ?_ (by kernel_rfl);clear H;intro H
 iterate 3 refine rP ⟨_,_,_,H⟩ ?_;go_frame
 refine tC 3 26 rfl (by kernel_rfl) iQ (by(exact yields_row row35 rfl _ rfl _ _ rfl _ rfl (fun w h j v hj=>(h.lcell mm0 _).trans (Sub.all _ j v hj)))) ⟨_,_,_,H⟩ ?_;go_frame
 iterate 3 refine rP ⟨_,_,_,H⟩ ?_;go_frame
 refine o1N 7 (fun K hK=>?_)
 refine step_sbo rfl cel32 (H.md (H.m.r.s_ph2.s_stores ⟨t1.a,t1.n,t1.c⟩ rs ((T1.below (Below.refl _ _).drew).sto H.m.r HL.out _))) _ _ rfl 50 rfl _ rfl rfl rfl (by decide) (coU_stores _ _ rs t1.a t1.n t1.c) ?_;intro w1 ho H1;have F2:=caOff (F1.below (Below.refl _ _).drew) ho H.g0;clear F1 T1 ho;have F1:=F2;clear F2;clear H;have H:=H1;clear H1
 refine hK.out _ _ (fun _=>⟨_,_,_,H⟩) ?_;clear hK K;go_frame
 iterate 3 refine rP ⟨_,_,_,H⟩ ?_;go_frame
 refine o1N 11 (fun K hK=>?_)
 refine step_sb rfl cel35 (H.md (H.m.r.s_data ⟨s1.a,s1.n,s1.c⟩ rd F1)) _ _ rfl 51 rfl _ rfl rfl rfl (by decide) (coU_data _ _ rd s1.a s1.n s1.c) ?_;intro w1 H1;clear F1 H;have H:=H1;clear H1
 refine hK.out _ _ (aB rfl) ?_;clear hK K;go_frame
 refine dnC ?_ _
 obtain⟨c1,hc1⟩:∃ c1,c1=({ c with stores:=rs,data:=rd,ph:=2 }:Co):=⟨_,rfl⟩
 have E1:=Lib.hid (show({ drainsC c with ph:=2 }:Co)=drain3 (drain2 c1 rk) by rw[hc1];exact E.out)
 have HN1:=Lib.hid (show c1.bus.length≤800000 by rw[hc1];exact HN.out)
 have HF1:=Lib.hid (show rightF c1.conf=true by rw[hc1];exact HF.out)
 obtain⟨s2,H1⟩:∃ s2,St' w0 w w1 g κ κ1 c1 s2 _:=⟨_,by rw[hc1];exact H⟩
 clear H E HN HF HD HB HL hc1
 have H:=H1
 clear H1
 have hlen:=H.m.r.stores.sl.len
 by_cases hz:s2.stores.n=0
 ·have e0:c1.stores=[]:=List.eq_nil_of_length_eq_zero (by omega)
  have d0:¬ (0:Int)<(s2.stores.n:Int):=by omega
  have E2:=Lib.hid (show({ drainsC c with ph:=2 }:Co)=drain3 c1 by rw[E1.out];unfold drain2;rw[e0])
  clear E1
  by_cases hh:c1.halt=0
  ·have d1:(c1.halt== 0)=true:=by simp[hh]
   have E:=Lib.hid (show({ drainsC c with ph:=2 }:Co)=c1 by rw[E2.out];unfold drain3;rw[if_pos (.inr hh)])
   cases rk
   ·skip
    go_wp2_with (first|((with_reducible refine gL 32 39 ?_);refine sTj rfl ?_;refine wp_ld1 one32 H _ rfl 50 rfl _ (coC_50 _ _) ?_;go_frame)|((with_reducible refine gL 32 72 ?_);refine st_ld1 rfl one32 H _ rfl 50 rfl _ (coC_50 _ _) ?_;go_frame)|((with_reducible refine gL 3 80 ?_);refine sTj rfl ?_;refine wp_ld1 one3 H _ rfl 62 rfl _ (coC_62 _ _) ?_;go_frame))
    ((try simp only[Exit.inBlock,Exit.then]);refine bodyPost_ret (results_none rfl _ _ _) rfl ?_)
    exact⟨rfl,by rw[E.out];exact H.mp⟩
   ·skip
    go_wp2_with (first|((with_reducible refine gL 32 72 ?_);refine st_ld1 rfl one32 H _ rfl 50 rfl _ (coC_50 _ _) ?_;go_frame)|((with_reducible refine gL 3 80 ?_);refine sTj rfl ?_;refine wp_ld1 one3 H _ rfl 62 rfl _ (coC_62 _ _) ?_;go_frame))
    ((try simp only[Exit.inBlock,Exit.then]);refine bodyPost_ret (results_none rfl _ _ _) rfl ?_)
    exact⟨rfl,by rw[E.out];exact H.mp⟩
  ·have d1:(c1.halt== 0)=false:=by simp[hh]
   obtain⟨dy,dk,hd⟩:∃ dy dk,dirtyC c1.data=(dy,dk):=⟨_,_,rfl⟩
   have HD:=Lib.hid hd
   have E3:=Lib.hid (show({ drainsC c with ph:=2 }:Co)=if dk=true∧dy.data≠[]then { askC c1 4 dy.line dy.data with data:=cleanC c1.data dy.line } else c1 by
    rw[E2.out];unfold drain3;rw[if_neg (by rw[e0];simp[hh])];simp only[hd])
   clear E2 hd
   cases dk with
   | false=>
    have E:=Lib.hid (show({ drainsC c with ph:=2 }:Co)=c1 by rw[E3.out,if_neg (by simp)])
    cases rk
    ·skip
     go_wp2_with (first|((with_reducible refine gL 32 39 ?_);refine sTj rfl ?_;refine wp_ld1 one32 H _ rfl 50 rfl _ (coC_50 _ _) ?_;go_frame)|((with_reducible refine gL 32 72 ?_);refine st_ld1 rfl one32 H _ rfl 50 rfl _ (coC_50 _ _) ?_;go_frame)|((with_reducible refine gL 3 80 ?_);refine sTj rfl ?_;refine wp_ld1 one3 H _ rfl 62 rfl _ (coC_62 _ _) ?_;go_frame)|((with_reducible refine gL 35 88 ?_);refine st_ldr rfl row35 H _ rfl 51 rfl _ rfl (sub_data _ _) ?_;go_frame)|((with_reducible refine gAl 46 ?_);refine st_al rfl (wyC wyZ) zero46 H rfl ?_;clear H;intro w1 b6 κ1 H;go_frame)|((with_reducible refine gS 46 6 ?_);refine st_slw rfl cel46 _ _ _ H _ _ rfl rfl _ rfl rfl rfl rfl ?_;clear H;intro w1 ho1 H;go_frame)|(go_at_call 8;refine(dirty_any s2.data c1.data _ H.m.r.data.toR).mono ?_;unfold DirP;rw[HD.out];rintro r w1 ⟨rfl,hb⟩;replace H:=H.below hb))
     go_end0
     exact⟨rfl,by rw[E.out];exact H.mp⟩
    ·skip
     go_wp2_with (first|((with_reducible refine gL 32 72 ?_);refine st_ld1 rfl one32 H _ rfl 50 rfl _ (coC_50 _ _) ?_;go_frame)|((with_reducible refine gL 3 80 ?_);refine sTj rfl ?_;refine wp_ld1 one3 H _ rfl 62 rfl _ (coC_62 _ _) ?_;go_frame)|((with_reducible refine gL 35 88 ?_);refine st_ldr rfl row35 H _ rfl 51 rfl _ rfl (sub_data _ _) ?_;go_frame)|((with_reducible refine gAl 46 ?_);refine st_al rfl (wyC wyZ) zero46 H rfl ?_;clear H;intro w1 b6 κ1 H;go_frame)|((with_reducible refine gS 46 6 ?_);refine st_slw rfl cel46 _ _ _ H _ _ rfl rfl _ rfl rfl rfl rfl ?_;clear H;intro w1 ho1 H;go_frame)|(go_at_call 8;refine(dirty_any s2.data c1.data _ H.m.r.data.toR).mono ?_;unfold DirP;rw[HD.out];rintro r w1 ⟨rfl,hb⟩;replace H:=H.below hb))
     go_end0
     exact⟨rfl,by rw[E.out];exact H.mp⟩
   | true=>
    by_cases hb0:dy.data=[]
    ·obtain⟨dl,dd,dt⟩:=dy
     simp only at hb0
     subst hb0
     have d2:(bs []).toList.isEmpty=true:=by rw[bs_isEmpty];rfl
     have E:=Lib.hid (show({ drainsC c with ph:=2 }:Co)=c1 by rw[E3.out,if_neg (by simp)])
     cases rk
     all_goals
      skip
      go_wp2_with (first|((with_reducible refine gL 32 39 ?_);refine sTj rfl ?_;refine wp_ld1 one32 H _ rfl 50 rfl _ (coC_50 _ _) ?_;go_frame)|((with_reducible refine gL 32 72 ?_);refine st_ld1 rfl one32 H _ rfl 50 rfl _ (coC_50 _ _) ?_;go_frame)|((with_reducible refine gL 3 80 ?_);refine sTj rfl ?_;refine wp_ld1 one3 H _ rfl 62 rfl _ (coC_62 _ _) ?_;go_frame)|((with_reducible refine gL 35 88 ?_);refine st_ldr rfl row35 H _ rfl 51 rfl _ rfl (sub_data _ _) ?_;go_frame)|((with_reducible refine gAl 46 ?_);refine st_al rfl (wyC wyZ) zero46 H rfl ?_;clear H;intro w1 b6 κ1 H;go_frame)|((with_reducible refine gS 46 6 ?_);refine st_slw rfl cel46 _ _ _ H _ _ rfl rfl _ rfl rfl rfl rfl ?_;clear H;intro w1 ho1 H;go_frame)|((with_reducible refine gL 9 95 ?_);refine sTj rfl ?_;refine wp_ll1 one9 H _ rfl _ 2 rfl _ _ mm0 _ (wyC_2 _) ?_;go_frame)|(go_at_call 8;refine(dirty_any s2.data c1.data _ H.m.r.data.toR).mono ?_;unfold DirP;rw[HD.out];rintro r w1 ⟨rfl,hb⟩;replace H:=H.below hb))
      go_end0
      exact⟨rfl,by rw[E.out];exact H.mp⟩
    ·have d2:(bs dy.data).toList.isEmpty=false:=by rw[bs_isEmpty];cases h:dy.data with|nil=>exact absurd h hb0|cons _ _=>rfl
     have E:=Lib.hid (show({ drainsC c with ph:=2 }:Co)={ askC c1 4 dy.line dy.data with data:=cleanC c1.data dy.line } by rw[E3.out,if_pos ⟨rfl,hb0⟩])
     cases rk
     all_goals
      skip
      go_wp2_with (first|((with_reducible refine gL 32 39 ?_);refine sTj rfl ?_;refine wp_ld1 one32 H _ rfl 50 rfl _ (coC_50 _ _) ?_;go_frame)|((with_reducible refine gL 32 72 ?_);refine st_ld1 rfl one32 H _ rfl 50 rfl _ (coC_50 _ _) ?_;go_frame)|((with_reducible refine gL 3 80 ?_);refine sTj rfl ?_;refine wp_ld1 one3 H _ rfl 62 rfl _ (coC_62 _ _) ?_;go_frame)|((with_reducible refine gL 35 88 ?_);refine st_ldr rfl row35 H _ rfl 51 rfl _ rfl (sub_data _ _) ?_;go_frame)|((with_reducible refine gAl 46 ?_);refine st_al rfl (wyC wyZ) zero46 H rfl ?_;clear H;intro w1 b6 κ1 H;go_frame)|((with_reducible refine gS 46 6 ?_);refine st_slw rfl cel46 _ _ _ H _ _ rfl rfl _ rfl rfl rfl rfl ?_;clear H;intro w1 ho1 H;go_frame)|((with_reducible refine gL 9 95 ?_);refine sTj rfl ?_;refine wp_ll1 one9 H _ rfl _ 2 rfl _ _ mm0 _ (wyC_2 _) ?_;go_frame)|((with_reducible refine gL 28 100 ?_);refine st_ll1 rfl one28 H _ rfl _ 0 rfl _ _ mm0 _ (wyC_0 _) ?_;go_frame)|((with_reducible refine gL 9 102 ?_);refine st_ll1 rfl one9 H _ rfl _ 2 rfl _ _ mm0 _ (wyC_2 _) ?_;go_frame)|(go_at_call 8;refine(dirty_any s2.data c1.data _ H.m.r.data.toR).mono ?_;unfold DirP;rw[HD.out];rintro r w1 ⟨rfl,hb⟩;replace H:=H.below hb)|(go_at_call 70;(refine(ask_any w0 _ g _ c1 _ 4 dy.line dy.data H.m (by have:=HN1.out;omega)).mono ?_);rintro r w1 ⟨rfl,hmp⟩;obtain⟨κ2,s2,H1⟩:=H.mpc hmp;clear hmp;clear H;have H:=H1;clear H1))
      go_wp2_with fail
      refine beginS 8 (l0:=zz13) H (by kernel_rfl) ?_ (by kernel_rfl);clear H;intro H
      iterate 5 refine rP H ?_;go_frame
      refine tC 5 110 rfl (by kernel_rfl) iQ (by(exact yields_row row35 rfl _ rfl _ _ rfl _ rfl (fun w h j v hj=>(h.cell _).trans (sub_data _ _ j v hj)))) H ?_;go_frame
      refine tP 6 111 H ?_;go_frame
      refine tC 7 112 rfl (by kernel_rfl) iQ (by(exact yields_one one28 rfl _ rfl _ rfl _ (fun w h=>(h.lcell mm0 0).trans (wyC_0 _)))) H ?_;go_frame
      refine o1C 8 113 (fun K hK=>?_)
      refine step_fn rfl _ _ _ (clean_any _ s2.data c1.data dy.line _ H.zero H.m.r.data) (by go_simp<;>rfl) ?_;unfold CaP;rintro r w1 ⟨s1,rfl,F1,hb⟩;refine⟨_,rfl,?_⟩;replace H:=H.below hb
      refine hK.out _ _ (aB rfl) ?_;clear hK K;go_frame
      iterate 3 refine rQ rfl ?_;go_frame
      refine o1N 12 (fun K hK=>?_)
      refine step_sb rfl cel35 (H.md (H.m.r.s_data ⟨s1.a,s1.n,s1.c⟩ (cleanC c1.data dy.line) F1)) _ _ rfl 51 rfl _ rfl rfl rfl (by decide) (coU_data _ _ (cleanC c1.data dy.line) s1.a s1.n s1.c) ?_;intro w1 H1;clear F1 H;have H:=H1;clear H1
      refine hK.out _ _ (aB rfl) ?_;clear hK K;go_frame
      refine dnC ?_ _
      go_wp2
      go_end0
      exact⟨rfl,by rw[E.out];exact H.mp⟩
 ·obtain⟨p,T,e0⟩:∃ p T,c1.stores=p::T:=by
   cases h:c1.stores with
   | nil=>rw[h]at hlen;exact absurd hlen.symm hz
   | cons p T=>exact⟨p,T,rfl⟩
  have d0:(0:Int)<(s2.stores.n:Int):=by omega
  cases rk with
  | true=>
   have E:=Lib.hid (show({ drainsC c with ph:=2 }:Co)=c1 by
    rw[E1.out];unfold drain2;rw[e0];simp only[Bool.true_eq_false,false_and,if_false];unfold drain3;rw[if_pos (.inl (by rw[e0];simp))])
   go_wp2_with (((with_reducible refine gL 32 72 ?_);refine st_ld1 rfl one32 H _ rfl 50 rfl _ (coC_50 _ _) ?_;go_frame))
   ((try simp only[Exit.inBlock,Exit.then]);refine bodyPost_ret (results_none rfl _ _ _) rfl ?_)
   exact⟨rfl,by rw[E.out];exact H.mp⟩
  | false=>
   obtain⟨r,off,x,eA,_⟩:=H.m.r.stores.sl.at_ (i:=0) (by omega)
   have hn0:0<s2.stores.n:=by omega
   have b1:(0:Int)≤0:=Int.le_refl _
   have E2:=Lib.hid (show({ drainsC c with ph:=2 }:Co)=drain3 (if hasQ c1.bus (lineU p.addr) 3=false∧roomC c1 true=true then askC c1 3 (lineU p.addr) []else c1) by
    rw[E1.out];unfold drain2;rw[e0];simp only[true_and])
   have F1:=Lib.hid (show drain3 c1=c1 by unfold drain3;rw[if_pos (.inl (by rw[e0];simp))])
   have F2:=Lib.hid (show drain3 (askC c1 3 (lineU p.addr) [])=askC c1 3 (lineU p.addr) [] by unfold drain3;rw[if_pos (.inl (by show c1.stores≠[];rw[e0];simp))])
   clear E1
   cases hh:hasQ c1.bus (lineU p.addr) 3 with
   | true=>
    have HH:=Lib.hid hh
    have E:=Lib.hid (show({ drainsC c with ph:=2 }:Co)=c1 by rw[E2.out,if_neg (by rw[hh];simp),F1.out])
    clear hh E2 F1 F2
    go_wp2_with (first|((with_reducible refine gL 28 50 ?_);refine st_lone rfl one28 _ rfl ⟨r,off,none⟩ rfl _ (H.st0 e0 hn0 eA) ?_;try simp only[Act.put,xA,xB,xC,fR])|((with_reducible refine gL 32 39 ?_);refine sTj rfl ?_;refine wp_ld1 one32 H _ rfl 50 rfl _ (coC_50 _ _) ?_;go_frame)|((with_reducible refine gL 32 47 ?_);refine st_ld1 rfl one32 H _ rfl 50 rfl _ (coC_50 _ _) ?_;go_frame)|((with_reducible refine gL 36 56 ?_);refine st_ld1 rfl one36 H _ rfl 55 rfl _ (coC_55 _ _) ?_;go_frame)|((with_reducible refine gL 32 72 ?_);refine st_ld1 rfl one32 H _ rfl 50 rfl _ (coC_50 _ _) ?_;go_frame)|(go_at_call 28;refine(line_any' p.addr _).mono ?_;rintro r w1 ⟨rfl,rfl⟩)|((with_reducible refine gD (Op.buildSlice 22 1 _) ?_);refine st_Sbi rfl (.int .i64 3) rfl H _ slT22' rfl rfl ?_;clear H;intro w1 b59 κ2 hlt1 hb1 hs1 H;try simp only[Act.put,xA,xB,xC,fR])|(go_at_call 68;refine(hasQ_any s2.bus.a s2.bus.n s2.bus.c c1.bus (lineU p.addr) b59 1 3 _ H.m.r.bus.sl ((H.lcell mm0 0).trans rfl) (H.llt mm0)).mono ?_;rw[HH.out];rintro r w1 ⟨rfl,hb⟩;replace H:=H.below hb))
    ((try simp only[Exit.inBlock,Exit.then]);refine bodyPost_ret (results_none rfl _ _ _) rfl ?_)
    exact⟨rfl,by rw[E.out];exact H.mp⟩
   | false=>
    have HH:=Lib.hid hh
    cases hr:roomC c1 true
    case' false=>
     have HR:=Lib.hid hr
     have E:=Lib.hid (show({ drainsC c with ph:=2 }:Co)=c1 by rw[E2.out,if_neg (by rw[hr];simp),F1.out])
    case' true=>
     have HR:=Lib.hid hr
     have E:=Lib.hid (show({ drainsC c with ph:=2 }:Co)=askC c1 3 (lineU p.addr) [] by rw[E2.out,if_pos ⟨hh,hr⟩,F2.out])
     have hl2:=Lib.hid (show 0<(askC c1 3 (lineU p.addr) []).stores.length by show 0<c1.stores.length;rw[e0];simp)
    all_goals
     clear hh hr E2 F1 F2
     go_wp2_with (first|((with_reducible refine gL 28 50 ?_);refine st_lone rfl one28 _ rfl ⟨r,off,none⟩ rfl _ (H.st0 e0 hn0 eA) ?_;try simp only[Act.put,xA,xB,xC,fR])|((with_reducible refine gL 32 39 ?_);refine sTj rfl ?_;refine wp_ld1 one32 H _ rfl 50 rfl _ (coC_50 _ _) ?_;go_frame)|((with_reducible refine gL 32 47 ?_);refine st_ld1 rfl one32 H _ rfl 50 rfl _ (coC_50 _ _) ?_;go_frame)|((with_reducible refine gL 36 56 ?_);refine st_ld1 rfl one36 H _ rfl 55 rfl _ (coC_55 _ _) ?_;go_frame)|((with_reducible refine gL 32 72 ?_);refine st_ld1 rfl one32 H _ rfl 50 rfl _ (coC_50 _ _) ?_;go_frame)|(go_at_call 28;refine(line_any' p.addr _).mono ?_;rintro r w1 ⟨rfl,rfl⟩)|((with_reducible refine gD (Op.buildSlice 22 1 _) ?_);refine st_Sbi rfl (.int .i64 3) rfl H _ slT22' rfl rfl ?_;clear H;intro w1 b59 κ2 hlt1 hb1 hs1 H;try simp only[Act.put,xA,xB,xC,fR])|(go_at_call 68;refine(hasQ_any s2.bus.a s2.bus.n s2.bus.c c1.bus (lineU p.addr) b59 1 3 _ H.m.r.bus.sl ((H.lcell mm0 0).trans rfl) (H.llt mm0)).mono ?_;rw[HH.out];rintro r w1 ⟨rfl,hb⟩;replace H:=H.below hb)|(go_at_call 69;refine(room_any w0 _ g _ c1 s2 true H.m HF1.out).mono ?_;rw[HR.out];rintro r w1 ⟨rfl,hb⟩;replace H:=H.below hb)|(go_at_call 70;(refine(ask_any w0 _ g _ c1 _ 3 (lineU p.addr) [] H.m (by have:=HN1.out;omega)).mono ?_);rintro r w1 ⟨rfl,hmp⟩;obtain⟨κ2,s2,H1⟩:=H.mpc hmp;clear hmp;clear H;have H:=H1;clear H1;(have q0:=H.m.r.stores.sl.len;have q1:=hl2.out;have d0:(0:Int)<(s2.stores.n:Int):=(by omega);clear q0 q1)))
     ((try simp only[Exit.inBlock,Exit.then]);refine bodyPost_ret (results_none rfl _ _ _) rfl ?_)
     exact⟨rfl,by rw[E.out];exact H.mp⟩
theorem allM_len(S:List Pt)(c:Ca)(q:List Rq)(m:By):(allM S c q m).length=m.length:=by unfold allM;rw[overM_len,underM_len]
theorem right_few{c:Ca}(h:rightC c=true):c.sets.length≤4∧∀ M∈c.sets,M.length≤2:=by
 unfold rightC at h
 rw[Bool.and_eq_true,decide_eq_true_eq]at h
 obtain⟨⟨h1,h2⟩,h3⟩:=h
 refine⟨by omega,?_⟩
 have key:∀(k:Nat) (l:List (List Wy)),setsOk c k l=true→∀ M∈l,(M.length:Int)≤c.ways:=by
  intro k l
  induction l generalizing k with
  | nil=>intro _ M hM;cases hM
  | cons s l ih=>
   intro h M hM
   unfold setsOk at h
   rw[Bool.and_eq_true,Bool.and_eq_true,decide_eq_true_eq]at h
   rcases List.mem_cons.1 hM with e|hM
   ·subst e;exact h.1.1
   ·exact ih (k+1) h.2 M hM
 intro M hM
 have:=key 0 c.sets h3 M hM
 omega
def MQ(w0 w:World)(g:Nat)(κ:Nat→Nat)(c:Co)(s:Ss)(w':World):Prop:=∃ κ',MS w0 w' g κ' c s∧Kp κ w w'∧Same κ κ' w
theorem St'.mq{w0 ws w:World}{g:Nat}{κs κ:Nat→Nat}{c:Co}{s:Ss}{l:List Lc}(h:St' w0 ws w g κs κ c s l):MQ w0 ws g κs c s w:=⟨κ,h.m,h.kp,h.sm⟩
theorem bytesE_len(c:Co)(e:En):(bytesE c e).length≤4:=by
 have hs:(sz e.i.op).toNat≤4:=by unfold sz;split<;>(try split)<;>(try split)<;>decide
 unfold bytesE readM
 split
 ·simp only[cutB,List.length_take];omega
 ·simp
theorem bytes_m(w0 w:World)(g:Nat)(κ:Nat→Nat)(c:Co)(s:Ss)(e:En)(M:MS w0 w g κ c s)(hr:rightC c.data=true)(hm:c.mem.length≤1000000):Calls Tryz.prog 47 #[.pointer (some ⟨g,0,none⟩),.agg (enC e)] w fun r w'=>r= .returned (.string (bs (bytesE c e)))∧MQ w0 w g κ c s w':=by
 have H:=St'.start M
 obtain⟨q1,q2⟩:=right_few hr
 have q3:s.data.n≤4:=by rw[← M.r.data.toR.len];exact q1
 clear M
 go_enter Tryz.func47,Tryz.ntmps47
 go_wp2_with (((with_reducible refine gBx 85 1 ?_);refine st_box rfl _ H _ rfl rfl ?_;clear H;intro w1 b1 κ1 H;go_frame))
 go_wp2_with fail
 refine beginS 26 (l0:=zz32) H (by kernel_rfl) ?_ (by kernel_rfl);clear H;intro H
 iterate 4 refine rP H ?_;go_frame
 refine tC 4 12 rfl (by kernel_rfl) iQ (by(exact yields_one one32 rfl _ rfl _ rfl _ (fun w h=>(h.cell 50).trans (coC_50 _ _)))) H ?_;go_frame
 iterate 4 refine rP H ?_;go_frame
 refine tC 9 17 rfl (by kernel_rfl) iQ (by(exact yields_row row35 rfl _ rfl _ _ rfl _ rfl (fun w h j v hj=>(h.cell _).trans (sub_data _ _ j v hj)))) H ?_;go_frame
 iterate 4 refine rP H ?_;go_frame
 refine tC 14 22 rfl (by kernel_rfl) iQ (by(exact yields_one one36 rfl _ rfl _ rfl _ (fun w h=>(h.cell 55).trans (coC_55 _ _)))) H ?_;go_frame
 iterate 4 refine rP H ?_;go_frame
 refine tC 19 27 rfl (by kernel_rfl) iQ (by(exact yields_one one9 rfl _ rfl _ rfl _ (fun w h=>(h.cell 58).trans (coC_58 _ _)))) H ?_;go_frame
 refine tP 21 29 H ?_;go_frame
 refine tC 22 30 rfl (by kernel_rfl) iQ (by(exact yields_one one28 rfl _ rfl _ rfl _ (fun w h=>(h.lcell mm0 12).trans (enC_12 _)))) H ?_;go_frame
 refine tP 23 31 H ?_;go_frame
 refine tC 24 32 rfl (by kernel_rfl) iQ (by(exact yields_row row83 rfl _ rfl _ _ rfl _ rfl (fun w h j v hj=>(h.lcell mm0 _).trans (sub_inst _ j v hj)))) H ?_;go_frame
 refine o1C 20 28 (fun K hK=>?_)
 refine step_fn rfl _ _ _ (all_at s.stores.a s.stores.n s.stores.c c.stores s.data.a s.data.n s.data.c c.data s.bus.a s.bus.n s.bus.c c.bus c.mem hm _ H.m.r.stores.sl H.m.r.data.toR q3 q2 H.m.r.bus.sl) (by go_simp<;>rfl) ?_;rintro r w1 ⟨rfl,hb⟩;refine⟨_,rfl,?_⟩;replace H:=H.below hb
 refine hK.out _ _ (fun _=>H) ?_;clear hK K;go_frame
 refine o1C 25 33 (fun K hK=>?_)
 refine step_fn rfl _ _ _ (size_any e.i.op e.i.rd e.i.r1 e.i.r2 e.i.imm.v _) (by go_simp<;>rfl) ?_;rintro r w1 ⟨rfl,hb⟩;refine⟨_,rfl,?_⟩;replace H:=H.below hb
 refine hK.out _ _ (fun _=>H) ?_;clear hK K;go_frame
 refine o1C 26 34 (fun K hK=>?_)
 refine step_fn rfl _ _ _ (mread_any (allM c.stores c.data c.bus c.mem) e.addr (sz e.i.op) (by rw[allM_len];exact hm) _) (by go_simp<;>rfl) ?_;rintro r w1 ⟨rfl,rfl⟩;refine⟨_,rfl,?_⟩
 refine hK.out _ _ (aB rfl) ?_;clear hK K;go_frame
 iterate 5 refine rQ rfl ?_;go_frame
 refine dnC ?_ _
 go_wp2_with fail
 go_ret
 exact⟨rfl,H.mq⟩
theorem four_cells(W:World)(b g:Nat)(v0 v1 v2 v3:Value)(h:g≠b):((((W.setCell ⟨b,0,none⟩ v0).setCell ⟨b,1,none⟩ v1).setCell ⟨b,2,none⟩ v2).setCell ⟨b,3,none⟩ v3).drew.heap[g]?=W.heap[g]?:=by
 show((((W.setCell ⟨b,0,none⟩ v0).setCell ⟨b,1,none⟩ v1).setCell ⟨b,2,none⟩ v2).setCell ⟨b,3,none⟩ v3).heap[g]?=W.heap[g]?
 rw[Below.heap_setCell _ _ _ _ h,Below.heap_setCell _ _ _ _ h,Below.heap_setCell _ _ _ _ h,Below.heap_setCell _ _ _ _ h]
def TicP(L:List Rq)(w:World)(e:Ending)(w':World):Prop:=∃ s:Sv,e= .returned (.tuple #[.slice s.a s.n s.c,.agg (rqC (tickQ L).2.1),.bool (tickQ L).2.2])∧Sl rqC 4 w' s.a s.n (tickQ L).1∧Wf s.a s.n s.c∧Below w.heap.size w w'∧(0<s.n→∀ p,s.a=some p→w.heap.size≤p.block)
theorem tick_any(A:Option Addr)(n C:Nat)(L:List Rq)(w:World)(hL:Sl rqC 4 w A n L)(hW:Wf A n C):Calls Tryz.prog 45 #[.slice A n C] w (TicP L w):=by
 have hz:(Tryz.prog.info? 98).map (fun i=>i.zero.map (·.cells))=some (some (rqC rqZ)):=by kernel_rfl
 have hl:=hL.len
 have hn:=hL.few
 have HL:=Lib.hid hL
 have HW:=Lib.hid hW
 match L with
 | []=>
  simp only[List.length_nil]at hl
  subst hl
  clear hL hW
  go_enter Tryz.func45,Tryz.ntmps45
  go_wp2_with (((with_reducible refine gAl 98 ?_);refine alloc_row (rqC rqZ) zero98 rfl rfl ?_;try simp only[Act.put,xA,xB,xC,fR]))
  apply ret_tct row98 rfl _ (rqC _) rfl (rqC_size _) (t:=98) (fr:=(0,0)) (hd:=rfl)
  ·(repeat((refine heap_at _ _ _ ?_;(with_reducible rfl))))
  exact⟨⟨A,0,C⟩,rfl,Sl.none_ _,HW.out,by(repeat(first|exact Below.refl _ _|(refine Below.alloc ?_ ?_ _;rotate_left;(omega)))),fun h=>absurd h (Nat.lt_irrefl 0)⟩
 | r::q=>
  simp only[List.length_cons]at hl
  clear hL hW
  have hn0:((n:Int)== 0)=false:=by rw[beq_eq_false_iff_ne];omega
  have hn1:(1:Int)≤(n:Int):=by omega
  have hn2:1≤n:=by omega
  have hn3:(0:Int)<(n:Int):=by omega
  have hn4:0<n:=by omega
  by_cases hleft:0<wrap64 (r.left-1)
  ·have E:=Lib.hid (show tickQ (r::q)=({ r with left:=wrap64 (r.left-1) }::q,rqZ,false) by show(if 0<wrap64 (r.left-1)then _ else _)=_;rw[if_pos hleft];rfl)
   go_enter Tryz.func45,Tryz.ntmps45
   go_wp2_with (first|((with_reducible refine gD (Op.store 98 (.tmp 3) (.tmp 30)) ?_);refine store_row row98 rfl _ _ rfl w.heap.size (rqC rqZ) rfl rfl (rqC_size _) (rqC_ones _) (t:=98) (old:=rqC rqZ) ((Below.heap_setCell _ _ _ _ (by simp)).trans B1.out) (rqC_size _) ?_;try simp only[Act.put,xA,xB,xC,fR])|((with_reducible refine gAl 98 ?_);refine alloc_row (rqC rqZ) zero98 rfl rfl ?_;try simp only[Act.put,xA,xB,xC,fR])|((with_reducible refine gD (Op.makeSlice 36 _ _) ?_);(refine full_sl (α:=Rq) (lay:=rqC) slT36 rqZ hz rqC_size rfl _ _ rfl w.heap.size .i64 .i64 n n n rfl rfl rfl rfl hn (by simp only[World.size_alloc];omega) ?_);intro v1 w1 h1 e1 g1;subst e1;obtain⟨oF,kF,rfl⟩:=more_of (bl_own (Below.refl _ _) g1 (Nat.le_refl _) (fun k h=>by cases h));clear g1;(try simp only[World.size_alloc]at h1);have HO:=Lib.hid h1;clear h1;try simp only[Act.put,xA,xB,xC,fR])|((with_reducible refine gD (Op.call { callee:=Callee.builtin Builtin.copy,args:=_,argTypes:=_ }) ?_);(refine copy_sl (α:=Rq) (lay:=rqC) slT36 rqC_size rqC_ones rfl _ _ rfl w.heap.size (.slice (some ⟨w.heap.size+1,0,none⟩) n n) _ rfl HO.out A n C (r::q) rfl (HL.out.below (by(repeat(first|exact Below.refl _ _|(refine Below.alloc ?_ ?_ _;rotate_left;(omega))|(refine bl_more ?_ ?_ _ _;rotate_left;(simp only[sZ]<;>omega)))))) (by simp) ?_);intro w2 h2 g2;(have hs2:=g2.size;simp only[more_size,World.size_alloc]at hs2;have b1:w2.heap[w.heap.size]?=some (.cells (rqC rqZ) 98 (0,0)):=(by rw[g2.block _ (by simp only[more_size,World.size_alloc];omega) (by simp[Value.ownBlock];try omega)];(repeat(first|(refine heap_at _ _ _ ?_;(with_reducible rfl))|(refine(more_heap' _ _ _ _ ?_).trans ?_;(simp only[sZ]<;>omega)))));have hB2:Below w.heap.size w w2:=bl_own (by(repeat(first|exact Below.refl _ _|(refine Below.alloc ?_ ?_ _;rotate_left;(omega))|(refine bl_more ?_ ?_ _ _;rotate_left;(simp only[sZ]<;>omega))))) g2 (by simp only[more_size,World.size_alloc];omega) (fun b h=>by simp[Value.ownBlock]at h;omega);obtain⟨g,c',cur,e1,e2,e3,e4,e5,e6⟩:=h2.lies (by simp);simp only[Value.slice.injEq,Option.some.injEq,Addr.mk.injEq]at e1;obtain⟨⟨e7,ez⟩,e8,e9⟩:=e1;clear ez;subst e7;obtain⟨A',C',e1,f1,f2,f3,f4⟩:=h2.sl rqC_size;simp only[Value.slice.injEq]at e1;obtain⟨e10,ea,eb⟩:=e1;clear ea eb;subst e10;obtain⟨g',off',x,e11,e12,e13,e14⟩:=f1.at_ (i:=0) (by simp);simp only[Option.some.injEq,Addr.mk.injEq]at e11;obtain⟨e15,e16,ey⟩:=e11;clear ey;subst e15 e16;simp only[List.getElem?_cons_zero,Option.some.injEq]at e13;subst e13;have c0:w2.cell? ⟨w.heap.size+1,0,none⟩=some (.int .i64 r.kind):=(by have:=e14 0 (.int .i64 r.kind) rfl;simpa using this);have c1:w2.cell? ⟨w.heap.size+1,1,none⟩=some (.int .u32 r.line.v):=(by have:=e14 1 (.int .u32 r.line.v) rfl;simpa using this);have c2:w2.cell? ⟨w.heap.size+1,2,none⟩=some (.int .i64 r.left):=(by have:=e14 2 (.int .i64 r.left) rfl;simpa using this);have c3:w2.cell? ⟨w.heap.size+1,3,none⟩=some (.string (bs r.data)):=(by have:=e14 3 (.string (bs r.data)) rfl;simpa using this);have fk:w2.frozen? ⟨w.heap.size+1,2,none⟩=false:=frozen_row e3;have H2:=Lib.hid h2;have HB2:=Lib.hid hB2;have B1:=Lib.hid b1;clear h2 hB2 b1 f1 f2 f3 f4 e2 e3 e4 e5 e6 e8 e9 e12 e14 g2);try simp only[Act.put,xA,xB,xC,fR]))
   have hO:=H2.out.set rqC_size (i:=0) (x':={ r with left:=wrap64 (r.left-1) }) (u:=.int .i64 (wrap64 (r.left-1))) rfl (j:=2) (by decide) rfl
   simp only[Nat.zero_mul,Nat.zero_add,List.set_cons_zero]at hO
   apply ret_tct row98 rfl w.heap.size (rqC rqZ) rfl (rqC_size _) (t:=98) (fr:=(0,0)) (hd:=rfl)
   ·exact setRow_heap _ _ (rqC rqZ) _ 98 (0,0) ((Below.heap_setCell _ _ _ _ (by simp)).trans B1.out)
   have hO2:=hO.same (w':=(w2.setCell ⟨w.heap.size+1,2,none⟩ (.int .i64 (wrap64 (r.left-1)))).setRow w.heap.size (rqC rqZ)) (fun b hb=>by
    simp only[Value.ownBlock,Option.some.injEq]at hb
    subst hb
    exact row_other _ _ _ _ (by omega))
   obtain⟨A',C',e1,f1,f2,f3,f4⟩:=hO2.sl rqC_size
   simp only[Value.slice.injEq,List.length_cons]at e1 f1 f4
   obtain⟨e10,ea,eb⟩:=e1
   subst e10
   rw[← ea]at f1
   refine⟨⟨some ⟨w.heap.size+1,0,none⟩,n,n⟩,?_,?_,⟨(fun h=>by cases h),Nat.le_refl _,by show n≤_;omega⟩,?_,fun _ p hp=>by cases hp;exact Nat.le_succ _⟩
   ·rw[E.out];rfl
   ·rw[E.out];exact f1
   ·refine bl_row ?_ (Nat.le_refl _) _
    exact HB2.out.setCell (by show _≤w.heap.size+1;omega) _
  ·have E:=Lib.hid (show tickQ (r::q)=(q,{ r with left:=wrap64 (r.left-1) },true) by show(if 0<wrap64 (r.left-1)then _ else _)=_;rw[if_neg hleft])
   go_enter Tryz.func45,Tryz.ntmps45
   go_wp2_with (first|((with_reducible refine gAl 98 ?_);refine alloc_row (rqC rqZ) zero98 rfl rfl ?_;try simp only[Act.put,xA,xB,xC,fR])|((with_reducible refine gD (Op.makeSlice 36 _ _) ?_);(refine full_sl (α:=Rq) (lay:=rqC) slT36 rqZ hz rqC_size rfl _ _ rfl w.heap.size .i64 .i64 n n n rfl rfl rfl rfl hn (by simp only[World.size_alloc];omega) ?_);intro v1 w1 h1 e1 g1;subst e1;obtain⟨oF,kF,rfl⟩:=more_of (bl_own (Below.refl _ _) g1 (Nat.le_refl _) (fun k h=>by cases h));clear g1;(try simp only[World.size_alloc]at h1);have HO:=Lib.hid h1;clear h1;try simp only[Act.put,xA,xB,xC,fR])|((with_reducible refine gD (Op.call { callee:=Callee.builtin Builtin.copy,args:=_,argTypes:=_ }) ?_);(refine copy_sl (α:=Rq) (lay:=rqC) slT36 rqC_size rqC_ones rfl _ _ rfl w.heap.size (.slice (some ⟨w.heap.size+1,0,none⟩) n n) _ rfl HO.out A n C (r::q) rfl (HL.out.below (by(repeat(first|exact Below.refl _ _|(refine Below.alloc ?_ ?_ _;rotate_left;(omega))|(refine bl_more ?_ ?_ _ _;rotate_left;(simp only[sZ]<;>omega)))))) (by simp) ?_);intro w2 h2 g2;(have hs2:=g2.size;simp only[more_size,World.size_alloc]at hs2;have b1:w2.heap[w.heap.size]?=some (.cells (rqC rqZ) 98 (0,0)):=(by rw[g2.block _ (by simp only[more_size,World.size_alloc];omega) (by simp[Value.ownBlock];try omega)];(repeat(first|(refine heap_at _ _ _ ?_;(with_reducible rfl))|(refine(more_heap' _ _ _ _ ?_).trans ?_;(simp only[sZ]<;>omega)))));have hB2:Below w.heap.size w w2:=bl_own (by(repeat(first|exact Below.refl _ _|(refine Below.alloc ?_ ?_ _;rotate_left;(omega))|(refine bl_more ?_ ?_ _ _;rotate_left;(simp only[sZ]<;>omega))))) g2 (by simp only[more_size,World.size_alloc];omega) (fun b h=>by simp[Value.ownBlock]at h;omega);obtain⟨g,c',cur,e1,e2,e3,e4,e5,e6⟩:=h2.lies (by simp);simp only[Value.slice.injEq,Option.some.injEq,Addr.mk.injEq]at e1;obtain⟨⟨e7,ez⟩,e8,e9⟩:=e1;clear ez;subst e7;obtain⟨A',C',e1,f1,f2,f3,f4⟩:=h2.sl rqC_size;simp only[Value.slice.injEq]at e1;obtain⟨e10,ea,eb⟩:=e1;clear ea eb;subst e10;obtain⟨g',off',x,e11,e12,e13,e14⟩:=f1.at_ (i:=0) (by simp);simp only[Option.some.injEq,Addr.mk.injEq]at e11;obtain⟨e15,e16,ey⟩:=e11;clear ey;subst e15 e16;simp only[List.getElem?_cons_zero,Option.some.injEq]at e13;subst e13;have c0:w2.cell? ⟨w.heap.size+1,0,none⟩=some (.int .i64 r.kind):=(by have:=e14 0 (.int .i64 r.kind) rfl;simpa using this);have c1:w2.cell? ⟨w.heap.size+1,1,none⟩=some (.int .u32 r.line.v):=(by have:=e14 1 (.int .u32 r.line.v) rfl;simpa using this);have c2:w2.cell? ⟨w.heap.size+1,2,none⟩=some (.int .i64 r.left):=(by have:=e14 2 (.int .i64 r.left) rfl;simpa using this);have c3:w2.cell? ⟨w.heap.size+1,3,none⟩=some (.string (bs r.data)):=(by have:=e14 3 (.string (bs r.data)) rfl;simpa using this);have fk:w2.frozen? ⟨w.heap.size+1,2,none⟩=false:=frozen_row e3;have H2:=Lib.hid h2;have HB2:=Lib.hid hB2;have B1:=Lib.hid b1;clear h2 hB2 b1 f1 f2 f3 f4 e2 e3 e4 e5 e6 e8 e9 e12 e14 g2);try simp only[Act.put,xA,xB,xC,fR]))
   have hO:=H2.out.set rqC_size (i:=0) (x':={ r with left:=wrap64 (r.left-1) }) (u:=.int .i64 (wrap64 (r.left-1))) rfl (j:=2) (by decide) rfl
   simp only[Nat.zero_mul,Nat.zero_add,List.set_cons_zero]at hO
   obtain⟨A',C',e1,f1,f2,f3,f4⟩:=hO.sl rqC_size
   simp only[Value.slice.injEq,List.length_cons]at e1 f1 f4
   obtain⟨e10,ea,eb⟩:=e1
   subst e10
   obtain⟨g',off',x,e11,e12,e13,e14⟩:=f1.at_ (i:=0) (by omega)
   simp only[Option.some.injEq,Addr.mk.injEq]at e11
   obtain⟨e15,e16,ey⟩:=e11
   clear ey
   subst e15 e16
   simp only[List.getElem?_cons_zero,Option.some.injEq]at e13
   subst e13
   have HT:=Lib.hid e14
   have HF:=Lib.hid f1
   have EA:=Lib.hid ea
   clear e12 e14 f1 f2 f3 f4 ea eb hO
   have z0:∀ j,w2.cell? ⟨w.heap.size,j,none⟩=(rqC rqZ)[j]?:=fun j=>cell_of_row w2 _ j _ _ _ B1.out
   have z1:∀ j,w2.frozen? ⟨w.heap.size,j,none⟩=false:=fun j=>frozen_row B1.out
   go_region
   have hB2:=HB2.out
   have hs3:=hB2.size
   go_wp2
   ·apply ret_tct2 row98 rfl w.heap.size (rqC { r with left:=wrap64 (r.left-1) }) rfl (rqC_size _) (hd:=rfl)
    ·apply rq_cells<;>simp[go_sem,z0]
    refine⟨⟨some ⟨w.heap.size+1,0,none⟩,0,0⟩,?_,?_,⟨(fun h=>by cases h),Nat.le_refl _,by show 0≤_;omega⟩,?_,fun h=>absurd h (Nat.lt_irrefl 0)⟩
    ·rw[E.out];rfl
    ·rw[E.out,List.eq_nil_of_length_eq_zero (l:=q) (by omega)];exact Sl.none_ _
    ·exact(((((hB2.setCell (p:=⟨w.heap.size+1,2,none⟩) (Nat.le_succ _) _).drew).setCell (p:=⟨w.heap.size,0,none⟩) (Nat.le_refl _) _).setCell (p:=⟨w.heap.size,1,none⟩) (Nat.le_refl _) _).setCell (p:=⟨w.heap.size,2,none⟩) (Nat.le_refl _) _).setCell (p:=⟨w.heap.size,3,none⟩) (Nat.le_refl _) _
   ·apply ret_tct2 row98 rfl w.heap.size (rqC { r with left:=wrap64 (r.left-1) }) rfl (rqC_size _) (hd:=rfl)
    ·apply rq_cells<;>simp[go_sem,z0]
    refine⟨⟨some ⟨w.heap.size+1,4,none⟩,n-1,n-1⟩,?_,?_,⟨(fun h=>by cases h),Nat.le_refl _,by show n-1≤_;omega⟩,?_,fun _ p hp=>by cases hp;exact Nat.le_succ _⟩
    ·rw[E.out];rfl
    ·rw[E.out]
     have hf:=HF.out
     rw[← EA.out]at hf
     have hd:=Sl.drop (i:=1) (C:=n) (A':=some ⟨w.heap.size+1,4,none⟩) hf (by omega) (Nat.le_refl _) (fun _=>by simp)
     refine hd.same (by simp[World.setCell]) (fun g off hh=>?_)
     simp only[Option.some.injEq,Addr.mk.injEq]at hh
     obtain⟨rfl,_⟩:=hh
     exact four_cells _ _ _ _ _ _ _ (by omega)
    ·exact(((((hB2.setCell (p:=⟨w.heap.size+1,2,none⟩) (Nat.le_succ _) _).drew).setCell (p:=⟨w.heap.size,0,none⟩) (Nat.le_refl _) _).setCell (p:=⟨w.heap.size,1,none⟩) (Nat.le_refl _) _).setCell (p:=⟨w.heap.size,2,none⟩) (Nat.le_refl _) _).setCell (p:=⟨w.heap.size,3,none⟩) (Nat.le_refl _) _
theorem load_any(op:Int)(s:By)(hs:s.length≤1000000)(w:World):Calls Tryz.prog 79 #[.int .i64 op,.string (bs s)] w fun e w'=>e= .returned (.int .u32 (loadM op s).v)∧Below w.heap.size w w':=by
 have J:=Lib.hid (fun W=>join_any s hs W)
 have q0:=(joinS s).1.lo
 have q1:=(joinS s).1.hi
 have H:∀ x:U,loadM op s=x→(loadM op s).v=x.v:=fun x h=>by rw[h]
 have HH:=Lib.hid H
 clear H
 by_cases c1:kd op=3
 ·by_cases c2:(s.length:Int)=sz op
  ·have C:=Lib.hid (show ¬ (kd op≠3∨(s.length:Int)≠sz op)from fun h=>h.elim (fun h=>h c1) (fun h=>h c2))
   have d1:(kd op != 3)=false:=by rw[c1];rfl
   have d2:((s.length:Int) != sz op)=false:=by rw[c2];simp
   clear c1 c2
   go_enter Tryz.func79,Tryz.ntmps79
   go_wp2_with (first|(go_at_call 52;refine(kind_any _ _ _ _ _ _).mono ?_;rintro r w1 ⟨rfl,hb⟩;obtain⟨ow,kw,rfl⟩:=more_of hb;clear hb)|(go_at_call 82;refine(size_any _ _ _ _ _ _).mono ?_;rintro r w1 ⟨rfl,hb⟩;obtain⟨ow,kw,rfl⟩:=more_of hb;clear hb)|(go_at_call 108;refine(J.out _).mono ?_;unfold JoiP;rintro r w1 ⟨rfl,rfl⟩)|(go_at_call 109;refine(sext_any _ _ _).mono ?_;rintro r w1 ⟨rfl,rfl⟩))
   all_goals
    go_ret
    refine⟨ret_u (HH.out _ ?_).symm,?_⟩
    ·unfold loadM
     rw[if_neg C.out]
     (try simp only[beq_eq_false_iff_ne,ne_eq,beq_iff_eq]at *)
     first|(rw[if_pos (by omega)])|(rw[if_neg (by omega),if_pos (by omega)])|(rw[if_neg (by omega),if_neg (by omega)])
    ·(repeat(first|exact Below.refl _ _|(refine Below.alloc ?_ ?_ _;rotate_left;(omega))|(refine bl_more ?_ ?_ _ _;rotate_left;(simp only[sZ]<;>omega))))
  ·have F:=Lib.hid (HH.out (U.of 0) (by unfold loadM;rw[if_pos (Or.inr c2)]))
   have d1:(kd op != 3)=false:=by rw[c1];rfl
   have d2:((s.length:Int) != sz op)=true:=by rw[bne_iff_ne];exact c2
   clear c1 c2
   go_enter Tryz.func79,Tryz.ntmps79
   go_wp2_with (first|(go_at_call 52;refine(kind_any _ _ _ _ _ _).mono ?_;rintro r w1 ⟨rfl,hb⟩;obtain⟨ow,kw,rfl⟩:=more_of hb;clear hb)|(go_at_call 82;refine(size_any _ _ _ _ _ _).mono ?_;rintro r w1 ⟨rfl,hb⟩;obtain⟨ow,kw,rfl⟩:=more_of hb;clear hb))
   go_ret
   exact⟨ret_u F.out.symm,by(repeat(first|exact Below.refl _ _|(refine Below.alloc ?_ ?_ _;rotate_left;(omega))|(refine bl_more ?_ ?_ _ _;rotate_left;(simp only[sZ]<;>omega))))⟩
 ·have F:=Lib.hid (HH.out (U.of 0) (by unfold loadM;rw[if_pos (Or.inl c1)]))
  have d1:(kd op != 3)=true:=by rw[bne_iff_ne];exact c1
  clear c1
  go_enter Tryz.func79,Tryz.ntmps79
  go_wp2_with ((go_at_call 52;refine(kind_any _ _ _ _ _ _).mono ?_;rintro r w1 ⟨rfl,hb⟩;obtain⟨ow,kw,rfl⟩:=more_of hb;clear hb))
  go_ret
  exact⟨ret_u F.out.symm,by(repeat(first|exact Below.refl _ _|(refine Below.alloc ?_ ?_ _;rotate_left;(omega))|(refine bl_more ?_ ?_ _ _;rotate_left;(simp only[sZ]<;>omega))))⟩
theorem en_eq{a b:En}(h:a=b):Ending.returned (.agg (enC a))= .returned (.agg (enC b)):=by rw[h]
theorem go_any(e:En)(w:World):Calls Tryz.prog 51 #[.agg (enC e)] w fun r w'=>r= .returned (.agg (enC (goE e)))∧Below w.heap.size w w':=by
 go_enter Tryz.func51,Tryz.ntmps51
 go_wp2_with (first|((with_reducible refine gAl 85 ?_);refine alloc_row (enC enZ) zero85 rfl rfl ?_;try simp only[Act.put,xA,xB,xC,fR])|((with_reducible refine gD (Op.load 85 _) ?_);apply take_row row85 rfl _ rfl _ rfl (enC _) (enC_size _) (t:=85) (fr:=(0,0));(·(repeat(first|(refine heap_at _ _ _ ?_;(with_reducible rfl))|(refine(more_heap' _ _ _ _ ?_).trans ?_;(simp only[sZ]<;>omega))|(refine(heap_past _ _ _ ?_).trans ?_;(simp only[sZ]<;>omega)))));try simp only[Act.put,xA,xB,xC,fR])|((with_reducible refine gD (Op.store 85 _ _) ?_);apply store_row row85 rfl _ _ rfl _ (enC _) rfl rfl (enC_size _) (enC_ones _) (t:=85) (old:=enC _) (h2:=enC_size _);(·(repeat(first|(refine heap_at _ _ _ ?_;(simp only[sZ]<;>omega))|(refine(more_heap' _ _ _ _ ?_).trans ?_;(simp only[sZ]<;>omega)))));try simp only[Act.put,xA,xB,xC,fR];try simp (disch:=(first|(simp only[sZ]<;>omega)|fail)) only[more_row,alloc_row_past,alloc_row_at,drew_row,drewN_row])|(go_at_call 52;refine(kind_any _ _ _ _ _ _).mono ?_;rintro r w1 ⟨rfl,hb⟩;obtain⟨ow,kw,rfl⟩:=more_of hb;clear hb))
 all_goals
  (apply ret_row row85 rfl _ (enC _) rfl (enC_size _) (t:=85) (fr:=(0,0)) (hd:=rfl);(·(repeat(first|(refine heap_at _ _ _ ?_;(simp only[sZ]<;>omega))|(refine(more_heap' _ _ _ _ ?_).trans ?_;(simp only[sZ]<;>omega))))))
  refine⟨en_eq ?_,?_⟩
  ·unfold goE;simp_all
  ·(repeat(first|exact Below.refl _ _|(refine Below.alloc ?_ ?_ _;rotate_left;(first|omega|(simp only[sZ]<;>omega)))|(refine bl_more ?_ ?_ _ _;rotate_left;(simp only[sZ]<;>omega))))
theorem take_any(e:En)(b:By)(hb:b.length≤1000000)(w:World):Calls Tryz.prog 46 #[.agg (enC e),.string (bs b)] w fun r w'=>r= .returned (.agg (enC (takeE e b)))∧Below w.heap.size w w':=by
 have LD:=Lib.hid (fun W=>load_any e.i.op b hb W)
 go_enter Tryz.func46,Tryz.ntmps46
 go_wp2_with (first|((with_reducible refine gAl 85 ?_);refine alloc_row (enC enZ) zero85 rfl rfl ?_;try simp only[Act.put,xA,xB,xC,fR])|((with_reducible refine gD (Op.load 85 _) ?_);apply take_row row85 rfl _ rfl _ rfl (enC _) (enC_size _) (t:=85) (fr:=(0,0));(·(repeat(first|(refine heap_at _ _ _ ?_;(with_reducible rfl))|(refine(more_heap' _ _ _ _ ?_).trans ?_;(simp only[sZ]<;>omega))|(refine(heap_past _ _ _ ?_).trans ?_;(simp only[sZ]<;>omega)))));try simp only[Act.put,xA,xB,xC,fR])|((with_reducible refine gD (Op.store 85 _ _) ?_);apply store_row row85 rfl _ _ rfl _ (enC _) rfl rfl (enC_size _) (enC_ones _) (t:=85) (old:=enC _) (h2:=enC_size _);(·(repeat(first|(refine heap_at _ _ _ ?_;(simp only[sZ]<;>omega))|(refine(more_heap' _ _ _ _ ?_).trans ?_;(simp only[sZ]<;>omega)))));try simp only[Act.put,xA,xB,xC,fR];try simp (disch:=(first|(simp only[sZ]<;>omega)|fail)) only[more_row,alloc_row_past,alloc_row_at,drew_row,drewN_row])|(go_at_call 52;refine(kind_any _ _ _ _ _ _).mono ?_;rintro r w1 ⟨rfl,hb⟩;obtain⟨ow,kw,rfl⟩:=more_of hb;clear hb)|(go_at_call 78;refine(writes_any _ _ _ _ _ _).mono ?_;rintro r w1 ⟨rfl,hb⟩;obtain⟨ow,kw,rfl⟩:=more_of hb;clear hb)|(go_at_call 79;refine(LD.out _).mono ?_;rintro r w1 ⟨rfl,hb⟩;obtain⟨ow,kw,rfl⟩:=more_of hb;clear hb))
 all_goals
  (apply ret_row row85 rfl _ (enC _) rfl (enC_size _) (t:=85) (fr:=(0,0)) (hd:=rfl);(·(repeat(first|(refine heap_at _ _ _ ?_;(simp only[sZ]<;>omega))|(refine(more_heap' _ _ _ _ ?_).trans ?_;(simp only[sZ]<;>omega))))))
  refine⟨en_eq ?_,?_⟩
  ·unfold takeE;simp_all
  ·(repeat(first|exact Below.refl _ _|(refine Below.alloc ?_ ?_ _;rotate_left;(first|omega|(simp only[sZ]<;>omega)))|(refine bl_more ?_ ?_ _ _;rotate_left;(simp only[sZ]<;>omega))))
theorem store_any(e:En)(b:U)(w:World):Calls Tryz.prog 55 #[.agg (enC e),.int .u32 b.v] w fun r w'=>r= .returned (.agg (enC (storeE e b)))∧Below w.heap.size w w':=by
 have LD:=Lib.hid (fun W=>lowest_any b (sz e.i.op) W)
 go_enter Tryz.func55,Tryz.ntmps55
 go_wp2_with (first|((with_reducible refine gAl 85 ?_);refine alloc_row (enC enZ) zero85 rfl rfl ?_;try simp only[Act.put,xA,xB,xC,fR])|((with_reducible refine gD (Op.load 85 _) ?_);apply take_row row85 rfl _ rfl _ rfl (enC _) (enC_size _) (t:=85) (fr:=(0,0));(·(repeat(first|(refine heap_at _ _ _ ?_;(with_reducible rfl))|(refine(more_heap' _ _ _ _ ?_).trans ?_;(simp only[sZ]<;>omega))|(refine(heap_past _ _ _ ?_).trans ?_;(simp only[sZ]<;>omega)))));try simp only[Act.put,xA,xB,xC,fR])|((with_reducible refine gD (Op.store 85 _ _) ?_);apply store_row row85 rfl _ _ rfl _ (enC _) rfl rfl (enC_size _) (enC_ones _) (t:=85) (old:=enC _) (h2:=enC_size _);(·(repeat(first|(refine heap_at _ _ _ ?_;(simp only[sZ]<;>omega))|(refine(more_heap' _ _ _ _ ?_).trans ?_;(simp only[sZ]<;>omega)))));try simp only[Act.put,xA,xB,xC,fR];try simp (disch:=(first|(simp only[sZ]<;>omega)|fail)) only[more_row,alloc_row_past,alloc_row_at,drew_row,drewN_row])|(go_at_call 52;refine(kind_any _ _ _ _ _ _).mono ?_;rintro r w1 ⟨rfl,hb⟩;obtain⟨ow,kw,rfl⟩:=more_of hb;clear hb)|(go_at_call 82;refine(size_any _ _ _ _ _ _).mono ?_;rintro r w1 ⟨rfl,hb⟩;obtain⟨ow,kw,rfl⟩:=more_of hb;clear hb)|(go_at_call 88;refine(LD.out _).mono ?_;rintro r w1 ⟨rfl,hb⟩;obtain⟨ow,kw,rfl⟩:=more_of hb;clear hb))
 all_goals
  (apply ret_row row85 rfl _ (enC _) rfl (enC_size _) (t:=85) (fr:=(0,0)) (hd:=rfl);(·(repeat(first|(refine heap_at _ _ _ ?_;(simp only[sZ]<;>omega))|(refine(more_heap' _ _ _ _ ?_).trans ?_;(simp only[sZ]<;>omega))))))
  refine⟨en_eq ?_,?_⟩
  ·unfold storeE;simp_all
  ·(repeat(first|exact Below.refl _ _|(refine Below.alloc ?_ ?_ _;rotate_left;(first|omega|(simp only[sZ]<;>omega)))|(refine bl_more ?_ ?_ _ _;rotate_left;(simp only[sZ]<;>omega))))
end Go.Proofs.YtdmhfogegfmnfaaGreatDoor
