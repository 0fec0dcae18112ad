/- Contracts: a cycle goes by: the walk. Conditions: the core is read, what holds at each cycle holds, rows are not long. Contracts: a core at its beginning. Conditions: the slices read as lists. Contracts: a program and a memory made short; a core runs for a while. Conditions: the slices read as lists. Contracts: a program and a memory made short. Conditions: the slice's .. -/
import Derived.Test.YtdmhfogegfmnfaaGreatDoorTie
import Derived.Test.YtdmhfogegfmnfaaGreatDoorCards
import Derived.Test.YtdmhfogegfmnfaaGreatDoorG01
import Derived.Test.YtdmhfogegfmnfaaGreatDoorG04
import Derived.Test.YtdmhfogegfmnfaaGreatDoorG07
import Derived.Test.YtdmhfogegfmnfaaGreatDoorG10
import Derived.Test.YtdmhfogegfmnfaaGreatDoorG20
import Derived.Test.YtdmhfogegfmnfaaGreatDoorG29
import Derived.Test.YtdmhfogegfmnfaaGreatDoorG32
import Derived.Deep.Cut
import Derived.SevenTiedAt
import Derived.ProofKit
import Derived.LaidMore
import Derived.OpenShut
import Derived.ChangeOld
import Derived.Stop.Joined
import Derived.Lib.LaidTab
import Derived.ChangeMaps5
import Derived.Deep.Fields
set_option maxRecDepth 100000
set_option maxHeartbeats 8000000
set_option linter.unusedVariables false
set_option linter.unusedSimpArgs false
namespace Go.Proofs.YtdmhfogegfmnfaaGreatDoor
open Go.RowKit
theorem works_ph(c:Co):(worksC c).ph=c.ph:=by
 unfold worksC
 split
 ·rfl
 ·simp only
  split<;>rfl
theorem ticks_ph(c:Co):(ticksC c).ph=c.ph:=by
 unfold ticksC
 simp only
 repeat' split
 all_goals rfl
theorem retires_ph{c c':Co}(h:RetiresR c c'):c'.ph=c.ph:=by
 obtain⟨gs,_,rfl⟩:=h
 exact(show Rts c gs.length _ from⟨gs,rfl,rfl⟩).keep.ph
theorem starts_ph{c c':Co}(h:StartsS c c'):c'.ph=c.ph:=by
 rcases h with⟨_,rfl⟩|⟨_,ps,_,_,rfl⟩
 ·rfl
 ·exact(show Sts c (ps.map (·.1)) ps.length _ from⟨ps,by rw[List.take_of_length_le (by simp)],rfl⟩).keep.ph
theorem enters_ph(c:Co):(entersC c).ph=c.ph:=(EnK.times c _).ph
theorem St'.ph1{w0 ws w:World}{g:Nat}{κs κ:Nat→Nat}{c:Co}{s:Ss}{l:List Lc}(H:St' w0 ws w g κs κ c s l)(hp:c.ph=0):St' w0 ws w g κs κ { c with ph:=1 } s l:=⟨⟨H.m.r.s_ph1 hp,H.m.box⟩,H.kp,H.sm,H.lc,H.nd⟩
theorem CoR.ph0{X:Nat→Prop}{w:World}{c:Co}{s:Ss}(h:CoR X w { c with ph:=2 } s):CoR X w { c with ph:=0 } s:=⟨h.regs,h.lat,h.tape,h.prog,h.fetched,h.rob,h.stores,h.data,h.words,h.bus,h.slots,h.returns,h.retired⟩
theorem own_st{w0 ws w w':World}{g b1 b2:Nat}{κ κ1:Nat→Nat}{c c':Co}{s s1:Ss}{z1 z2:Array Value}{t1 t2:TypeId}(H:Lo ws w [(g,coC c s,67),(b2,z2,t2),(b1,z1,t1)])(k2:κ b2=6)(hm:MS w0 w' g κ1 c' s1)(hk:Kp κ w w')(hs:Same κ κ1 w):St' w0 ws w' g κ κ1 c' s1 [(b2,z2,t2)]:=by
 have h2:=H.lc _ mm1
 simp only at h2
 have l2:=(Array.getElem?_eq_some_iff.1 h2.1).1
 refine⟨hm,⟨Nat.le_trans H.bl.size hk.size,fun j hj hh=>(hk.heap j (Nat.lt_of_lt_of_le hj H.bl.size) hh).trans (H.bl.block j hj)⟩,fun j hj=>hs j (Nat.lt_of_lt_of_le hj H.bl.size),fun x hx=>?_,List.pairwise_cons.2 ⟨fun y hy=>(by cases hy),List.Pairwise.nil⟩⟩
 have e:x=(b2,z2,t2):=by simpa using hx
 subst e
 exact⟨(hk.heap b2 l2 (.inr (by omega))).trans h2.1,(hs b2 l2).trans k2,h2.2⟩
theorem step_m(w0 w:World)(X:Nat→Prop)(c:Co)(s:Ss)(hT:TabC w0)(hB:Below w0.heap.size w0 w)(hX:∀ j,¬ X j→w0.heap.size≤j∧j<w.heap.size)(hR:CoR X w c s)(hI:Inv c)(hn:c.bus.length≤700000)(hrt:c.retired.length≤700000):Calls Tryz.prog 7 #[.agg (coC c s)] w (StepP X c w):=by
 have H:=Lo.start w
 have HT:=Lib.hid hT
 have HB:=Lib.hid hB
 have HX:=Lib.hid hX
 have HR:=Lib.hid hR
 have HI:=Lib.hid hI
 have HN:=Lib.hid hn
 have HRt:=Lib.hid hrt
 clear hT hB hX hR hI hn hrt
 cases hr:rightCo c
 all_goals
  have HRi:=Lib.hid hr
  clear hr
  go_enter Tryz.func7,Tryz.ntmps7
  go_wp2_with (first|((with_reducible refine gBx 42 0 ?_);refine st_Lbox rfl _ H _ rfl rfl ?_;clear H;intro w1 b1 H;go_frame)|((with_reducible refine gAl 42 ?_);refine st_Lal rfl (coC coZ ssZ) zero42 H rfl ?_;clear H;intro w1 b2 hlt1 hb1 H;go_frame)|((with_reducible refine gL 42 1 ?_);refine st_Lllr rfl row42 H _ rfl _ 0 rfl _ 42 mm1 _ rfl (Sub.all _) ?_;go_frame)|((with_reducible refine gS 42 2 ?_);refine st_Lslw rfl cel42 _ _ _ H _ _ rfl rfl _ rfl rfl rfl rfl ?_;clear H;intro w1 ho1 H;go_frame)|(go_at_call 19;refine(coright_any X c s _ ((HT.out.below HB.out).below H.bl) (HR.out.below H.bl)).mono ?_;rw[HRi.out];rintro r1 w1 ⟨rfl,hb⟩;replace H:=H.below hb)|((with_reducible refine gAl 67 ?_);refine st_Lal rfl (coC coZ ssZ) zero67 H rfl ?_;clear H;intro w1 b3 hlt1 hb1 H;go_frame)|((with_reducible refine gS 67 3 ?_);refine st_Lslw rfl cel67 _ _ _ H _ _ rfl rfl _ rfl rfl rfl rfl ?_;clear H;intro w1 ho1 H;go_frame)|((with_reducible refine gL 3 15 ?_);refine st_ld1 rfl one3 H _ rfl 12 rfl _ (coC_12 _ _) ?_;go_frame)|((with_reducible refine gAl 70 ?_);refine st_al rfl (fnZ) zero70 H rfl ?_;clear H;intro w1 b4 κ1 H;go_frame)|((with_reducible refine gS 70 4 ?_);refine st_slw rfl cel70 _ _ _ H _ _ rfl rfl _ rfl rfl rfl rfl ?_;clear H;intro w1 ho1 H;go_frame)|((with_reducible refine gL 70 4 ?_);refine st_llr rfl row70 H _ rfl _ 0 rfl _ 70 mm0 _ rfl (Sub.all _) ?_;go_frame)|((with_reducible refine gD (Op.build 67 _) ?_);refine st_built rfl rfl [(0,.agg (coC c s))] rfl _ (built67 c s) ?_;try simp only[Act.put,xA,xB,xC,fR])|((with_reducible refine gD (Op.build 70 _) ?_);refine st_built rfl rfl _ rfl _ built70 ?_;try simp only[Act.put,xA,xB,xC,fR])|(go_at_call 20;obtain⟨κ,hPM,k2,k1,kn,kz⟩:=toPM HB.out HX.out HR.out H;refine(own_m w0 _ b3 κ c s hPM).mono ?_;rintro r1 w1 ⟨rfl,κ1,s1,hm,hk,hs⟩;have KN:=Lib.hid kn;have KZ:=Lib.hid kz;have H1:=own_st H k2 hm hk hs;clear H hPM k2 k1 hm hk hs kn kz;have H:=H1;clear H1)|((with_reducible refine gS 3 19 ?_);refine st_sb rfl cel3 (H.md (H.m.r.s_cycle _)) _ _ rfl 12 rfl _ rfl rfl rfl (by decide) (coU_cycle _ _ _) ?_;clear H;intro w1 H;go_frame))
 ·apply ret_row row42 rfl _ (coC c s) rfl (coC_size _ _) (t:=42) (fr:=(0,0)) (hd:=rfl) (hg:=H.row mm0)
  exact⟨c,s,rfl,.inl ⟨HRi.out,rfl⟩,HR.out.below H.bl,H.bl⟩
 ·obtain⟨c1,hc1⟩:∃ c1,c1=({ c with cycle:=wrap64 (c.cycle+1),ph:=0 }:Co):=⟨_,rfl⟩
  obtain⟨s2,κ2,b4,H1⟩:∃ s2 κ2 b4,St' w0 w w1 b3 κ κ2 c1 s2 [(b4,stages,70),(b2,coC coZ ssZ,42)]:=⟨_,_,_,by rw[hc1];exact H⟩
  clear H
  have H:=H1
  clear H1
  have R:=Ri.of HRi.out
  have z1:Sz c c1 0:=by rw[hc1];exact⟨rfl,rfl,Nat.le_refl _,Nat.le_refl _,Nat.le_refl _,Nat.le_refl _,Nat.le_refl _,fun p h=>.inl h⟩
  have i1:Inv c1:=by rw[hc1];exact(HI.out.cyc (wrap64 (c.cycle+1))).ph 0
  have P1:=Lib.hid (show c1.ph=0 by rw[hc1])
  have hst:=Lib.hid (show stages=#[fnv 21,fnv 22,fnv 23,fnv 24,fnv 25,fnv 26,fnv 27]from rfl)
  have hb:=HN.out
  have hr:=HRt.out
  have I1:=Lib.hid i1
  have F1:=Lib.hid (show c1.mem.length≤1000000∧c1.bus.length≤900000 from⟨by have:=z1.mem;have:=R.mem;omega,by have:=z1.bus;omega⟩)
  have z2:=z1.trans (Sz.ticks c1)
  have z3:=z2.trans (Sz.works _)
  have i3:=i1.ticks.works
  have P3:=Lib.hid (show(worksC (ticksC c1)).ph=0 from(works_ph _).trans ((ticks_ph _).trans P1.out))
  have F3:=Lib.hid (show rightF (worksC (ticksC c1)).conf=true∧(worksC (ticksC c1)).mem.length≤1000000∧(worksC (ticksC c1)).bus.length≤800000∧(worksC (ticksC c1)).retired.length≤900000∧(worksC (ticksC c1)).stores.length≤900000 from
   ⟨by rw[z3.conf];exact R.f,by have:=z3.mem;have:=R.mem;omega,by have:=z3.bus;omega,by have:=z3.retired;omega,by have:=z3.stores;have:=R.stores;omega⟩)
  have Z3:=Lib.hid z3
  have I3:=Lib.hid i3
  have RR:=Lib.hid R
  have C1:=Lib.hid hc1
  clear z1 z2 z3 i1 i3 R hb hr hc1
  unfold stages fnv
  refine wp_loop_rounds 8 ?_
  rw[rounds_succ]
  go_wp2_with (first|((with_reducible refine gD (Op.index 70 _ _) ?_);refine st_v rfl (v:=.func (.func 21) #[] #[]) (by kernel_rfl) ?_;try simp only[Act.put,xA,xB,xC,fR])|(go_at_call 21;refine(ticks_m w0 _ b3 _ c1 _ H.m (rightC_iff.2 I1.out.rc) F1.out.1 F1.out.2).mono ?_;rintro r1 w1 ⟨rfl,hmp⟩;obtain⟨κ2,s2,H1⟩:=H.mpc hmp;clear hmp H;have H:=H1;clear H1))
  rw[rounds_succ]
  go_wp2_with (first|((with_reducible refine gD (Op.index 70 _ _) ?_);refine st_v rfl (v:=.func (.func 22) #[] #[]) (by kernel_rfl) ?_;try simp only[Act.put,xA,xB,xC,fR])|(go_at_call 22;refine(works_m w0 _ b3 _ (ticksC c1) _ H.m).mono ?_;rintro r1 w1 ⟨rfl,hmp⟩;obtain⟨κ2,s2,H1⟩:=H.mpc hmp;clear hmp H;have H:=H1;clear H1))
  rw[rounds_succ]
  go_wp2_with (first|((with_reducible refine gD (Op.index 70 _ _) ?_);refine st_v rfl (v:=.func (.func 23) #[] #[]) (by kernel_rfl) ?_;try simp only[Act.put,xA,xB,xC,fR])|(go_at_call 23;refine(retires_m w0 _ b3 _ (worksC (ticksC c1)) _ H.m F3.out.1 P3.out F3.out.2.1 F3.out.2.2.1 F3.out.2.2.2.1 F3.out.2.2.2.2).mono ?_;rintro r1 w1 ⟨rfl,c3,hrel,hmp⟩;have R3:=Lib.hid hrel;obtain⟨κ2,s2,H1⟩:=H.mpc hmp;clear hmp hrel H;have H:=H1;clear H1))
  have z4:=Z3.out.trans ((Sz.retires R3.out).up (wid F3.out.1))
  have i4:=I3.out.retires R3.out
  have P4:=Lib.hid (show c3.ph=0 from(retires_ph R3.out).trans P3.out)
  have F4:=Lib.hid (show rightF c3.conf=true∧rightC c3.data=true∧c3.mem.length≤1000000∧c3.bus.length≤800000∧(∀ p∈c3.stores,p.data.length≤1000000)∧c3.rob.length≤16 from
   ⟨by rw[z4.conf];exact RR.out.f,rightC_iff.2 i4.rc,by have:=z4.mem;have:=RR.out.mem;omega,by have:=z4.bus;have:=HN.out;omega,fun p hp=>by rcases z4.data p hp with q|q;exact Nat.le_trans (RR.out.data p q) (by decide);omega,by have:=z4.rob;have:=RR.out.rob;omega⟩)
  have Z4:=Lib.hid z4
  have I4:=Lib.hid i4
  clear z4 i4
  rw[rounds_succ]
  go_wp2_with (first|((with_reducible refine gD (Op.index 70 _ _) ?_);refine st_v rfl (v:=.func (.func 24) #[] #[]) (by kernel_rfl) ?_;try simp only[Act.put,xA,xB,xC,fR])|(go_at_call 24;refine(starts_m w0 _ b3 _ c3 _ H.m F4.out.1 F4.out.2.1 F4.out.2.2.1 F4.out.2.2.2.1 F4.out.2.2.2.2.1 (Nat.le_trans F4.out.2.2.2.2.2 (by decide))).mono ?_;rintro r1 w1 ⟨rfl,c4,hrel,hmp⟩;have R4:=Lib.hid hrel;obtain⟨κ2,s2,H1⟩:=H.mpc hmp;clear hmp hrel H;have H:=H1;clear H1))
  have z5:=Z4.out.trans ((Sz.startsS R4.out).up F4.out.2.2.2.2.2)
  have P5:=Lib.hid (show c4.ph=0 from(starts_ph R4.out).trans P4.out)
  have F5:=Lib.hid (show rightF c4.conf=true∧c4.rob.length≤900000 from⟨by rw[z5.conf];exact RR.out.f,by have:=z5.rob;have:=RR.out.rob;omega⟩)
  have z6:=(z5.trans ((Sz.enters c4).up (wid F5.out.1))).ph 1
  have F6:=Lib.hid (show rightF ({ entersC c4 with ph:=1 }:Co).conf=true∧({ entersC c4 with ph:=1 }:Co).bus.length≤800000∧({ entersC c4 with ph:=1 }:Co).fetched.length≤800000 from
   ⟨by rw[z6.conf];exact RR.out.f,Nat.le_trans z6.bus (by have:=HN.out;omega),Nat.le_trans z6.fetched (by have:=RR.out.fetched;omega)⟩)
  have Z6:=Lib.hid z6
  clear z5 z6
  rw[rounds_succ]
  go_wp2_with (first|((with_reducible refine gD (Op.index 70 _ _) ?_);refine st_v rfl (v:=.func (.func 25) #[] #[]) (by kernel_rfl) ?_;try simp only[Act.put,xA,xB,xC,fR])|(go_at_call 25;refine(enters_m w0 _ b3 _ c4 _ H.m HT.out F5.out.1 P5.out F5.out.2).mono ?_;rintro r1 w1 ⟨rfl,hmp⟩;obtain⟨κ2,s2,H1⟩:=H.mpc hmp;clear hmp H;have H:=H1;clear H1))
  have H1:=H.ph1 ((enters_ph c4).trans P5.out)
  clear H
  have H:=H1
  clear H1
  rw[rounds_succ]
  go_wp2_with (first|((with_reducible refine gD (Op.index 70 _ _) ?_);refine st_v rfl (v:=.func (.func 26) #[] #[]) (by kernel_rfl) ?_;try simp only[Act.put,xA,xB,xC,fR])|(go_at_call 26;(refine(fetches_m w0 _ b3 _ { entersC c4 with ph:=1 } _ H.m HT.out F6.out.1 (by show(1:Nat)≠0;decide) F6.out.2.1 F6.out.2.2).mono ?_);rintro r1 w1 ⟨rfl,c6,hrel,hmp⟩;have R6:=Lib.hid hrel;obtain⟨κ2,s2,H1⟩:=H.mpc hmp;clear hmp hrel H;have H:=H1;clear H1))
  have z7:=Z6.out.trans ((Sz.fetches R6.out).up (wid F6.out.1))
  have F7:=Lib.hid (show rightF c6.conf=true∧(∀ p∈c6.stores,p.data.length≤1000000)∧c6.bus.length≤800000 from
   ⟨by rw[z7.conf];exact RR.out.f,fun p hp=>by rcases z7.data p hp with q|q;exact Nat.le_trans (RR.out.data p q) (by decide);omega,by have:=z7.bus;have:=HN.out;omega⟩)
  clear z7
  rw[rounds_succ]
  go_wp2_with (first|((with_reducible refine gD (Op.index 70 _ _) ?_);refine st_v rfl (v:=.func (.func 27) #[] #[]) (by kernel_rfl) ?_;try simp only[Act.put,xA,xB,xC,fR])|(go_at_call 27;refine(drains_m w0 _ b3 _ c6 _ H.m F7.out.1 F7.out.2.1 F7.out.2.2).mono ?_;rintro r1 w1 ⟨rfl,hmp⟩;obtain⟨κ2,s2,H1⟩:=H.mpc hmp;clear hmp H;have H:=H1;clear H1))
  rw[rounds_succ]
  have H1:=H.drop
  clear H
  have H:=H1
  clear H1
  go_wp2_with (first|((with_reducible refine gS 42 2 ?_);refine st_slw rfl cel42 _ _ _ H _ _ rfl rfl _ rfl rfl rfl rfl ?_;clear H;intro w1 ho1 H;go_frame)|((with_reducible refine gL 42 28 ?_);refine st_ldr rfl row42 H _ rfl 0 rfl _ rfl (sub_core _ _) ?_;go_frame))
  apply ret_row row42 rfl _ (coC { drainsC c6 with ph:=2 } s2) rfl (coC_size _ _) (t:=42) (fr:=(0,0)) (hd:=rfl) (hg:=(H.lc _ mm0).1)
  have hXX:∀ j,w.heap.size≤j→X j:=fun j hj=>Classical.byContradiction fun q=>by have:=HX.out j q;omega
  refine⟨{ drainsC c6 with ph:=0 },s2,rfl,.inr ⟨HRi.out,c3,c4,c6,by rw[← C1.out];exact R3.out,R4.out,R6.out,rfl⟩,(H.m.toCoR H.sm (fun j _ q=>((KZ.out j).1 q).1) KN.out hXX).ph0,?_⟩
  exact⟨H.m.r.bl.os.trans HB.out.os.symm,H.m.r.bl.tape.trans HB.out.tape.symm,H.m.r.bl.output.trans HB.out.output.symm,H.kp.size,fun j hj=>H.kp.heap j hj (KN.out j hj)⟩
structure CfIn(w:World)(f:Cf)(l t:Sv):Prop where
 n1:f.lat.length=l.n
 n2:(f.tape.map (·.v)).length=t.n
 b1:l.n≤9223372036854775807
 b2:t.n≤9223372036854775807
 s1:Cnf.Sl w .i64 l.a f.lat
 s2:Cnf.Sl w .u32 t.a (f.tape.map (·.v))
theorem CfIn.below{w w':World}{f:Cf}{l t:Sv}(h:CfIn w f l t)(hb:Below w.heap.size w w'):CfIn w' f l t:=⟨h.n1,h.n2,h.b1,h.b2,h.s1.below hb,h.s2.below hb⟩
theorem CfIn.of{w:World}{f:Cf}{l t:Sv}(h1:Sl i64C 1 w l.a l.n f.lat)(h2:Sl u32C 1 w t.a t.n f.tape):CfIn w f l t:=⟨h1.len,by rw[List.length_map];exact h2.len,by have:=h1.few;omega,by have:=h2.few;omega,toCnfI h1,toCnfU h2⟩
theorem clean_in(f:Cf)(l t:Sv)(w:World)(h:CfIn w f l t):Calls Tryz.prog 14 #[.agg (cfC f l t)] w (CleP f w):=by
 have:=Cnf.clean_any f.mode f.width f.rob f.queue f.stores f.slots f.sets f.ways l.a t.a l.c t.c f.lat (f.tape.map (·.v)) f.tables l.n t.n w h.n1 h.n2 h.b1 h.b2 h.s1 h.s2
 refine this.mono fun e w' ⟨g,g2,h3,s1,s2,hb,q1,q2⟩=>?_
 have e1:((f.lat.take 64).map (cl 1 8)).length=Nat.min f.lat.length 64:=by simp[Nat.min_comm]
 have e2:(f.tape.take 64).length=Nat.min (f.tape.map (·.v)).length 64:=by simp[Nat.min_comm]
 have m1:Nat.min f.lat.length 64≤64:=Nat.min_le_right _ _
 have m2:Nat.min (f.tape.map (·.v)).length 64≤64:=Nat.min_le_right _ _
 have t1:=ofCnfI s1 (by omega)
 have t2:=ofCnfU (L:=f.tape.take 64) (by rw[List.map_take];exact s2) (by omega)
 rw[e1]at t1
 rw[e2]at t2
 exact⟨⟨some ⟨g,0,none⟩,Nat.min f.lat.length 64,Nat.min f.lat.length 64⟩,⟨some ⟨g2,0,none⟩,Nat.min (f.tape.map (fun x:U=>x.v)).length 64,Nat.min (f.tape.map (fun x:U=>x.v)).length 64⟩,h3,t1,⟨(fun h=>by cases h),Nat.le_refl _,by show Nat.min _ _≤_;omega⟩,t2,⟨(fun h=>by cases h),Nat.le_refl _,by show Nat.min _ _≤_;omega⟩,hb,fun p hp=>by cases hp;exact q1,fun p hp=>by cases hp;exact q2⟩
def NewCP(X:Nat→Prop)(f:Cf)(prog:List U)(m:By)(w:World)(e:Ending)(w':World):Prop:=∃ s:Ss,e= .returned (.agg (coC (newCo f prog m) s))∧CoR X w' (newCo f prog m) s∧Below w.heap.size w w'
theorem Ow.rd{α:Type}{lay:α→Array Value}{k b:Nat}{e:TypeId}{w:World}{v:Value}{L:List α}{X:Nat→Prop}(h:Ow lay k w b e v L)(hk:∀ x,(lay x).size=k)(hX:∀ j,b≤j→X j):∃ A C,v= .slice A L.length C∧Rd X lay k w ⟨A,L.length,C⟩ L:=by
 obtain⟨A,C,rfl,f1,f2,f3⟩:=h.sl2 hk
 exact⟨A,C,rfl,f1,f2,fun _ p hp=>hX _ (f3 p hp)⟩
theorem Rd.nilZ{α:Type}(X:Nat→Prop)(lay:α→Array Value)(k:Nat)(w:World):Rd X lay k w svZ ([]:List α):=⟨Sl.none_ _,Wf.zero,fun h=>absurd h (Nat.lt_irrefl 0)⟩
theorem new_core(X:Nat→Prop)(f:Cf)(l t:Sv)(A:Option Addr)(n C:Nat)(prog:List U)(m:By)(w:World)(hX:∀ j,w.heap.size≤j→X j)(h1:CfIn w f l t)(hP:Sl u32C 1 w A n prog)(hW:Wf A n C):Calls Tryz.prog 6 #[.agg (cfC f l t),.slice A n C,.string (bs m)] w (NewCP X f prog m w):=by
 have H:=Lo.start w
 have HX:=Lib.hid hX
 have H1:=Lib.hid h1
 have HP:=Lib.hid hP
 have HWf:=Lib.hid hW
 have hfew:=hP.few
 clear hX h1 hP hW
 have hC:=HWf.out.le
 have hC2:=HWf.out.few
 obtain⟨k,hk1,hk2,hk3⟩:∃ k:Nat,min (n:Int) 64=(k:Int)∧k≤n∧prog.take 64=prog.take k:=by
  have hl:=HP.out.len
  by_cases h64:n≤64
  ·exact⟨n,by omega,Nat.le_refl _,by rw[List.take_of_length_le (by omega),List.take_of_length_le (by omega)]⟩
  ·exact⟨64,by omega,by omega,rfl⟩
 have HK3:=Lib.hid hk3
 have b3':(0:Int)≤(k:Int):=by omega
 have b4':(k:Int)≤(C:Int):=by omega
 have b5':k≤C:=by omega
 have hpl:(prog.take k).length=k:=by rw[List.length_take,HP.out.len];omega
 clear hk3
 go_enter Tryz.func6,Tryz.ntmps6
 go_wp2_with (first|((with_reducible refine gS 25 3 ?_);refine st_Lslw2 rfl cel25 _ _ _ _ H _ _ rfl rfl _ rfl rfl rfl rfl ?_;intro w1 ho1 H1';have F0:=rdOff' FL ho1 ⟨_,List.mem_cons_of_mem _ mm0,rfl⟩;clear FL;have FL:=F0;clear F0;have F0:=rdOff' FT ho1 ⟨_,List.mem_cons_of_mem _ mm0,rfl⟩;clear FT;have FT:=F0;clear F0 ho1;clear H;have H:=H1';clear H1';try simp only[Act.put,xA,xB,xC,fR])|((with_reducible refine gBx 25 0 ?_);refine st_Lbox rfl _ H _ rfl rfl ?_;clear H;intro w1 b1 H;go_frame)|((with_reducible refine gAl 42 ?_);refine st_Lal rfl (coC coZ ssZ) zero42 H rfl ?_;clear H;intro w1 b6 hlt1 hb1 H;go_frame)|((with_reducible refine gL 25 3 ?_);refine st_Lllr rfl row25 H _ rfl _ 0 rfl _ 25 mm1 _ rfl (Sub.all _) ?_;go_frame)|(go_at_call 14;refine(clean_in f l t _ (H1.out.below H.bl)).mono ?_;unfold CleP;rintro r1 w1 ⟨l1,t1,rfl,q1,q2,q3,q4,hb,q5,q6⟩;have FL:Rd (Xl X _) i64C 1 w1 l1 (cleanF f).lat:=⟨q1,q2,fun _ p hp=>H.xl_new HX.out _ (q5 p hp)⟩;have FT:Rd (Xl X _) u32C 1 w1 t1 (cleanF f).tape:=⟨q3,q4,fun _ p hp=>H.xl_new HX.out _ (q6 p hp)⟩;clear q1 q2 q3 q4 q5 q6;have H1':=H.below hb;clear H;have H:=H1';clear H1'))
 go_wp2_with fail
 refine beginL 20 (l0:=zz22) H (by kernel_rfl) ?_ (by kernel_rfl);clear H;intro H
 refine tC 0 9 rfl (by kernel_rfl) iQ (by(exact yields_row row25 rfl _ rfl _ _ rfl _ rfl (fun w h j v hj=>(h.lcell mm1 _).trans (Sub.all _ j v hj)))) H ?_;go_frame
 refine tP 1 10 H ?_;go_frame
 refine tP 2 11 H ?_;go_frame
 refine tP 3 12 H ?_;go_frame
 refine tP 4 13 H ?_;go_frame
 refine tP 5 14 H ?_;go_frame
 refine tP 7 16 H ?_;go_frame
 refine tC 8 17 rfl (by kernel_rfl) iQ (by(exact yields_one one3 rfl _ rfl _ rfl _ (fun w h=>(h.lcell mm1 6).trans (cfC_6 _ _ _)))) H ?_;go_frame
 refine tP 9 18 H ?_;go_frame
 refine tC 10 19 rfl (by kernel_rfl) iQ (by(exact yields_one one3 rfl _ rfl _ rfl _ (fun w h=>(h.lcell mm1 7).trans (cfC_7 _ _ _)))) H ?_;go_frame
 refine tP 12 21 H ?_;go_frame
 refine tC 13 22 rfl (by kernel_rfl) iQ (by(exact yields_one one3 rfl _ rfl _ rfl _ (fun w h=>(h.lcell mm1 6).trans (cfC_6 _ _ _)))) H ?_;go_frame
 refine tP 14 23 H ?_;go_frame
 refine tC 15 24 rfl (by kernel_rfl) iQ (by(exact yields_one one3 rfl _ rfl _ rfl _ (fun w h=>(h.lcell mm1 7).trans (cfC_7 _ _ _)))) H ?_;go_frame
 refine tP 17 26 H ?_;go_frame
 refine o1C 6 15 (fun K hK=>?_)
 refine step_fn rfl _ _ _ (clone_prog A k C (prog.take k) _ ((HP.out.take hk2).below H.bl) ⟨HWf.out.nil,by omega,HWf.out.few⟩) (by go_simp<;>rfl) ?_;rintro r1 w1 ⟨v,rfl,how,hb⟩;obtain⟨A2,C2,rfl,FP⟩:=how.rd (X:=Xl X _) u32C_size (H.xl_new HX.out);refine⟨_,rfl,?_⟩;have F0:=(FL.below (Below.refl _ _).drew).below hb;clear FL;have FL:=F0;clear F0;have F0:=(FT.below (Below.refl _ _).drew).below hb;clear FT;have FT:=F0;clear F0;clear how;have H1':=H.below hb;clear H;have H:=H1';clear H1'
 refine hK.out _ _ (fun _=>H) ?_;clear hK K;go_frame
 refine o1C 11 20 (fun K hK=>?_)
 refine step_fn rfl _ _ _ (new_any (cleanF f).sets (cleanF f).ways _) (by go_simp<;>rfl) ?_;unfold NewP;rintro r1 w1 ⟨d1,rfl,q,hb⟩;have FD:=q (Xl X _) (H.xl_new HX.out);have F0:=(FL).below hb;clear FL;have FL:=F0;clear F0;have F0:=(FT).below hb;clear FT;have FT:=F0;clear F0;have F0:=FP.below hb;clear FP q;have FP:=F0;clear F0;refine⟨_,rfl,?_⟩;have H1':=H.below hb;clear H;have H:=H1';clear H1'
 refine hK.out _ _ (fun _=>H) ?_;clear hK K;go_frame
 refine o1C 16 25 (fun K hK=>?_)
 refine step_fn rfl _ _ _ (new_any (cleanF f).sets (cleanF f).ways _) (by go_simp<;>rfl) ?_;unfold NewP;rintro r1 w1 ⟨o1,rfl,q,hb⟩;have FW:=q (Xl X _) (H.xl_new HX.out);have F0:=(FL).below hb;clear FL;have FL:=F0;clear F0;have F0:=(FT).below hb;clear FT;have FT:=F0;clear F0;have F0:=FP.below hb;clear FP q;have FP:=F0;clear F0;have F0:=FD.below hb;clear FD;have FD:=F0;clear F0;refine⟨_,rfl,?_⟩;have H1':=H.below hb;clear H;have H:=H1';clear H1'
 refine hK.out _ _ (fun _=>H) ?_;clear hK K;go_frame
 refine o1C 18 27 (fun K hK=>?_)
 refine step_fn rfl _ _ _ (clean_mem m _) (by go_simp<;>rfl) ?_;rintro r1 w1 ⟨rfl,hb⟩;have F0:=(FL).below hb;clear FL;have FL:=F0;clear F0;have F0:=(FT).below hb;clear FT;have FT:=F0;clear F0;have F0:=FP.below hb;clear FP;have FP:=F0;clear F0;have F0:=FD.below hb;clear FD;have FD:=F0;clear F0;have F0:=FW.below hb;clear FW;have FW:=F0;clear F0;refine⟨_,rfl,?_⟩;have H1':=H.below hb;clear H;have H:=H1';clear H1'
 refine hK.out _ _ (fun _=>H) ?_;clear hK K;go_frame
 refine o1C 19 28 (fun K hK=>?_)
 refine step_fn rfl _ _ _ (newg_any _) (by go_simp<;>rfl) ?_;unfold GuP;rintro r1 w1 ⟨⟨q1,q2,q3⟩,gg,rfl,hgu,rfl,hor,hb⟩;have qh:=hgu.hist;simp only at qh;subst qh;have ho2:=hor.resolve_left (fun q=>by cases q);have Fs9:Rd (Xl X _) skC 2 w1 q1 newG.slots:=⟨hgu.sl,hgu.wf,fun _ p hp=>H.xl_new HX.out _ (ho2.1 p hp)⟩;have FR:Rd (Xl X _) u32C 1 w1 q3 newG.returns:=⟨hgu.rl,hgu.rw,fun _ p hp=>H.xl_new HX.out _ (ho2.2 p hp)⟩;clear hgu hor ho2;have F0:=(FL).below hb;clear FL;have FL:=F0;clear F0;have F0:=(FT).below hb;clear FT;have FT:=F0;clear F0;have F0:=FP.below hb;clear FP;have FP:=F0;clear F0;have F0:=FD.below hb;clear FD;have FD:=F0;clear F0;have F0:=FW.below hb;clear FW;have FW:=F0;clear F0;refine⟨_,rfl,?_⟩;have hbb:=hb;have H1':=H.below hb;clear H;have H:=H1';clear H1'
 refine hK.out _ _ (fun _=>H) ?_;clear hK K;go_frame
 refine o1C 20 29 (fun K hK=>?_)
 refine step_built rfl rfl _ rfl _ (built42 (cleanF f) (prog.take k) (newC (cleanF f).sets (cleanF f).ways) (newC (cleanF f).sets (cleanF f).ways) (cleanM m) newG l1 t1 ⟨A2,(prog.take k).length,C2⟩ d1 o1 q1 q3) ?_
 refine hK.out _ _ (aB rfl) ?_;clear hK K;go_frame
 refine o1N 21 (fun K hK=>?_)
 refine step_Lslw rfl cel42 _ _ _ H _ _ rfl rfl _ rfl rfl (coC_ones _ _) rfl ?_;intro w1 ho1 H1';have hm1:∃ x∈[(b6,coC coZ ssZ,42),(b1,cfC (cleanF f) l1 t1,25)],x.1=b6:=⟨_,List.mem_cons_self ..,rfl⟩;have F0:=rdOff' FL ho1 ⟨_,List.mem_cons_self ..,rfl⟩;clear FL;have FL:=F0;clear F0;have F0:=rdOff' FT ho1 ⟨_,List.mem_cons_self ..,rfl⟩;clear FT;have FT:=F0;clear F0;have F0:=rdOff' FP ho1 hm1;clear FP;have FP:=F0;clear F0;have F0:=caOff' FD ho1 hm1;clear FD;have FD:=F0;clear F0;have F0:=caOff' FW ho1 hm1;clear FW;have FW:=F0;clear F0;have F0:=rdOff' Fs9 ho1 hm1;clear Fs9;have Fs9:=F0;clear F0;have F0:=rdOff' FR ho1 hm1;clear FR;have FR:=F0;clear F0;clear H;have H:=H1';clear H1'
 refine hK.out _ _ (aB rfl) ?_;clear hK K;go_frame
 refine dnC ?_ _
 go_wp2
 rw[← HK3.out]at FP
 apply ret_row row42 rfl _ (coC (newCo f prog m) ⟨l1,t1,⟨A2,(prog.take 64).length,C2⟩,svZ,svZ,svZ,d1,o1,svZ,q1,q3,svZ⟩) rfl (coC_size _ _) (t:=42) (fr:=(0,0)) (hd:=rfl) (hg:=by rw[HK3.out];exact H.row mm0)
 exact⟨_,rfl,⟨List.length_replicate,Xl.toR FL,Xl.toR FT,Xl.toR FP,Rd.nilZ _ _ _ _,Rd.nilZ _ _ _ _,Rd.nilZ _ _ _ _,Xl.toX FD,Xl.toX FW,Rd.nilZ _ _ _ _,Xl.toR Fs9,Xl.toR FR,Rd.nilZ _ _ _ _⟩,H.bl⟩
def RunsTo(c:Co):Nat→Co→Prop
 | 0,x=>x=c
 | k+1,x=>∃ y,RunsTo c k y∧StepS y x
theorem RunsTo.inv{c:Co}(h:Inv c):∀ {k:Nat} {x:Co},RunsTo c k x→Inv x
 | 0,x,e=>by cases e;exact h
 | k+1,x,⟨y,h1,h2⟩=>(RunsTo.inv h h1).step h2
theorem RunsTo.sz{c:Co}:∀ {k:Nat} {x:Co},RunsTo c k x→Sz c x (40*k)
 | 0,x,e=>by cases e;exact Sz.refl _
 | k+1,x,⟨y,h1,h2⟩=>((RunsTo.sz h1).trans (Sz.step h2)).up (by omega)
theorem cleanM_16(m:By):(cleanM m).length % 16=0:=by
 unfold cleanM
 simp only[List.length_append,List.length_replicate]
 have:(m.take 256).length≤256:=by rw[List.length_take];omega
 split
 ·omega
 ·split
  ·omega
  ·split
   ·omega
   ·split<;>omega
theorem new_inv(f:Cf)(prog:List U)(m:By):Inv (newCo f prog m):=by
 obtain⟨h1,h2⟩:=new_rc (cleanF f).sets (cleanF f).ways
 exact⟨cleanM_16 m,h1,fun y hy=>absurd hy (h2 y),h1,fun y hy=>absurd hy (h2 y),(fun r hr=>by cases hr),(fun r hr=>by cases hr),(fun r hr=>by cases hr)⟩
def RunP(X:Nat→Prop)(f:Cf)(prog:List U)(m:By)(n:Int)(w:World)(e:Ending)(w':World):Prop:=∃(c:Co) (s:Ss),e= .returned (.agg (coC c s))∧RunsTo (newCo f prog m) (min n 2000).toNat c∧CoR X w' c s∧Below w.heap.size w w'
theorem Lo.nx{ws w:World}{l:List Lc}{X:Nat→Prop}{B:Nat}(H:Lo ws w l)(hB:B≤ws.heap.size)(hX:∀ j,¬ X j→B≤j∧j<ws.heap.size):∀ j,¬ Xl X l j→B≤j∧j<w.heap.size:=fun j hj=>by
 by_cases q:X j
 ·obtain⟨x,hx,he⟩:∃ x∈l,j=x.1:=Classical.byContradiction fun h=>hj ⟨q,fun x hx e=>h ⟨x,hx,e⟩⟩
  subst he
  have:=H.lc x hx
  exact⟨Nat.le_trans hB this.2,(Array.getElem?_eq_some_iff.1 this.1).1⟩
 ·have:=hX j q
  exact⟨this.1,Nat.lt_of_lt_of_le this.2 H.bl.size⟩
theorem CoR.toX{X:Nat→Prop}{w:World}{l:List Lc}{c:Co}{s:Ss}(h:CoR (Xl X l) w c s):CoR X w c s:=h.mono fun j h1 _=>h1.1
theorem corAl{X:Nat→Prop}{c:Co}{s:Ss}{w w':World}{l:List Lc}{b:Nat}(z:Array Value)(T:TypeId)(h:CoR (Xl X l) w c s)(hlt:w.heap.size≤b)(hb:Below w.heap.size w w'):CoR (Xl X ((b,z,T)::l)) w' c s:=by
 have h1:CoR (Xl X ((b,z,T)::l)) w c s:=h.mono fun j h2 h3=>⟨h2.1,fun x hx e=>by
  rcases List.mem_cons.1 hx with q|hx
  ·subst q;simp only at e;omega
  ·exact h2.2 x hx e⟩
 exact h1.below hb
theorem corOff{X:Nat→Prop}{c:Co}{s:Ss}{w w':World}{l:List Lc}{b:Nat}(h:CoR (Xl X l) w c s)(ho:Off b w w')(hb:∃ x∈l,x.1=b):CoR (Xl X l) w' c s:=
 h.same (by rw[ho.size];exact Nat.le_refl _) (fun j hj=>ho.heap j (fun e=>by obtain⟨x,hx,q⟩:=hb;exact hj.2 x hx (e.trans q.symm)))
theorem Xl.ids{X:Nat→Prop}{l l':List Lc}(h:l.map (·.1)=l'.map (·.1)):Xl X l=Xl X l':=by
 have key:∀ {l l':List Lc},l.map (·.1)=l'.map (·.1)→∀ j,Xl X l j→Xl X l' j:=fun {l l'} h j hj=>⟨hj.1,fun x hx e=>by
  have:x.1∈l.map (·.1):=by rw[h];exact List.mem_map_of_mem hx
  obtain⟨y,hy,q⟩:=List.mem_map.1 this
  exact hj.2 y hy (e.trans q.symm)⟩
 funext j
 exact propext ⟨key h j,key h.symm j⟩
theorem corIds{X:Nat→Prop}{c:Co}{s:Ss}{w:World}{l l':List Lc}(q:CoR (Xl X l) w c s)(h:l.map (·.1)=l'.map (·.1)):CoR (Xl X l') w c s:=by
 rw[← Xl.ids h];exact q
theorem run_m(w0 w:World)(X:Nat→Prop)(f:Cf)(l t:Sv)(A:Option Addr)(n C:Nat)(prog:List U)(m:By)(k:Int)(hk:k≤2000)(hT:TabC w0)(hB:Below w0.heap.size w0 w)(hX:∀ j,¬ X j→w0.heap.size≤j∧j<w.heap.size)(h1:CfIn w f l t)(hP:Sl u32C 1 w A n prog)(hW:Wf A n C):Calls Tryz.prog 13 #[.agg (cfC f l t),.slice A n C,.string (bs m),.int .i64 k] w (RunP X f prog m k w):=by
 have H:=Lo.start w
 have HT:=Lib.hid hT
 have HB:=Lib.hid hB
 have HX:=Lib.hid hX
 have HX2:=Lib.hid (show ∀ j,w.heap.size≤j→X j from fun j hj=>Classical.byContradiction fun q=>by have:=hX j q;omega)
 have H1:=Lib.hid h1
 have HP:=Lib.hid hP
 have HWf:=Lib.hid hW
 have hmin:min k 2000=k:=by omega
 clear hT hB hX h1 hP hW
 go_enter Tryz.func13,Tryz.ntmps13
 go_wp2_with (first|(go_at_call 6;refine(new_core (Xl X _) f l t A n C prog m _ (H.xl_new HX2.out) (H1.out.below H.bl) (HP.out.below H.bl) HWf.out).mono ?_;unfold NewCP;rintro r1 w1 ⟨s1,rfl,FC,hb⟩;have H1':=H.below hb;clear H;have H:=H1';clear H1')|(with_reducible show wpList Tryz.prog _ _ (⟨some 9,Op.alloc 42,_,_,_,_⟩::_) _ _;refine st_Lal rfl (coC coZ ssZ) zero42 H rfl ?_;intro wC b9 hlt hbl HC;have FC':=corAl (coC coZ ssZ) 42 FC hlt hbl;clear FC H hlt hbl;have H:=HC;have FC:=FC';clear HC FC';try simp only[Act.put,xA,xB,xC,fR])|((with_reducible refine gD (Op.store 42 (.tmp 9) (.tmp 13)) ?_);refine st_Lslw rfl cel42 _ _ _ H _ _ rfl rfl _ rfl (coC_size _ _) (coC_ones _ _) (coC_size _ _) ?_;intro wC ho HC;have FC':=corOff FC ho ⟨_,List.mem_cons_self ..,rfl⟩;clear FC H ho;have H:=HC;have FC:=FC';clear HC FC';try simp only[Act.put,xA,xB,xC,fR])|((with_reducible refine gBx 25 0 ?_);refine st_Lbox rfl _ H _ rfl rfl ?_;clear H;intro w1 b1 H;go_frame)|((with_reducible refine gAl 42 ?_);refine st_Lal rfl (coC coZ ssZ) zero42 H rfl ?_;clear H;intro w1 b8 hlt1 hb1 H;go_frame)|((with_reducible refine gL 25 4 ?_);refine st_Lllr rfl row25 H _ rfl _ 0 rfl _ 25 mm1 _ rfl (Sub.all _) ?_;go_frame))
 go_loopw [16] (fun i wr=>∃(j:Nat) (x:Co) (sx:Ss),j≤k.toNat∧i= .int .i64 (j:Int)∧Hid (RunsTo (newCo f prog m) j x)∧CoR (Xl X [(b9,coC x sx,42),(b8,coC coZ ssZ,42),(b1,cfC f l t,25)]) wr x sx∧Lo w wr [(b9,coC x sx,42),(b8,coC coZ ssZ,42),(b1,cfC f l t,25)]) (fun i _=>k.toNat-(intOf i).toNat)
 case atStart=>exact⟨0,_,s1,Nat.zero_le _,rfl,Lib.hid rfl,corIds FC rfl,H⟩
 case round=>
  clear H FC
  obtain⟨j,x,sx,hj,rfl,HR,FC,H⟩:=hrel
  by_cases hlt:j<k.toNat
  ·have c1:(j:Int)<k:=by omega
   have z1:=HR.out.sz
   have XB:=Lib.hid (show x.bus.length≤700000∧x.retired.length≤700000 from⟨by have:=z1.bus;simp only[newCo]at this;simp only[List.length_nil]at this;omega,by have:=z1.retired;simp only[newCo]at this;simp only[List.length_nil]at this;omega⟩)
   clear z1
   go_wp2_with (first|(go_at_call 7;refine(step_m w0 _ (Xl X _) x sx HT.out ((HB.out).trans (H.bl.mono HB.out.size)) (H.nx HB.out.size HX.out) FC (HR.out.inv (new_inv f prog m)) XB.out.1 XB.out.2).mono ?_;unfold StepP;rintro r1 w1 ⟨x2,s2,rfl,hst,FC2,hb⟩;have HS:=Lib.hid hst;clear hst FC;have FC:=FC2;clear FC2;have H1':=H.below hb;clear H;have H:=H1';clear H1')|((with_reducible refine gD (Op.store 42 (.tmp 9) (.tmp 19)) ?_);refine st_Lslw rfl cel42 _ _ _ H _ _ rfl rfl _ rfl (coC_size _ _) (coC_ones _ _) (coC_size _ _) ?_;intro wC ho HC;have FC':=corOff FC ho ⟨_,List.mem_cons_self ..,rfl⟩;clear FC H ho;have H:=HC;have FC:=FC';clear HC FC';try simp only[Act.put,xA,xB,xC,fR])|((with_reducible refine gL 42 9 ?_);refine st_Lllr rfl row42 H _ rfl _ 0 rfl _ 42 mm0 _ rfl (Sub.all _) ?_;go_frame))
   go_roundw
   all_goals first
    | exact⟨j+1,_,_,by omega,by go_num,Lib.hid ⟨x,HR.out,HS.out⟩,corIds FC rfl,H⟩|(simp[intOf];omega)
  ·have c1:¬ (j:Int)<k:=by omega
   go_wp2_with (first|((with_reducible refine gD (Op.store 42 (.tmp 8) (.tmp 21)) ?_);refine st_Lslw2 rfl cel42 _ _ _ _ H _ _ rfl rfl _ rfl (coC_size _ _) (coC_ones _ _) (coC_size _ _) ?_;intro wC ho HC;have FC':=corOff FC ho ⟨_,List.mem_cons_of_mem _ mm0,rfl⟩;clear FC H ho;have H:=HC;have FC:=FC';clear HC FC';try simp only[Act.put,xA,xB,xC,fR])|((with_reducible refine gL 42 9 ?_);refine st_Lllr rfl row42 H _ rfl _ 0 rfl _ 42 mm0 _ rfl (Sub.all _) ?_;go_frame))
   apply ret_row row42 rfl _ (coC x sx) rfl (coC_size _ _) (t:=42) (fr:=(0,0)) (hd:=rfl) (hg:=H.row mm1)
   refine⟨x,sx,rfl,?_,FC.toX,H.bl⟩
   rw[hmin,show k.toNat=j by omega]
   exact HR.out
def ShortP(A:Option Addr)(n C:Nat)(m:By)(w:World)(e:Ending)(w':World):Prop:=e= .returned (.tuple #[.slice A (min n 64) C,.string (bs (m.take 300))])∧Below w.heap.size w w'
theorem short_any(A:Option Addr)(n C:Nat)(m:By)(w:World)(hW:Wf A n C):Calls Tryz.prog 5 #[.slice A n C,.string (bs m)] w (ShortP A n C m w):=by
 have H:=Lo.start w
 have hC:=hW.le
 have hC2:=hW.few
 have HWf:=Lib.hid hW
 have e1:=bs_size m
 obtain⟨k,hk1,hk2,hk3⟩:∃ k:Nat,min (n:Int) 64=(k:Int)∧k≤n∧min n 64=k:=⟨min n 64,by omega,by omega,rfl⟩
 obtain⟨q,hq1,hq2,hq3⟩:∃ q:Nat,min (m.length:Int) 300=(q:Int)∧q≤m.length∧min m.length 300=q:=⟨min m.length 300,by omega,by omega,rfl⟩
 have b3':(0:Int)≤(k:Int):=by omega
 have b4':(k:Int)≤(C:Int):=by omega
 have b5':k≤C:=by omega
 have b6':(0:Int)≤(q:Int):=by omega
 have b7':(q:Int)≤(m.length:Int):=by omega
 have hex:(bs m).extract 0 q=bs (m.take 300):=by
  have:=bs_cut m 0 q
  rw[Nat.zero_add]at this
  rw[this]
  show bs ((m.drop 0).take q)=_
  rw[List.drop_zero,← hq3]
  congr 1
  rw[← List.take_take,List.take_of_length_le (l:=m.take 300) (by rw[List.length_take];omega)]
 have HE:=Lib.hid hex
 have HK:=Lib.hid hk3
 clear hex hk3 hq3 hW
 go_enter Tryz.func5,Tryz.ntmps5
 go_wp2_with fail
 go_wp2_with fail
 refine beginL 11 (l0:=zz12) H (by kernel_rfl) ?_ (by kernel_rfl);clear H;intro H
 refine tP 0 6 H ?_;go_frame
 refine tP 1 7 H ?_;go_frame
 refine tP 2 8 H ?_;go_frame
 refine tP 3 9 H ?_;go_frame
 refine tP 4 10 H ?_;go_frame
 refine tP 5 11 H ?_;go_frame
 refine tP 6 12 H ?_;go_frame
 refine tP 7 13 H ?_;go_frame
 refine tP 8 14 H ?_;go_frame
 refine tP 9 15 H ?_;go_frame
 refine tP 10 4 H ?_;go_frame
 refine o1C 11 5 (fun K hK=>?_)
 refine step_v rfl (v:=?vr1_11) ?hyr1_11 ?restr1_11
 case hyr1_11=>(go_simp;try(with_reducible rfl))
 refine hK.out _ _ (aB rfl) ?_;clear hK K;go_frame
 refine dnC ?_ _
 go_wp2
 go_ret2
 exact⟨by rw[HK.out,← HE.out];rfl,H.bl⟩
def stepD(g:Gu)(x:U)(gd:Int)(c:Co):Co:=
 { drainsC (fetch1 x gd { entersC (retire1 g (worksC (ticksC { c with cycle:=wrap64 (c.cycle+1),ph:=0 })))with ph:=1 })with ph:=0 }
def aliC:Co:=newCo cfZ [U.of 1048691] []
def aliA(gd:Int):Nat→Co
 | 0=>aliC
 | k+1=>stepD newG (U.of 0) gd (aliA gd k)
def aliE(gd cy:Int):Co:={ aliA gd 4 with cycle:=cy }
theorem StepS.det{c c':Co}(h:StepS c c')(hw:∀ g,(worksC (ticksC { c with cycle:=wrap64 (c.cycle+1),ph:=0 })).conf.width.toNat=1∧(entersC (retire1 g (worksC (ticksC { c with cycle:=wrap64 (c.cycle+1),ph:=0 })))).conf.width.toNat=1∧(List.range (retire1 g (worksC (ticksC { c with cycle:=wrap64 (c.cycle+1),ph:=0 }))).rob.length).all (fun i=>!canB (retire1 g (worksC (ticksC { c with cycle:=wrap64 (c.cycle+1),ph:=0 }))) i)=true)(hr:rightCo c=true):∃ g x gd,c'=stepD g x gd c:=by
 rcases h with⟨q,_⟩|⟨_,c3,c4,c6,⟨gs,n1,h1⟩,h2,⟨xs,n2,h3⟩,h4⟩
 ·rw[hr]at q;cases q
 obtain⟨w1,_,_⟩:=hw newG
 rw[w1]at n1
 obtain⟨g,rfl⟩:=List.length_eq_one_iff.1 n1
 simp only[List.foldl_cons,List.foldl_nil]at h1
 obtain⟨_,w2,w3⟩:=hw g
 rw[← h1]at w2 w3
 have e4:c4=c3:=by
  rcases h2 with⟨_,q⟩|⟨q0,ps,q1,_,q2⟩
  ·exact q
  ·cases ps with
   | nil=>exact q2
   | cons p ps=>
    exfalso
    obtain⟨p1,p2⟩:=q1 p mm0
    have:=List.all_eq_true.1 w3 p.1 (List.mem_range.2 p1)
    rw[p2]at this;cases this
 subst e4
 rw[show({ entersC c4 with ph:=1 }:Co).conf.width.toNat=(entersC c4).conf.width.toNat from rfl,w2]at n2
 obtain⟨⟨x,gd⟩,rfl⟩:=List.length_eq_one_iff.1 n2
 simp only[List.foldl_cons,List.foldl_nil]at h3
 exact⟨g,x,gd,by rw[h4,h3,h1];rfl⟩
theorem ali0{c':Co}(h:StepS aliC c'):c'=aliA 0 1:=by
 obtain⟨g,x,gd,rfl⟩:=h.det (fun g=>⟨by kernel_rfl,by kernel_rfl,by kernel_rfl⟩) (by kernel_rfl)
 kernel_rfl
theorem ali1{c':Co}(h:StepS (aliA 0 1) c'):∃ gd,c'=aliA gd 2:=by
 obtain⟨g,x,gd,rfl⟩:=h.det (fun g=>⟨by kernel_rfl,by kernel_rfl,by kernel_rfl⟩) (by kernel_rfl)
 exact⟨gd,by kernel_rfl⟩
theorem ali2{gd:Int}{c':Co}(h:StepS (aliA gd 2) c'):c'=aliA gd 3:=by
 obtain⟨g,x,gd',rfl⟩:=h.det (fun g=>⟨by kernel_rfl,by kernel_rfl,by kernel_rfl⟩) (by kernel_rfl)
 kernel_rfl
theorem ali3{gd:Int}{c':Co}(h:StepS (aliA gd 3) c'):∃ cy,c'=aliE gd cy:=by
 obtain⟨g,x,gd',rfl⟩:=h.det (fun g=>⟨by kernel_rfl,by kernel_rfl,by kernel_rfl⟩) (by kernel_rfl)
 exact⟨4,by kernel_rfl⟩
theorem ali4{gd cy:Int}{c':Co}(h:StepS (aliE gd cy) c'):∃ cy,c'=aliE gd cy:=by
 obtain⟨g,x,gd',rfl⟩:=h.det (fun g=>⟨by kernel_rfl,by kernel_rfl,by kernel_rfl⟩) (by kernel_rfl)
 exact⟨wrap64 (cy+1),by kernel_rfl⟩
theorem ali_all:∀(k:Nat) {x:Co},RunsTo aliC k x→(k=0∧x=aliC)∨(k=1∧x=aliA 0 1)∨(k=2∧∃ gd,x=aliA gd 2)∨(k=3∧∃ gd,x=aliA gd 3)∨(4≤k∧∃ gd cy,x=aliE gd cy)
 | 0,x,h=>.inl ⟨rfl,h⟩
 | k+1,x,⟨y,h1,h2⟩=>by
  rcases ali_all k h1 with⟨rfl,rfl⟩|⟨rfl,rfl⟩|⟨rfl,gd,rfl⟩|⟨rfl,gd,rfl⟩|⟨hk,gd,cy,rfl⟩
  ·exact .inr (.inl ⟨rfl,ali0 h2⟩)
  ·exact .inr (.inr (.inl ⟨rfl,ali1 h2⟩))
  ·exact .inr (.inr (.inr (.inl ⟨rfl,gd,ali2 h2⟩)))
  ·exact .inr (.inr (.inr (.inr ⟨by omega,gd,ali3 h2⟩)))
  ·exact .inr (.inr (.inr (.inr ⟨by omega,gd,ali4 h2⟩)))
theorem ali_end{x:Co}(h:RunsTo aliC 20 x):x.halt=7∧x.retired.length=1:=by
 rcases ali_all 20 h with⟨q,_⟩|⟨q,_⟩|⟨q,_⟩|⟨q,_⟩|⟨_,gd,cy,rfl⟩
 ·omega
 ·omega
 ·omega
 ·omega
 ·exact⟨by kernel_rfl,by kernel_rfl⟩
section
variable {ws w:World} {l:List Lc} {ops:Array Oper} {rest:List Oper} {o:Oper} {a:Act} {Q:Exit→Act→World→Prop}
theorem st_Lbi(hgd:o.guard=none)(v:Value)(hv:v.cells=#[v])(H:Lo ws w l)(x:Operand){t e:TypeId}(hT:SlT t e 1)(ho:o.op= .buildSlice t 1 #[(0,x)])(hx:a.eval x=v)(h:∀ w' b,Below w.heap.size w w'→w'.heap[b]?=some (.cells #[v] e (0,0))→Lo ws w' ((b,#[v],e)::l)→wpList Tryz.prog ops Q rest (a.put o.dst (.slice (some ⟨b,0,none⟩) 1 1)) w'):wpList Tryz.prog ops Q (o::rest) a w:=
 wpList_plain hgd fun K hK=>by
  have hrun:=run_bs1 hT (by decide) w v (by rw[hv];rfl)
  rw[hv]at hrun
  unfold Oper.wp execOp
  simp only[ho,List.map_toArray,List.map_cons,List.map_nil,hx,Sem.run_bind,Sem.run_pure,Result.andThen_ok,hrun]
  have H':=H.more #[v] e
  exact hK _ _ (h _ _ ((Below.refl w.heap.size w).alloc (Nat.le_refl _) (.cells #[v] e)) (H'.lc _ mm0).1 H')
end
theorem alive_m(w0 w:World)(hT:TabC w0)(hB:Below w0.heap.size w0 w):Calls Tryz.prog 12 #[] w fun e w'=>e= .returned (.bool true)∧Below w.heap.size w w':=by
 have H:=Lo.start w
 have HT:=Lib.hid hT
 have HB:=Lib.hid hB
 clear hT hB
 go_enter Tryz.func12,Tryz.ntmps12
 go_wp2_with (first|((with_reducible refine gAl 42 ?_);refine st_Lal rfl (coC coZ ssZ) zero42 H rfl ?_;clear H;intro w1 b1 hlt1 hb1 H;go_frame)|((with_reducible refine gS 42 1 ?_);refine st_Lslw rfl cel42 _ _ _ H _ _ rfl rfl _ rfl rfl rfl rfl ?_;clear H;intro w1 ho1 H;go_frame)|((with_reducible refine gL 3 5 ?_);refine st_Lll1 rfl one3 H _ rfl _ 62 rfl _ 42 mm0 _ (coC_62 _ _) ?_;go_frame)|((with_reducible refine gL 40 9 ?_);refine sTj rfl ?_;refine wp_Lll1 one40 H _ rfl _ 63 rfl _ 42 mm0 _ (coC_63 _ _) ?_;go_frame)|((with_reducible refine gD (Op.build 25 _) ?_);refine st_built rfl rfl [] rfl _ built25 ?_;try simp only[Act.put,xA,xB,xC,fR])|((with_reducible refine gD (Op.buildSlice 23 1 _) ?_);refine st_Lbi rfl (.int .u32 1048691) rfl H _ slT23 rfl rfl ?_;intro w1 bP _ hP H1;have HP:=Lib.hid hP;clear hP H;have H:=H1;clear H1;try simp only[Act.put,xA,xB,xC,fR])|(go_at_call 13;refine(run_m w0 _ (fun _=>True) cfZ svZ svZ (some ⟨bP,0,none⟩) 1 1 [U.of 1048691] [] 20 (by decide) HT.out (HB.out.trans (H.bl.mono HB.out.size)) (fun j hj=>absurd trivial hj) (CfIn.of (Sl.none_ _) (Sl.none_ _)) (Sl.new (fun _=>rfl) HP.out (by decide)) ⟨(fun h=>by cases h),Nat.le_refl _,(by decide)⟩).mono ?_;unfold RunP;rintro r1 w1 ⟨c,s,rfl,hr,hc,hb⟩;have e:=ali_end hr;have HH:=Lib.hid e.1;have HL:=Lib.hid (hc.retired.sl.len.symm.trans e.2);clear e hr hc;replace H:=H.below hb)|fail)
 go_ret
 have e:=HL.out
 exact⟨by rw[e];rfl,H.bl⟩
section
open Go.ChangeShapes Go.WideShapes Go.ChangeAt Go.RowKit Go.Deep
theorem open_cells{H:Type}{enc:TypeId×Value→H}{P:Program}{w:World}{base:Nat}{spare:Nat→Bool}{held:Bool}{r:Reach}{b0:Nat}{t:TypeId}{fs:Array Field}{v:Value}{d:DataW H}{p:List MemPlace}
 (hs:P.underlying t=some (.struct fs)) (hone:oneCellFields P fs=true) (hC:P.cellsOf t=fs.size)
 (hv:Value.okWide P w r b0 t v) (h:DataW.Trod enc P w base spare held t v d p):
 ∃ cs:Array Value,v= .agg cs∧cs.size=fs.size∧∀(j:Nat) (f:Field),fs[j]?=some f→∃ c x n,cs[j]?=some c∧DataW.trod enc P w base spare held n f.type [c]=some x:=by
 obtain⟨cs,rfl,hsz⟩:=okWide_struct hs hv
 refine⟨cs,rfl,hsz.trans hC,fun j f hj=>?_⟩
 obtain⟨fuel,hf⟩:=h
 obtain⟨xs,n,_,_,_,hlen,hg⟩:=DataW.trod_struct hs hf
 obtain⟨ho,hk⟩:=hone_of hone j f hj
 have hjl:j<fs.size:=(Array.getElem?_eq_some_iff.1 hj).1
 have hg:=hg j f hj
 rw[ho,hk]at hg
 have hc:cs[j]?=some (cs[j]'(by omega)):=Array.getElem?_eq_getElem (by omega)
 have hx:xs[j]?=some (xs[j]'(by omega)):=List.getElem?_eq_getElem (by omega)
 have e:(((Value.agg cs).cells.toList).drop j).take 1=[cs[j]'(by omega)]:=by
  have:(Value.agg cs).cells=cs:=by simp[Value.cells]
  rw[this,List.drop_eq_getElem_cons (by simp;omega)]
  simp
 rw[e,hx]at hg
 exact⟨_,_,n,hc,hg⟩
theorem open_sl{H:Type}{enc:TypeId×Value→H}{w:World}{base:Nat}{spare:Nat→Bool}{held:Bool}{t e:TypeId}{k:IntKind}{c:Value}{x:DataW H×List MemPlace}{n:Nat}
 (h1:Tryz.prog.underlying t=some (.slice e)) (h2:Tryz.prog.underlying e=some (.int k)) (h3:Tryz.prog.cellsOf e=1) (hf:DataW.trod enc Tryz.prog w base spare held n t [c]=some x):
 ∃(A:Option Addr) (l C:Nat) (L:List Int),c= .slice A l C∧L.length=l∧l≤C∧C≤9223372036854775807∧Cnf.Sl w k A L∧(A=none→C=0)∧(∀ x∈L,(Lit.int k x).wf=true):=by
 rcases open_ints h1 h2 h3 hf with⟨hcs,_⟩|⟨a,l,C,zs,hcs,_,hl,hm,hz,_,hcell,hwz⟩
 ·simp at hcs
  subst hcs
  exact⟨none,0,0,[],rfl,rfl,by omega,by omega,Cnf.Sl.none_ _ _ _,fun _=>rfl,fun x hx=>by cases hx⟩
 ·simp at hcs
  subst hcs
  have hz':l≤zs.length:=by
   by_cases hs:spare a.block=true
   ·simp[hs]at hz;omega
   ·simp[hs]at hz;omega
  refine⟨some a,l,C,zs.take l,rfl,by simp;omega,hl,by unfold maxLen at hm;omega,fun hn=>?_,fun h=>(by cases h),fun x hx=>hwz x (List.mem_of_mem_take hx)⟩
  have hl0:0<l:=by simp at hn;omega
  obtain⟨b,off,rfl,hc⟩:=ints_at hcell (by omega)
  have h0:=hc 0 (by omega)
  refine⟨b,off,rfl,World.block_lt_of_cell? w _ h0,fun j hj=>?_⟩
  have hjl:j<l:=by simp at hj;omega
  rw[hc j (by omega)]
  simp[List.getD_eq_getElem?_getD,hjl]
theorem mapU{T:List Int}(h:∀ x∈T,(Lit.int .u32 x).wf=true):(T.map U.of).map (·.v)=T:=by
 rw[List.map_map]
 conv=>rhs;rw[← List.map_id T]
 refine List.map_congr_left fun x hx=>?_
 have:=bounds_u32 (h x hx)
 show x % 4294967296=x
 omega
theorem open_conf{H:Type}{enc:TypeId×Value→H}{w:World}{base b0:Nat}{spare:Nat→Bool}{held:Bool}{r:Reach}{v:Value}{d:DataW H}{p:List MemPlace}
 (hv:Value.okWide Tryz.prog w r b0 25 v) (h:DataW.Trod enc Tryz.prog w base spare held 25 v d p):
 ∃(f:Cf) (l t:Sv),v= .agg (cfC f l t)∧CfIn w f l t:=by
 obtain⟨⟨l⟩,rfl,hsz,hf⟩:=open_cells Tryz.underlying25 (by kernel_rfl) (by kernel_rfl) hv h
 match l,hsz with
 | [c0,c1,c2,c3,c4,c5,c6,c7,c8,c9,c10],_=>
  obtain⟨_,_,_,e0,t0⟩:=hf 0 _ rfl
  obtain⟨_,_,_,e1,t1⟩:=hf 1 _ rfl
  obtain⟨_,_,_,e2,t2⟩:=hf 2 _ rfl
  obtain⟨_,_,_,e3,t3⟩:=hf 3 _ rfl
  obtain⟨_,_,_,e4,t4⟩:=hf 4 _ rfl
  obtain⟨_,_,_,e5,t5⟩:=hf 5 _ rfl
  obtain⟨_,_,_,e6,t6⟩:=hf 6 _ rfl
  obtain⟨_,_,_,e7,t7⟩:=hf 7 _ rfl
  obtain⟨_,_,_,e8,t8⟩:=hf 8 _ rfl
  obtain⟨_,_,_,e9,t9⟩:=hf 9 _ rfl
  obtain⟨_,_,_,e10,t10⟩:=hf 10 _ rfl
  simp at e0 e1 e2 e3 e4 e5 e6 e7 e8 e9 e10
  subst e0 e1 e2 e3 e4 e5 e6 e7 e8 e9 e10
  obtain⟨m,g0,_,_⟩:=DataW.trod_int Tryz.underlying3 t0
  obtain⟨wd,g1,_,_⟩:=DataW.trod_int Tryz.underlying3 t1
  obtain⟨ro,g2,_,_⟩:=DataW.trod_int Tryz.underlying3 t2
  obtain⟨qu,g3,_,_⟩:=DataW.trod_int Tryz.underlying3 t3
  obtain⟨st,g4,_,_⟩:=DataW.trod_int Tryz.underlying3 t4
  obtain⟨sl,g5,_,_⟩:=DataW.trod_int Tryz.underlying3 t5
  obtain⟨se,g6,_,_⟩:=DataW.trod_int Tryz.underlying3 t6
  obtain⟨wa,g7,_,_⟩:=DataW.trod_int Tryz.underlying3 t7
  obtain⟨A,n,C,L,rfl,l1,l2,l3,l4,_,_⟩:=open_sl Tryz.underlying22 Tryz.underlying3 (by kernel_rfl) t8
  obtain⟨tb,g9,_⟩:=DataW.trod_bool Tryz.underlying4 t9
  obtain⟨A2,n2,C2,T,rfl,m1,m2,m3,m4,_,m5⟩:=open_sl Tryz.underlying23 Tryz.underlying28 (by kernel_rfl) t10
  simp at g0 g1 g2 g3 g4 g5 g6 g7 g9
  subst g0 g1 g2 g3 g4 g5 g6 g7 g9
  have hT:=mapU m5
  exact⟨⟨m,wd,ro,qu,st,sl,se,wa,L,tb,T.map U.of⟩,⟨A,n,C⟩,⟨A2,n2,C2⟩,rfl,l1,by rw[hT];exact m1,by show n≤_;omega,by show n2≤_;omega,l4,by rw[hT];exact m4⟩
theorem open_prog{H:Type}{enc:TypeId×Value→H}{w:World}{base b0:Nat}{spare:Nat→Bool}{held:Bool}{r:Reach}{v:Value}{d:DataW H}{p:List MemPlace}
 (hv:Value.okWide Tryz.prog w r b0 23 v) (h:DataW.Trod enc Tryz.prog w base spare held 23 v d p):
 ∃(A:Option Addr) (n C:Nat) (pr:List U),v= .slice A n C∧Sl u32C 1 w A (min n 64) pr∧Wf A n C:=by
 obtain⟨a0,len,cap,rfl⟩:=okWide_slice Tryz.underlying23 hv
 obtain⟨fuel,hf⟩:=h
 obtain⟨A,n,C,L,e,l1,l2,l3,l4,l5,l6⟩:=open_sl Tryz.underlying23 Tryz.underlying28 (by kernel_rfl) (c:=.slice a0 len cap) hf
 have hT:=mapU l6
 refine⟨A,n,C,(L.take 64).map U.of,e,?_,l5,l2,l3⟩
 have hl:((L.take 64).map U.of).length=min n 64:=by simp;omega
 have:=ofCnfU (w:=w) (A:=A) (L:=(L.take 64).map U.of) (by
  rw[List.map_take,List.map_take,hT]
  intro h0
  have hh:(L.take 64).length≤L.length:=by rw[List.length_take];omega
  obtain⟨b,off,e1,e2,e3⟩:=l4 (by omega)
  refine⟨b,off,e1,e2,fun j hj=>?_⟩
  rw[e3 j (by omega)]
  have:j<64:=by rw[List.length_take]at hj;omega
  simp[List.getD_eq_getElem?_getD,this]) (by omega)
 rw[hl]at this
 exact this
theorem own:ownKnob Tryz.prog.godebug=none:=by kernel_rfl
theorem laidOut:laidOutB Tryz.prog=true:=by kernel_rfl
def laid1:List (String×DataW Unit):=[("auspex/inst.codes",Rows.laid_auspex_inst_codes)]
theorem gCodes:Tryz.prog.globalNamed "auspex/inst.codes" = some 0:=by kernel_rfl
theorem of_laid{W:World}(h:laidMetH Tryz.prog laid1 W):TabC W:=by
 rw[MakeChecks.laidMetH_plain _ _ _ (by kernel_rfl)]at h
 have h1:Lib.TabIs Tryz.prog W "auspex/inst.codes" .u32 codes:=Lib.tabIs_of_head (e:=28) (n:=49) gCodes (by kernel_rfl) Tryz.underlying192 Tryz.underlying28 (by kernel_rfl) (by kernel_rfl) h
 have hc:=fun j hj=>Lib.TabIs.cell h1 gCodes j hj
 exact⟨World.block_lt_of_cell? W _ (hc 0 (by decide)),fun j hj=>hc j hj⟩
theorem door_met(os:Os)(args:Array Value):laidMetH Tryz.prog laid1 ((World.doorLaid Tryz.prog 24 os).forCall (fun _ _=>0) ⟨#[],args,[]⟩).memory:=
 laidMetH_of_parts3 (fuel:=8) (laidMet_of_run' 8 (by kernel_rfl) (by kernel_rfl)) (by kernel_rfl) (by kernel_rfl)
end
end Go.Proofs.YtdmhfogegfmnfaaGreatDoor
