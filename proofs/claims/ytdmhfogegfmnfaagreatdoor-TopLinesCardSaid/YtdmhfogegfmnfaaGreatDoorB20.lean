/- Contracts: what guesses. Conditions: its slices read as lists. Contracts: what the reference says of memory below the bus. Conditions: the requests, the stores read as lists. Contracts: what the reference says of memory with stores written over it, byte by byte. Conditions: the stores, the requests read as lists. Contracts: a memory as it may be. No conditions but that it .. -/
import Derived.Test.YtdmhfogegfmnfaaGreatDoorB01
import Derived.Test.YtdmhfogegfmnfaaGreatDoorB04
import Derived.Test.YtdmhfogegfmnfaaGreatDoorB07
import Derived.Test.YtdmhfogegfmnfaaGreatDoorB10
import Derived.Test.YtdmhfogegfmnfaaGreatDoorB12
import Derived.Test.YtdmhfogegfmnfaaGreatDoorB14
import Derived.Test.YtdmhfogegfmnfaaGreatDoorB18
import Derived.Test.YtdmhfogegfmnfaaGreatDoorB19
set_option maxRecDepth 100000
set_option maxHeartbeats 4000000
set_option linter.unusedVariables false
set_option linter.unusedSimpArgs false
namespace Go.Proofs.YtdmhfogegfmnfaaGreatDoor
open Go.RowKit
structure Gc where
 slots:Sv
 history:U
 returns:Sv
def guC(g:Gc):Array Value:=#[.slice g.slots.a g.slots.n g.slots.c,.int .u32 g.history.v,.slice g.returns.a g.returns.n g.returns.c]
def guZ:Gc:=⟨⟨none,0,0⟩,U.of 0,⟨none,0,0⟩⟩
theorem one37:OneT 37:=⟨_,Tryz.underlying37,rfl⟩
theorem zero39(w:World):(zeroValue 39).run Tryz.prog w= .ok (.agg (guC guZ)) w:=by kernel_rfl
@[go_sem] theorem guC_size(g:Gc):(guC g).size=3:=(rfl)
theorem guC_ones(g:Gc):Ones (guC g):=(rfl)
@[go_sem] theorem guC_0(g:Gc):(guC g)[0]?=some (.slice g.slots.a g.slots.n g.slots.c):=(rfl)
@[go_sem] theorem guC_1(g:Gc):(guC g)[1]?=some (.int .u32 g.history.v):=(rfl)
@[go_sem] theorem guC_2(g:Gc):(guC g)[2]?=some (.slice g.returns.a g.returns.n g.returns.c):=(rfl)
theorem cel155:Cel 155 2:=by unfold Cel;kernel_rfl
theorem slT37:SlT 37 155 2:=⟨Tryz.underlying37,.agg (skC skZ),by kernel_rfl,by kernel_rfl,by decide⟩
structure GuR(w:World)(s:Gc)(g:Gu):Prop where
 hist:s.history=g.history
 sl:Sl skC 2 w s.slots.a s.slots.n g.slots
 wf:Wf s.slots.a s.slots.n s.slots.c
 rl:Sl u32C 1 w s.returns.a s.returns.n g.returns
 rw:Wf s.returns.a s.returns.n s.returns.c
theorem GuR.below{w w':World}{s:Gc}{g:Gu}(h:GuR w s g)(hb:Below w.heap.size w w'):GuR w' s g:=⟨h.hist,h.sl.below hb,h.wf,h.rl.below hb,h.rw⟩
def GuP(o:Option Gc)(P:Gu→Prop)(w:World)(e:Ending)(w':World):Prop:=∃(s:Gc) (g:Gu),e= .returned (.agg (guC s))∧GuR w' s g∧P g∧(o=some s∨((∀ p,s.slots.a=some p→w.heap.size≤p.block)∧(∀ p,s.returns.a=some p→w.heap.size≤p.block)))∧Below w.heap.size w w'
theorem newg_any(w:World):Calls Tryz.prog 18 #[] w (GuP none (fun g=>g=newG) w):=by
 have H:=Lo.start w
 go_enter Tryz.func18,Tryz.ntmps18
 go_wp2_with (first|((with_reducible refine gD (Op.makeSlice 37 _ _) ?_);refine full_sl (α:=Sk) (lay:=skC) slT37 skZ (by kernel_rfl) skC_size rfl _ _ rfl w.heap.size .i64 .i64 8 8 8 rfl rfl rfl rfl (by decide) H.bl.size ?_;intro v1 w1 h1 e1 g1;clear e1;replace H:=H.grown g1 (fun r hr=>by cases hr);obtain⟨Ag,Cg,rfl,q1,q2,q3⟩:=h1.sl2 skC_size;rw[List.length_replicate]at h1 q1 q2 ⊢;have HO:=h1;clear h1 g1 q1;try simp only[Act.put,xA,xB,xC,fR])|((with_reducible refine gS 39 0 ?_);refine st_Lslw rfl cel39 _ _ _ H _ _ rfl rfl (guC ⟨⟨Ag,8,Cg⟩,U.of 0,⟨none,0,0⟩⟩) rfl rfl (guC_ones _) rfl ?_;intro w1 ho1 H1;have HO1:=ow_off HO (fun r hr=>(ow_apart H HO (by intro x hx;simp at hx;rcases hx with rfl;simp) (Nat.le_refl _) r hr).2 _ mm0) ho1;clear HO H;have H:=H1;have HO:=HO1;clear H1 HO1;try simp only[Act.put,xA,xB,xC,fR])|((with_reducible refine gAl 39 ?_);refine st_Lal rfl (guC guZ) zero39 H rfl ?_;clear H;intro w1 b0 hlt1 hb1 H;go_frame))
 apply ret_row row39 rfl _ (guC ⟨⟨Ag,8,Cg⟩,U.of 0,⟨none,0,0⟩⟩) rfl (guC_size _) (t:=39) (fr:=(0,0)) (hd:=rfl) (hg:=H.row mm0)
 exact⟨_,newG,rfl,⟨rfl,(HO.slv skC_size).1,q2,Sl.none_ _,Wf.zero⟩,rfl,.inr ⟨q3,fun p hp=>by cases hp⟩,H.bl⟩
theorem rightg_any(s:Gc)(g:Gu)(w:World)(h:GuR w s g):Calls Tryz.prog 38 #[.agg (guC s)] w fun e w'=>e= .returned (.bool (rightG g))∧Below w.heap.size w w':=by
 have H:=Lo.start w
 have e1:=h.hist
 have n1:=h.sl.len
 have n2:=h.rl.len
 have f1:=h.sl.few
 have f2:=h.rl.few
 have EE:=Lib.hid (show rightG g=(decide (s.slots.n=8)&&decide (s.history.v<8)&&decide (s.returns.n≤4)) by unfold rightG;rw[n1,n2,e1])
 clear h e1 n1 n2
 go_enter Tryz.func38,Tryz.ntmps38
 go_wp2_with (first|((with_reducible refine gBx 39 0 ?_);refine st_Lbox rfl _ H _ rfl rfl ?_;clear H;intro w1 b1 H;go_frame)|((with_reducible refine gL 37 3 ?_);refine st_Lll1 rfl one37 H _ rfl _ 0 rfl _ _ mm0 _ (guC_0 _) ?_;go_frame)|((with_reducible refine gL 28 8 ?_);refine sTj rfl ?_;refine wp_Lll1 one28 H _ rfl _ 1 rfl _ _ mm0 _ (guC_1 _) ?_;go_frame)|((with_reducible refine gL 23 13 ?_);refine wpList_step (fun K hK=>?_);first|(rw[if_pos (show Region.wanted _ _=true from rfl)];refine wp_Lll1 one23 H _ rfl _ 2 rfl _ _ mm0 _ (guC_2 _) ?_;refine hK _ _ ?_;clear hK K;go_frame)|(rw[if_neg (show ¬ Region.wanted _ _=true from(fun h=>Bool.noConfusion h))];refine hK _ _ ?_;clear hK K;go_frame)))
 all_goals
  go_ret
  refine⟨ret_b ?_,H.bl⟩
  rw[EE.out]
  rw[Bool.eq_iff_iff]
  simp only[Bool.and_eq_true,decide_eq_true_eq,Bool.false_eq_true,false_iff]
  omega
def slotN(h pc:U):Nat:=(bits .xor .u32 (pc.v / 4) h.v % 8).toNat
theorem slotN_lt(h pc:U):slotN h pc<8:=by
 have hb:=xor_bd (pc.v / 4) h.v (by have:=pc.lo;omega) (by have:=pc.hi;omega) h.lo h.hi
 unfold slotN
 omega
theorem slotof_any(s:Gc)(pc:U)(w:World):Calls Tryz.prog 90 #[.agg (guC s),.int .u32 pc.v] w fun e w'=>e= .returned (.int .i64 (slotN s.history pc:Int))∧Below w.heap.size w w':=by
 have H:=Lo.start w
 have x0:=pc.lo
 have x1:=pc.hi
 have y0:=s.history.lo
 have y1:=s.history.hi
 obtain⟨q,hq⟩:∃ q,slotN s.history pc=q:=⟨_,rfl⟩
 rw[hq]
 have HQ:=Lib.hid hq
 clear hq
 go_enter Tryz.func90,Tryz.ntmps90
 go_wp2_with (first|((with_reducible refine gBx 39 0 ?_);refine st_Lbox rfl _ H _ rfl rfl ?_;clear H;intro w1 b1 H;go_frame)|((with_reducible refine gL 28 7 ?_);refine st_Lll1 rfl one28 H _ rfl _ 1 rfl _ _ mm0 _ (guC_1 _) ?_;go_frame))
 go_ret
 have hq:=HQ.out
 unfold slotN at hq
 obtain⟨X,hX⟩:∃ X,bits BinOp.xor IntKind.u32 (pc.v / 4) s.history.v=X:=⟨_,rfl⟩
 have hb:=xor_bd (pc.v / 4) s.history.v (by omega) (by omega) y0 y1
 rw[hX]at hb hq ⊢
 rw[Int.tmod_eq_emod_of_nonneg hb.1]
 refine⟨?_,H.bl⟩
 rw[show wrap64 (X % 8)=X % 8 by unfold wrap64;omega,show X % 8=(q:Int) by omega]
 rfl
theorem nextg_any(s:Gc)(g:Gu)(pc:U)(i:In)(w:World)(h:GuR w s g):Calls Tryz.prog 102 #[.agg (guC s),.int .u32 pc.v,.agg (inC i)] w fun e w'=>(∃ x:U,e= .returned (.int .u32 x.v))∧Below w.heap.size w w':=by
 have H:=Lo.start w
 have HG:=Lib.hid h
 have p2:(pc.v+4) % 4294967296=(addU pc 4).v:=rfl
 cases hr:rightG g with
 | false=>
  have RG:=Lib.hid (fun W h'=>rightg_any s g W h')
  rw[hr]at RG
  clear hr h
  go_enter Tryz.func102,Tryz.ntmps102
  go_wp2_with (first|(go_at_call 38;refine(RG.out _ (HG.out.below H.bl)).mono ?_;rintro r w1 ⟨rfl,hb⟩;replace H:=H.below hb)|((with_reducible refine gBx 39 0 ?_);refine st_Lbox rfl _ H _ rfl rfl ?_;clear H;intro w1 b1 H;go_frame)|((with_reducible refine gBx 83 2 ?_);refine st_Lbox rfl _ H _ rfl rfl ?_;clear H;intro w1 b1 H;go_frame)|((with_reducible refine gL 39 3 ?_);refine st_Lllr rfl row39 H _ rfl _ 0 rfl _ _ mm1 _ rfl (Sub.all _) ?_;go_frame)|((with_reducible refine gL 83 5 ?_);refine sKp rfl ?_;go_frame))
  go_ret
  exact⟨⟨addU pc 4,by rw[p2];rfl⟩,H.bl⟩
 | true=>
  obtain⟨⟨sa,sn,sc⟩,hist,⟨ra,rn,rc⟩⟩:=s
  have RG:=Lib.hid (fun W h'=>rightg_any ⟨⟨sa,sn,sc⟩,hist,⟨ra,rn,rc⟩⟩ g W h')
  rw[hr]at RG
  unfold rightG at hr
  simp only[Bool.and_eq_true,decide_eq_true_eq]at hr
  obtain⟨⟨n8,_⟩,n4⟩:=hr
  have l1:g.slots.length=sn:=h.sl.len
  have l2:g.returns.length=rn:=h.rl.len
  have hn8:sn=8:=by omega
  have hn4:rn≤4:=by omega
  subst hn8
  by_cases hk:kd i.op=5
  ·have d1:(kd i.op != 5)=false:=by rw[hk];rfl
   have hlt:=slotN_lt hist pc
   obtain⟨gs,os,y,e0,hg,hy,hc⟩:=h.sl.at_ (i:=slotN hist pc) hlt
   dsimp only at e0
   subst e0
   have HC:=Lib.hid hc
   have HGS:=Lib.hid hg
   have b1:(0:Int)≤(slotN hist pc:Int):=by omega
   have b2:(slotN hist pc:Int)<8:=by omega
   rcases Nat.eq_zero_or_pos rn with e|e
   ·subst e
    clear hk h n8 n4 l1 l2 hy hc hg
    go_enter Tryz.func102,Tryz.ntmps102
    go_wp2_with (first|(go_at_call 38;refine(RG.out _ (HG.out.below H.bl)).mono ?_;rintro r w1 ⟨rfl,hb⟩;replace H:=H.below hb)|(go_at_call 52;refine(kind_any _ _ _ _ _ _).mono ?_;rintro r w1 ⟨rfl,hb⟩;replace H:=H.below hb)|(go_at_call 92;refine(back_any i _).mono ?_;rintro r w1 ⟨⟨yn,rfl⟩,hb⟩;replace H:=H.below hb)|((with_reducible refine gBx 39 0 ?_);refine st_Lbox rfl _ H _ rfl rfl ?_;clear H;intro w1 b1 H;go_frame)|((with_reducible refine gBx 83 2 ?_);refine st_Lbox rfl _ H _ rfl rfl ?_;clear H;intro w1 b1 H;go_frame)|((with_reducible refine gL 39 3 ?_);refine st_Lllr rfl row39 H _ rfl _ 0 rfl _ _ mm1 _ rfl (Sub.all _) ?_;go_frame)|((with_reducible refine gL 83 5 ?_);refine sTj rfl ?_;refine wp_Lllr row83 H _ rfl _ 0 rfl _ _ mm0 _ rfl (Sub.all _) ?_;go_frame)|((with_reducible refine gL 23 19 ?_);refine st_Lll1 rfl one23 H _ rfl _ 2 rfl _ _ mm1 _ (guC_2 _) ?_;go_frame))
    all_goals
     cases d3:(y.pc.v== pc.v)
     all_goals
      go_wp2_with fail
      try refine only_normal ?_
      refine beginL 8 (l0:=zz9) H (by kernel_rfl) ?_ (by kernel_rfl);intro H1;clear H;revert H1
      apply meet2
      ·intro rest H
       refine tP 0 34 H ?_;go_frame
       refine tC 1 35 rfl (by kernel_rfl) iQ (by(exact yields_one one37 rfl _ rfl _ rfl _ (fun w h=>(h.lcell mm1 0).trans (guC_0 _)))) H ?_;go_frame
       refine tC 2 36 rfl (by kernel_rfl) iQ (by(exact yields_row row39 rfl _ rfl _ _ rfl _ rfl (fun w h j v hj=>(h.lcell mm1 _).trans (Sub.all _ j v hj)))) H ?_;go_frame
       refine tP 3 37 H ?_;go_frame
       refine twoC (i:=4) (j:=7) (oi:=⟨some 38,_,_,_,_,_⟩) (oj:=⟨some 8,_,_,_,_,_⟩) rfl rfl (by kernel_rfl) (fun K hK=>?_) (fun K hK=>?_)
       ·refine step_fn rfl _ _ _ (slotof_any ⟨⟨some ⟨gs,os,none⟩,8,sc⟩,hist,⟨ra,0,rc⟩⟩ pc _) (by go_simp<;>rfl) ?_;rintro r w1 ⟨rfl,hb⟩;refine⟨_,rfl,?_⟩;replace H:=H.below hb
        refine hK.out _ _ (fun _=>H) ?_;clear hK K;go_frame
        refine tP 5 39 H ?_;go_frame
        refine tC 6 40 rfl (by kernel_rfl) iQ (by exact yields_row row155 rfl _ rfl gs (os+slotN hist pc*2) rfl (skC y) rfl (fun w' h j v hv=>(h.bl.cell (p:=⟨gs,_,none⟩) HGS.out).trans (HC.out j v hv))) H ?_;go_frame
        refine o1C 7 8 (fun K hK=>?_)
        refine step_Lal rfl (skC skZ) zero155 H rfl ?_;clear H;intro w1 b8 hlt1 hb1 H
        refine hK.out _ _ (fun _=>H.drop) ?_;clear hK K;go_frame
        exact rest w1 b8 H
       ·refine step_Lal rfl (skC skZ) zero155 H rfl ?_;clear H;intro w1 b8 hlt1 hb1 H
        refine hK.out _ _ (fun _=>H.drop) ?_;clear hK K;go_frame
        refine o1C 4 38 (fun K hK=>?_)
        refine step_fn rfl _ _ _ (slotof_any ⟨⟨some ⟨gs,os,none⟩,8,sc⟩,hist,⟨ra,0,rc⟩⟩ pc _) (by go_simp<;>rfl) ?_;rintro r w1 ⟨rfl,hb⟩;refine⟨_,rfl,?_⟩;replace H:=H.below hb
        refine hK.out _ _ (fun _=>H.drop) ?_;clear hK K;go_frame
        refine tP 5 39 H.drop ?_;go_frame
        refine tC 6 40 rfl (by kernel_rfl) iQ (by exact yields_row row155 rfl _ rfl gs (os+slotN hist pc*2) rfl (skC y) rfl (fun w' h j v hv=>(h.bl.cell (p:=⟨gs,_,none⟩) HGS.out).trans (HC.out j v hv))) H.drop ?_;go_frame
        exact rest w1 b8 H
      intro w1 b8 H
      refine o1N 8 (fun K hK=>?_)
      refine step_LslI rfl cel155 0 _ _ _ H rfl _ _ rfl 0 rfl _ rfl rfl rfl (Nat.le_of_ble_eq_true rfl) (skC y) rfl rfl ?_;intro w1 ho1 H1;try simp only[xB,xC]at H1;clear H;have H:=H1;clear H1
      refine hK.out _ _ (aB rfl) ?_;clear hK K;go_frame
      refine dnC ?_ _
     ·go_wp2_with (first|((with_reducible refine gL 28 41 ?_);refine st_Lll1 rfl one28 H _ rfl _ 0 rfl _ _ mm0 _ (skC_0 _) ?_;go_frame)|((with_reducible refine gL 155 8 ?_);refine sKp rfl ?_;go_frame))
      go_ret
      exact⟨⟨addU pc 4,by rw[p2];rfl⟩,H.bl⟩
     ·go_wp2_with (first|((with_reducible refine gL 28 41 ?_);refine st_Lll1 rfl one28 H _ rfl _ 0 rfl _ _ mm0 _ (skC_0 _) ?_;go_frame)|((with_reducible refine gL 155 8 ?_);refine sTj rfl ?_;refine wp_Lllr row155 H _ rfl _ 0 rfl _ _ mm0 _ rfl (Sub.all _) ?_;go_frame)|((with_reducible refine gL 28 50 ?_);refine st_Lll1 rfl one28 H _ rfl _ 1 rfl _ _ mm0 _ (skC_1 _) ?_;go_frame))
      all_goals first|(go_ret;exact⟨⟨y.next,rfl⟩,H.bl⟩)|(go_ret;exact⟨⟨addU pc 4,by rw[p2];rfl⟩,H.bl⟩)
   ·obtain⟨j,rfl⟩:∃ j,rn=j+1:=⟨rn-1,by omega⟩
    obtain⟨gr,or_,z,e0,hg2,hz,hcz⟩:=h.rl.at_ (i:=j) (by show j<j+1;omega)
    dsimp only at e0
    subst e0
    have c0:w.cell? ⟨gr,or_+j,none⟩=some (.int .u32 z.v):=by have:=hcz 0 (.int .u32 z.v) rfl;simpa using this
    have C0:=Lib.hid c0
    have HGR:=Lib.hid hg2
    have b3:IntKind.i64.wrap (j:Int)=(j:Int):=IntWalk.i64_in _ (by omega)
    have b4:(0:Int)≤(j:Int):=by omega
    have b5:(j:Int)<((j+1:Nat):Int):=by omega
    have b6:(0:Int)<((j+1:Nat):Int):=by omega
    clear hk h n8 n4 l1 l2 hy hc hg hg2 hz hcz c0
    go_enter Tryz.func102,Tryz.ntmps102
    go_wp2_with (first|(go_at_call 38;refine(RG.out _ (HG.out.below H.bl)).mono ?_;rintro r w1 ⟨rfl,hb⟩;replace H:=H.below hb)|(go_at_call 52;refine(kind_any _ _ _ _ _ _).mono ?_;rintro r w1 ⟨rfl,hb⟩;replace H:=H.below hb)|(go_at_call 92;refine(back_any i _).mono ?_;rintro r w1 ⟨⟨yn,rfl⟩,hb⟩;replace H:=H.below hb)|((with_reducible refine gL 28 32 ?_);refine st_lone rfl one28 _ rfl ⟨gr,or_+j,none⟩ rfl _ ((H.bl.cell (p:=⟨gr,_,none⟩) HGR.out).trans C0.out) ?_;try simp only[Act.put,xA,xB,xC,fR])|((with_reducible refine gBx 39 0 ?_);refine st_Lbox rfl _ H _ rfl rfl ?_;clear H;intro w1 b1 H;go_frame)|((with_reducible refine gBx 83 2 ?_);refine st_Lbox rfl _ H _ rfl rfl ?_;clear H;intro w1 b1 H;go_frame)|((with_reducible refine gL 39 3 ?_);refine st_Lllr rfl row39 H _ rfl _ 0 rfl _ _ mm1 _ rfl (Sub.all _) ?_;go_frame)|((with_reducible refine gL 83 5 ?_);refine sTj rfl ?_;refine wp_Lllr row83 H _ rfl _ 0 rfl _ _ mm0 _ rfl (Sub.all _) ?_;go_frame)|((with_reducible refine gL 23 19 ?_);refine st_Lll1 rfl one23 H _ rfl _ 2 rfl _ _ mm1 _ (guC_2 _) ?_;go_frame)|((with_reducible refine gL 23 28 ?_);refine st_Lll1 rfl one23 H _ rfl _ 2 rfl _ _ mm1 _ (guC_2 _) ?_;go_frame))
    ·go_ret
     exact⟨⟨z,rfl⟩,H.bl⟩
    ·cases d3:(y.pc.v== pc.v)with
     | false=>
      go_wp2_with fail
      try refine only_normal ?_
      refine beginL 8 (l0:=zz9) H (by kernel_rfl) ?_ (by kernel_rfl);intro H1;clear H;revert H1
      apply meet2
      ·intro rest H
       refine tP 0 34 H ?_;go_frame
       refine tC 1 35 rfl (by kernel_rfl) iQ (by(exact yields_one one37 rfl _ rfl _ rfl _ (fun w h=>(h.lcell mm1 0).trans (guC_0 _)))) H ?_;go_frame
       refine tC 2 36 rfl (by kernel_rfl) iQ (by(exact yields_row row39 rfl _ rfl _ _ rfl _ rfl (fun w h j v hj=>(h.lcell mm1 _).trans (Sub.all _ j v hj)))) H ?_;go_frame
       refine tP 3 37 H ?_;go_frame
       refine twoC (i:=4) (j:=7) (oi:=⟨some 38,_,_,_,_,_⟩) (oj:=⟨some 8,_,_,_,_,_⟩) rfl rfl (by kernel_rfl) (fun K hK=>?_) (fun K hK=>?_)
       ·refine step_fn rfl _ _ _ (slotof_any ⟨⟨some ⟨gs,os,none⟩,8,sc⟩,hist,⟨some ⟨gr,or_,none⟩,(j+1),rc⟩⟩ pc _) (by go_simp<;>rfl) ?_;rintro r w1 ⟨rfl,hb⟩;refine⟨_,rfl,?_⟩;replace H:=H.below hb
        refine hK.out _ _ (fun _=>H) ?_;clear hK K;go_frame
        refine tP 5 39 H ?_;go_frame
        refine tC 6 40 rfl (by kernel_rfl) iQ (by exact yields_row row155 rfl _ rfl gs (os+slotN hist pc*2) rfl (skC y) rfl (fun w' h j v hv=>(h.bl.cell (p:=⟨gs,_,none⟩) HGS.out).trans (HC.out j v hv))) H ?_;go_frame
        refine o1C 7 8 (fun K hK=>?_)
        refine step_Lal rfl (skC skZ) zero155 H rfl ?_;clear H;intro w1 b8 hlt1 hb1 H
        refine hK.out _ _ (fun _=>H.drop) ?_;clear hK K;go_frame
        exact rest w1 b8 H
       ·refine step_Lal rfl (skC skZ) zero155 H rfl ?_;clear H;intro w1 b8 hlt1 hb1 H
        refine hK.out _ _ (fun _=>H.drop) ?_;clear hK K;go_frame
        refine o1C 4 38 (fun K hK=>?_)
        refine step_fn rfl _ _ _ (slotof_any ⟨⟨some ⟨gs,os,none⟩,8,sc⟩,hist,⟨some ⟨gr,or_,none⟩,(j+1),rc⟩⟩ pc _) (by go_simp<;>rfl) ?_;rintro r w1 ⟨rfl,hb⟩;refine⟨_,rfl,?_⟩;replace H:=H.below hb
        refine hK.out _ _ (fun _=>H.drop) ?_;clear hK K;go_frame
        refine tP 5 39 H.drop ?_;go_frame
        refine tC 6 40 rfl (by kernel_rfl) iQ (by exact yields_row row155 rfl _ rfl gs (os+slotN hist pc*2) rfl (skC y) rfl (fun w' h j v hv=>(h.bl.cell (p:=⟨gs,_,none⟩) HGS.out).trans (HC.out j v hv))) H.drop ?_;go_frame
        exact rest w1 b8 H
      intro w1 b8 H
      refine o1N 8 (fun K hK=>?_)
      refine step_LslI rfl cel155 0 _ _ _ H rfl _ _ rfl 0 rfl _ rfl rfl rfl (Nat.le_of_ble_eq_true rfl) (skC y) rfl rfl ?_;intro w1 ho1 H1;try simp only[xB,xC]at H1;clear H;have H:=H1;clear H1
      refine hK.out _ _ (aB rfl) ?_;clear hK K;go_frame
      refine dnC ?_ _
      go_wp2_with (first|((with_reducible refine gL 28 41 ?_);refine st_Lll1 rfl one28 H _ rfl _ 0 rfl _ _ mm0 _ (skC_0 _) ?_;go_frame)|((with_reducible refine gL 155 8 ?_);refine sKp rfl ?_;go_frame))
      go_ret
      exact⟨⟨addU pc 4,by rw[p2];rfl⟩,H.bl⟩
     | true=>
      go_wp2_with fail
      try refine only_normal ?_
      refine beginL 8 (l0:=zz9) H (by kernel_rfl) ?_ (by kernel_rfl);intro H1;clear H;revert H1
      apply meet2
      ·intro rest H
       refine tP 0 34 H ?_;go_frame
       refine tC 1 35 rfl (by kernel_rfl) iQ (by(exact yields_one one37 rfl _ rfl _ rfl _ (fun w h=>(h.lcell mm1 0).trans (guC_0 _)))) H ?_;go_frame
       refine tC 2 36 rfl (by kernel_rfl) iQ (by(exact yields_row row39 rfl _ rfl _ _ rfl _ rfl (fun w h j v hj=>(h.lcell mm1 _).trans (Sub.all _ j v hj)))) H ?_;go_frame
       refine tP 3 37 H ?_;go_frame
       refine twoC (i:=4) (j:=7) (oi:=⟨some 38,_,_,_,_,_⟩) (oj:=⟨some 8,_,_,_,_,_⟩) rfl rfl (by kernel_rfl) (fun K hK=>?_) (fun K hK=>?_)
       ·refine step_fn rfl _ _ _ (slotof_any ⟨⟨some ⟨gs,os,none⟩,8,sc⟩,hist,⟨some ⟨gr,or_,none⟩,(j+1),rc⟩⟩ pc _) (by go_simp<;>rfl) ?_;rintro r w1 ⟨rfl,hb⟩;refine⟨_,rfl,?_⟩;replace H:=H.below hb
        refine hK.out _ _ (fun _=>H) ?_;clear hK K;go_frame
        refine tP 5 39 H ?_;go_frame
        refine tC 6 40 rfl (by kernel_rfl) iQ (by exact yields_row row155 rfl _ rfl gs (os+slotN hist pc*2) rfl (skC y) rfl (fun w' h j v hv=>(h.bl.cell (p:=⟨gs,_,none⟩) HGS.out).trans (HC.out j v hv))) H ?_;go_frame
        refine o1C 7 8 (fun K hK=>?_)
        refine step_Lal rfl (skC skZ) zero155 H rfl ?_;clear H;intro w1 b8 hlt1 hb1 H
        refine hK.out _ _ (fun _=>H.drop) ?_;clear hK K;go_frame
        exact rest w1 b8 H
       ·refine step_Lal rfl (skC skZ) zero155 H rfl ?_;clear H;intro w1 b8 hlt1 hb1 H
        refine hK.out _ _ (fun _=>H.drop) ?_;clear hK K;go_frame
        refine o1C 4 38 (fun K hK=>?_)
        refine step_fn rfl _ _ _ (slotof_any ⟨⟨some ⟨gs,os,none⟩,8,sc⟩,hist,⟨some ⟨gr,or_,none⟩,(j+1),rc⟩⟩ pc _) (by go_simp<;>rfl) ?_;rintro r w1 ⟨rfl,hb⟩;refine⟨_,rfl,?_⟩;replace H:=H.below hb
        refine hK.out _ _ (fun _=>H.drop) ?_;clear hK K;go_frame
        refine tP 5 39 H.drop ?_;go_frame
        refine tC 6 40 rfl (by kernel_rfl) iQ (by exact yields_row row155 rfl _ rfl gs (os+slotN hist pc*2) rfl (skC y) rfl (fun w' h j v hv=>(h.bl.cell (p:=⟨gs,_,none⟩) HGS.out).trans (HC.out j v hv))) H.drop ?_;go_frame
        exact rest w1 b8 H
      intro w1 b8 H
      refine o1N 8 (fun K hK=>?_)
      refine step_LslI rfl cel155 0 _ _ _ H rfl _ _ rfl 0 rfl _ rfl rfl rfl (Nat.le_of_ble_eq_true rfl) (skC y) rfl rfl ?_;intro w1 ho1 H1;try simp only[xB,xC]at H1;clear H;have H:=H1;clear H1
      refine hK.out _ _ (aB rfl) ?_;clear hK K;go_frame
      refine dnC ?_ _
      go_wp2_with (first|((with_reducible refine gL 28 41 ?_);refine st_Lll1 rfl one28 H _ rfl _ 0 rfl _ _ mm0 _ (skC_0 _) ?_;go_frame)|((with_reducible refine gL 155 8 ?_);refine sTj rfl ?_;refine wp_Lllr row155 H _ rfl _ 0 rfl _ _ mm0 _ rfl (Sub.all _) ?_;go_frame)|((with_reducible refine gL 28 50 ?_);refine st_Lll1 rfl one28 H _ rfl _ 1 rfl _ _ mm0 _ (skC_1 _) ?_;go_frame))
      all_goals first|(go_ret;exact⟨⟨y.next,rfl⟩,H.bl⟩)|(go_ret;exact⟨⟨addU pc 4,by rw[p2];rfl⟩,H.bl⟩)
  ·have d1:(kd i.op != 5)=true:=by rw[bne_iff_ne];exact hk
   clear hk h n8 n4 l1 l2
   go_enter Tryz.func102,Tryz.ntmps102
   go_wp2_with (first|(go_at_call 38;refine(RG.out _ (HG.out.below H.bl)).mono ?_;rintro r w1 ⟨rfl,hb⟩;replace H:=H.below hb)|(go_at_call 52;refine(kind_any _ _ _ _ _ _).mono ?_;rintro r w1 ⟨rfl,hb⟩;replace H:=H.below hb)|((with_reducible refine gBx 39 0 ?_);refine st_Lbox rfl _ H _ rfl rfl ?_;clear H;intro w1 b1 H;go_frame)|((with_reducible refine gBx 83 2 ?_);refine st_Lbox rfl _ H _ rfl rfl ?_;clear H;intro w1 b1 H;go_frame)|((with_reducible refine gL 39 3 ?_);refine st_Lllr rfl row39 H _ rfl _ 0 rfl _ _ mm1 _ rfl (Sub.all _) ?_;go_frame)|((with_reducible refine gL 83 5 ?_);refine sTj rfl ?_;refine wp_Lllr row83 H _ rfl _ 0 rfl _ _ mm0 _ rfl (Sub.all _) ?_;go_frame))
   go_ret
   exact⟨⟨addU pc 4,by rw[p2];rfl⟩,H.bl⟩
theorem rline_any(a:U)(w:World):Calls Tryz.prog 33 #[.int .u32 a.v] w fun e w'=>e= .returned (.int .u32 (lineU a).v)∧w=w':=by
 have x0:=a.lo
 have x1:=a.hi
 have e:(lineU a).v=a.v-a.v % 16:=by show(a.v-a.v % 16) % 4294967296=_;omega
 have E:=Lib.hid e
 clear e
 go_enter Tryz.func33,Tryz.ntmps33
 go_wp2
 go_ret
 exact⟨ret_u E.out.symm,rfl⟩
theorem rwrites_any(A:Option Addr)(n C:Nat)(L:List Rq)(w:World)(hL:Sl rqC 4 w A n L):Calls Tryz.prog 32 #[.slice A n C] w (OwP ptC 2 89 (writesQ L) w):=by
 have hn:=hL.few
 have HL:=Lib.hid hL
 clear hL
 go_enter Tryz.func32,Tryz.ntmps32
 go_wp2
 go_loopw [3,9] (fun v i wr=>∃(k:Nat),k≤n∧i= .int .i64 k∧Hid (Ow ptC 2 wr w.heap.size 89 v (writesQ (L.take k)))∧Below w.heap.size w wr) (fun _ i _=>n-(intOf i).toNat)
 case atStart=>exact⟨0,by omega,rfl,Lib.hid ⟨⟨by simp[flat,writesQ],.inr ⟨w.heap.size,0,#[],rfl,Nat.le_refl _,heap_alloc_new _ _,by simp[writesQ],by decide,rfl,by simp[writesQ,flat]⟩⟩,by simp[writesQ]⟩,by(repeat(first|exact Below.refl _ _|(refine Below.alloc ?_ ?_ _;rotate_left;(omega))))⟩
 case round=>
  obtain⟨k,hk,rfl,HG,HB⟩:=hrel
  have hBs:=HB.size
  by_cases hlt:k<n
  ·obtain⟨g,off,y,rfl,hg,hy,hc⟩:=(HL.out.below HB).at_ hlt
   have HY:=Lib.hid hy
   have HC:=Lib.hid hc
   clear hy hc
   by_cases hq:y.kind=4
   ·have HQ:=Lib.hid hq
    have hb:(y.kind== 4)=true:=by rw[hq];rfl
    have HLN:=Lib.hid (show(writesQ (L.take k)).length+1≤1000000 by
     have h1:=writes_len (L.take k)
     have h2:(L.take k).length≤k:=by rw[List.length_take];omega
     omega)
    clear hq
    go_wp2_with (first|((with_reducible refine gAl 98 ?_);refine alloc_row (rqC rqZ) zero98 rfl rfl ?_;try simp only[Act.put,xA,xB,xC,fR])|((with_reducible refine gD (Op.store 98 _ _) ?_);apply store_row row98 rfl _ _ rfl _ (rqC _) rfl rfl (rqC_size _) (rqC_ones _) (t:=98) (old:=rqC _) (h2:=rqC_size _);(·(repeat((refine heap_at _ _ _ ?_;(with_reducible rfl)))));try simp only[Act.put,xA,xB,xC,fR];try simp (disch:=(first|with_reducible rfl|fail)) only[more_row,alloc_row_past,alloc_row_at,drew_row,drewN_row])|((with_reducible refine gD (Op.load 98 _) ?_);refine take_el row98 rfl _ rfl g (off+k*4) rfl y (rqC_size y) HC.out ?_;try simp only[Act.put,xA,xB,xC,fR])|(at_builtin;(refine app_sl slT32 ptC_size ptC_ones rfl _ _ rfl w.heap.size _ (writesQ (L.take k)) rfl (HG.out.below (by(repeat(first|exact Below.refl _ _|(refine Below.alloc ?_ ?_ _;rotate_left;(first|omega|(simp only[sZ]<;>omega))))))) (some ⟨wr.heap.size+1,0,none⟩) 1 1 [(⟨y.line,y.data⟩:Pt)] rfl (Sl.new (t:=89) (fr:=(0,0)) ptC_size (heap_at _ _ _ (by simp only[World.size_alloc])) (by simp)) (fun h=>by cases h) HLN.out (by simp only[World.size_alloc];omega) ?_);intro v3 w3 h3 g3;have HB3:=Lib.hid (bl_own ((HB.alloc (by omega) (.cells (rqC y) 98)).alloc (by simp only[World.size_alloc];omega) _) g3 (by simp only[World.size_alloc];omega) HG.out.row);have HO3:=Lib.hid h3;clear h3 g3;try simp only[Act.put,xA,xB,xC,fR]))
    go_roundw
    case rel=>exact⟨k+1,by omega,by go_num,Lib.hid (by rw[puts_take HY.out,if_pos HQ.out];exact HO3.out),HB3.out⟩
    case measure=>simp[intOf];omega
   ·have HQ:=Lib.hid hq
    have hb:(y.kind== 4)=false:=by rw[beq_eq_false_iff_ne];exact hq
    clear hq
    go_wp2_with (first|((with_reducible refine gAl 98 ?_);refine alloc_row (rqC rqZ) zero98 rfl rfl ?_;try simp only[Act.put,xA,xB,xC,fR])|((with_reducible refine gD (Op.store 98 _ _) ?_);apply store_row row98 rfl _ _ rfl _ (rqC _) rfl rfl (rqC_size _) (rqC_ones _) (t:=98) (old:=rqC _) (h2:=rqC_size _);(·(repeat((refine heap_at _ _ _ ?_;(with_reducible rfl)))));try simp only[Act.put,xA,xB,xC,fR];try simp (disch:=(first|with_reducible rfl|fail)) only[more_row,alloc_row_past,alloc_row_at,drew_row,drewN_row])|((with_reducible refine gD (Op.load 98 _) ?_);refine take_el row98 rfl _ rfl g (off+k*4) rfl y (rqC_size y) HC.out ?_;try simp only[Act.put,xA,xB,xC,fR]))
    go_roundw
    case rel=>exact⟨k+1,by omega,by go_num,Lib.hid (by rw[puts_take HY.out,if_neg HQ.out,List.append_nil];exact HG.out.below (by(repeat(first|exact Below.refl _ _|(refine Below.alloc ?_ ?_ _;rotate_left;(omega)))))),by(repeat(first|assumption|(refine Below.alloc ?_ ?_ _;rotate_left;(omega))))⟩
    case measure=>simp[intOf];omega
  ·have hkn:k=n:=by omega
   subst hkn
   have hfin:L.take k=L:=List.take_of_length_le (by rw[HL.out.len];exact Nat.le_refl _)
   rw[hfin]at HG
   clear hfin
   go_wp2
   go_ret
   exact⟨_,rfl,HG.out,HB⟩
def lastS(a:Int)(r:UInt8×Bool)(s:Pt):UInt8×Bool:=if 0≤a-s.addr.v∧a-s.addr.v<s.data.length then(s.data.getD (a-s.addr.v).toNat 0,true)else r
def lastB(L:List Pt)(a:Int):UInt8×Bool:=L.foldl (lastS a) (0,false)
theorem last_take{L:List Pt}{k:Nat}{y:Pt}(h:L[k]?=some y)(a:Int):lastB (L.take (k+1)) a=lastS a (lastB (L.take k) a) y:=by
 have hk:=(List.getElem?_eq_some_iff.1 h).1
 unfold lastB
 rw[List.take_succ_eq_append_getElem hk,List.foldl_append,(List.getElem?_eq_some_iff.1 h).2]
 rfl
theorem by_get(d:By)(k:Nat)(h:k<(bs d).size):(bs d)[k]'h=d.getD k 0:=by
 have h':k<d.length:=by rw[bs_size]at h;exact h
 rw[List.getD_eq_getElem?_getD,List.getElem?_eq_getElem h',Option.getD_some]
 rfl
theorem last_any(A:Option Addr)(n C:Nat)(L:List Pt)(a:Int)(ha0:0≤a)(ha1:a≤1000000)(w:World)(hL:Sl ptC 2 w A n L):Calls Tryz.prog 75 #[.slice A n C,.int .i64 a] w fun e w'=>e= .returned (.tuple #[.int .u8 ((lastB L a).1.toNat:Int),.bool (lastB L a).2])∧Below w.heap.size w w':=by
 have hn:=hL.few
 have HL:=Lib.hid hL
 clear hL
 go_enter Tryz.func75,Tryz.ntmps75
 go_wp2
 go_loopw [6,7,13] (fun o b i wr=>∃(k:Nat),k≤n∧i= .int .i64 k∧o= .int .u8 ((lastB (L.take k) a).1.toNat:Int)∧b= .bool (lastB (L.take k) a).2∧Below w.heap.size w wr) (fun _ _ i _=>n-(intOf i).toNat)
 case atStart=>exact⟨0,by omega,rfl,by simp[lastB],by simp[lastB],Below.refl _ _⟩
 case round=>
  obtain⟨k,hk,rfl,rfl,rfl,HB⟩:=hrel
  have hBs:=HB.size
  by_cases hlt:k<n
  ·obtain⟨g,off,y,rfl,hg,hy,hc⟩:=(HL.out.below HB).at_ hlt
   have HY:=Lib.hid hy
   have HC:=Lib.hid hc
   have x0:=y.addr.lo
   have x1:=y.addr.hi
   have hw:IntKind.i64.wrap (a-y.addr.v)=a-y.addr.v:=IntWalk.i64_in _ (by omega)
   clear hy hc
   by_cases c0:0≤a-y.addr.v
   ·by_cases c1:a-y.addr.v<(y.data.length:Int)
    all_goals
     go_wp2_with (first|((with_reducible refine gAl 89 ?_);refine alloc_row (ptC ptZ) zero89 rfl rfl ?_;try simp only[Act.put,xA,xB,xC,fR])|((with_reducible refine gD (Op.store 89 _ _) ?_);apply store_row row89 rfl _ _ rfl _ (ptC _) rfl rfl (ptC_size _) (ptC_ones _) (t:=89) (old:=ptC _) (h2:=ptC_size _);(·(repeat((refine heap_at _ _ _ ?_;(with_reducible rfl)))));try simp only[Act.put,xA,xB,xC,fR];try simp (disch:=(first|with_reducible rfl|fail)) only[more_row,alloc_row_past,alloc_row_at,drew_row,drewN_row])|((with_reducible refine gD (Op.load 89 _) ?_);refine take_el row89 rfl _ rfl g (off+k*2) rfl y (ptC_size y) HC.out ?_;try simp only[Act.put,xA,xB,xC,fR]))
    ·go_roundw
     case rel=>exact⟨k+1,by omega,by go_num,by rw[last_take HY.out];unfold lastS;rw[if_pos (by omega),by_get],by rw[last_take HY.out];unfold lastS;rw[if_pos (by omega)],by(repeat(first|assumption|(refine Below.alloc ?_ ?_ _;rotate_left;(omega))))⟩
     case measure=>simp[intOf];omega
    ·go_roundw
     case rel=>exact⟨k+1,by omega,by go_num,by rw[last_take HY.out];unfold lastS;rw[if_neg (by omega)],by rw[last_take HY.out];unfold lastS;rw[if_neg (by omega)],by(repeat(first|assumption|(refine Below.alloc ?_ ?_ _;rotate_left;(omega))))⟩
     case measure=>simp[intOf];omega
   ·go_wp2_with (first|((with_reducible refine gAl 89 ?_);refine alloc_row (ptC ptZ) zero89 rfl rfl ?_;try simp only[Act.put,xA,xB,xC,fR])|((with_reducible refine gD (Op.store 89 _ _) ?_);apply store_row row89 rfl _ _ rfl _ (ptC _) rfl rfl (ptC_size _) (ptC_ones _) (t:=89) (old:=ptC _) (h2:=ptC_size _);(·(repeat((refine heap_at _ _ _ ?_;(with_reducible rfl)))));try simp only[Act.put,xA,xB,xC,fR];try simp (disch:=(first|with_reducible rfl|fail)) only[more_row,alloc_row_past,alloc_row_at,drew_row,drewN_row])|((with_reducible refine gD (Op.load 89 _) ?_);refine take_el row89 rfl _ rfl g (off+k*2) rfl y (ptC_size y) HC.out ?_;try simp only[Act.put,xA,xB,xC,fR]))
    go_roundw
    case rel=>exact⟨k+1,by omega,by go_num,by rw[last_take HY.out];unfold lastS;rw[if_neg (by omega)],by rw[last_take HY.out];unfold lastS;rw[if_neg (by omega)],by(repeat(first|assumption|(refine Below.alloc ?_ ?_ _;rotate_left;(omega))))⟩
    case measure=>simp[intOf];omega
  ·have hkn:k=n:=by omega
   subst hkn
   have hfin:L.take k=L:=List.take_of_length_le (by rw[HL.out.len];exact Nat.le_refl _)
   go_wp2
   go_ret2
   rw[hfin]
   exact⟨rfl,HB⟩
def u8C(x:UInt8):Array Value:=#[.int .u8 (x.toNat:Int)]
theorem u8C_size(x:UInt8):(u8C x).size=1:=(rfl)
theorem u8C_ones(x:UInt8):Ones (u8C x):=(rfl)
theorem slT77:SlT 77 5 1:=⟨Tryz.underlying77,.int .u8 0,by kernel_rfl,by kernel_rfl,by decide⟩
def Nn(v:Value):Prop:=∃ p n c,v= .slice (some p) n c
theorem Ow.nn{α:Type}{lay:α→Array Value}{k:Nat}{w:World}{base:Nat}{e:TypeId}{v:Value}{L:List α}(h:Ow lay k w base e v L)(hL:0<L.length):Nn v:=by
 obtain⟨g,c,cur,rfl,_⟩:=h.lies hL
 exact⟨_,_,_,rfl⟩
theorem conv_ow{w:World}{ops:Array Oper}{rest:List Oper}{o:Oper}{a:Act}{Q:Exit→Act→World→Prop}(hgd:o.guard=none)(x:Operand)(ho:o.op= .convert 77 9 x)
 (v:Value) (base:Nat) (L:By) (hx:a.eval x=v) (hv:Nn v) (hown:Ow u8C 1 w base 5 v L)
 (h:wpList Tryz.prog ops Q rest (a.put o.dst (.string (bs L))) w):wpList Tryz.prog ops Q (o::rest) a w:=by
 obtain⟨A,C,e1,f1,f2,f3,f4⟩:=hown.sl u8C_size
 obtain⟨p,n,c,e2⟩:=hv
 rw[e1]at e2
 simp only[Value.slice.injEq]at e2
 obtain⟨rfl,rfl,rfl⟩:=e2
 have hb:=hown.1.2
 rw[e1]at hb
 have hp:∃ g,p=⟨g,0,none⟩:=by
  rcases hb with⟨hv,_⟩|⟨g,cap,cur,hv,_⟩
  ·cases hv
  ·simp only[Value.slice.injEq,Option.some.injEq]at hv
   exact⟨g,hv.1⟩
 obtain⟨g,rfl⟩:=hp
 refine conv_str hgd x ho g 0 L.length C (by rw[hx,e1]) (L.map fun b=>(b.toNat:Int)) (by simp) ?_ ?_
 ·intro j u hj
  have hlt:=(List.getElem?_eq_some_iff.1 hj).1
  simp only[List.length_map]at hlt
  obtain⟨g',off',e3,_,hc⟩:=f1.2.2 (by omega)
  simp only[Option.some.injEq,Addr.mk.injEq]at e3
  obtain⟨rfl,rfl,_⟩:=e3
  have:=hc j L[j] 0 (.int .u8 ((L[j]).toNat:Int)) (List.getElem?_eq_getElem hlt) rfl
  rw[show 0+j*1+0=0+j by omega]at this
  rw[this,← hj]
  simp[hlt]
 ·rw[byOf_map];exact h
def roverM(m:By)(L:List Pt):By:=(List.range m.length).map fun j=>if(lastB L (j:Nat)).2 then(lastB L (j:Nat)).1 else m.getD j 0
theorem rover_len(m:By)(L:List Pt):(roverM m L).length=m.length:=by simp[roverM]
theorem rover_take(m:By)(L:List Pt){k:Nat}(hk:k<m.length):(roverM m L).take (k+1)=(roverM m L).take k++[if(lastB L (k:Nat)).2 then(lastB L (k:Nat)).1 else m.getD k 0]:=by
 have h:k<(roverM m L).length:=by rw[rover_len];exact hk
 rw[List.take_succ_eq_append_getElem h]
 congr 2
 simp[roverM]
theorem rover_any(m:By)(hm:m.length≤1000000)(A:Option Addr)(n C:Nat)(L:List Pt)(w:World)(hL:Sl ptC 2 w A n L):Calls Tryz.prog 31 #[.string (bs m),.slice A n C] w fun e w'=>e= .returned (.string (bs (roverM m L)))∧Below w.heap.size w w':=by
 have hn:=hL.few
 have HL:=Lib.hid hL
 clear hL
 go_enter Tryz.func31,Tryz.ntmps31
 go_wp2
 go_loopw [5,6] (fun v i wr=>∃(k:Nat),k≤m.length∧i= .int .i64 k∧Hid (Ow u8C 1 wr w.heap.size 5 v ((roverM m L).take k))∧Hid (Nn v)∧Below w.heap.size w wr) (fun _ i _=>m.length-(intOf i).toNat)
 case atStart=>exact⟨0,by omega,rfl,Lib.hid ⟨⟨by simp[flat],.inr ⟨w.heap.size,0,#[],rfl,Nat.le_refl _,heap_alloc_new _ _,by simp,by decide,rfl,by simp[flat]⟩⟩,by simp⟩,Lib.hid ⟨_,_,_,rfl⟩,by(repeat(first|exact Below.refl _ _|(refine Below.alloc ?_ ?_ _;rotate_left;(omega))))⟩
 case round=>
  obtain⟨k,hk,rfl,HG,HN,HB⟩:=hrel
  have hBs:=HB.size
  by_cases hlt:k<m.length
  ·have HT:=Lib.hid (rover_take m L hlt)
   have hlt2:(k:Int)<m.length:=by omega
   have HLN:=Lib.hid (show((roverM m L).take k).length+1≤1000000 by rw[List.length_take,rover_len];omega)
   obtain⟨b,is,hbi⟩:∃ b is,lastB L (k:Nat)=(b,is):=⟨_,_,rfl⟩
   have LA:=Lib.hid (fun W h=>last_any A n C L k (by omega) (by omega) W h)
   rw[hbi]at HT LA
   cases is with
   | true=>
    go_wp2_with (first|(go_at_call 75;refine(LA.out _ (HL.out.below (by(repeat(assumption))))).mono ?_;rintro r w1 ⟨rfl,hb⟩;obtain⟨ow,kw,rfl⟩:=more_of hb;clear hb)|(at_builtin;(refine app_sl slT77 u8C_size u8C_ones rfl _ _ rfl w.heap.size _ ((roverM m L).take k) rfl (HG.out.below (by(repeat(first|exact Below.refl _ _|(refine Below.alloc ?_ ?_ _;rotate_left;(simp only[sZ]<;>omega))|(refine bl_more ?_ ?_ _ _;rotate_left;(omega)))))) (some ⟨wr.heap.size+ow.size,0,none⟩) 1 1 [b] rfl (Sl.new (t:=5) (fr:=(0,0)) u8C_size (heap_at _ _ _ (by simp only[more_size])) (by simp)) (fun h=>by cases h) HLN.out (by simp only[World.size_alloc,more_size];omega) ?_);intro v3 w3 h3 g3;have HB3:=Lib.hid (bl_own ((bl_more HB (by omega) ow kw).alloc (by simp only[more_size];omega) _) g3 (by simp only[World.size_alloc,more_size];omega) HG.out.row);have HO3:=Lib.hid h3;clear h3 g3;try simp only[Act.put,xA,xB,xC,fR]))
    go_roundw
    case rel=>exact⟨k+1,by omega,by go_num,Lib.hid (by have e:=HT.out;simp only[if_true,if_false,Bool.false_eq_true]at e;rw[e];exact HO3.out),Lib.hid (HO3.out.nn (by simp)),HB3.out⟩
    case measure=>simp[intOf];omega
   | false=>
    have GB:=Lib.hid (by_get m k (by rw[bs_size];exact hlt))
    go_wp2_with (first|(go_at_call 75;refine(LA.out _ (HL.out.below (by(repeat(assumption))))).mono ?_;rintro r w1 ⟨rfl,hb⟩;obtain⟨ow,kw,rfl⟩:=more_of hb;clear hb)|(at_builtin;(refine app_sl slT77 u8C_size u8C_ones rfl _ _ rfl w.heap.size _ ((roverM m L).take k) rfl (HG.out.below (by(repeat(first|exact Below.refl _ _|(refine Below.alloc ?_ ?_ _;rotate_left;(simp only[sZ]<;>omega))|(refine bl_more ?_ ?_ _ _;rotate_left;(omega)))))) (some ⟨wr.heap.size+ow.size,0,none⟩) 1 1 [m.getD k 0] rfl (Sl.new (t:=5) (fr:=(0,0)) u8C_size (by rw[← GB.out];exact heap_at _ _ _ (by simp only[more_size])) (by simp)) (fun h=>by cases h) HLN.out (by simp only[World.size_alloc,more_size];omega) ?_);intro v3 w3 h3 g3;have HB3:=Lib.hid (bl_own ((bl_more HB (by omega) ow kw).alloc (by simp only[more_size];omega) _) g3 (by simp only[World.size_alloc,more_size];omega) HG.out.row);have HO3:=Lib.hid h3;clear h3 g3;try simp only[Act.put,xA,xB,xC,fR]))
    go_roundw
    case rel=>exact⟨k+1,by omega,by go_num,Lib.hid (by have e:=HT.out;simp only[if_true,if_false,Bool.false_eq_true]at e;rw[e];exact HO3.out),Lib.hid (HO3.out.nn (by simp)),HB3.out⟩
    case measure=>simp[intOf];omega
  ·have hkn:k=m.length:=by omega
   subst hkn
   have hfin:(roverM m L).take m.length=roverM m L:=List.take_of_length_le (by rw[rover_len];exact Nat.le_refl _)
   rw[hfin]at HG
   go_wp2_with ((with_reducible refine gD (Op.convert 77 9 _) ?_);refine conv_ow rfl _ rfl _ w.heap.size (roverM m L) rfl HN.out HG.out ?_;try simp only[Act.put,xA,xB,xC,fR])
   go_ret
   exact⟨rfl,HB⟩
section
variable {w:World} {ops:Array Oper} {rest:List Oper} {o:Oper} {a:Act} {Q:Exit→Act→World→Prop}
theorem copy_lay(hgd:o.guard=none)(d x:Operand)(ho:o.op= .call { callee:=.builtin .copy,args:=#[d,x],argTypes:=#[77,9] })
 (g at_ C:Nat) (m s:By) (hd:a.eval d= .slice (some ⟨g,at_,none⟩) (m.length-at_) C) (hx:a.eval x= .string (bs s)) (hm:RowB w g m)
 (h:wpList Tryz.prog ops Q rest (a.put o.dst (goInt ((min s.length (m.length-at_):Nat):Int))) (w.setCells g at_ ((bcells s).take (min s.length (m.length-at_))))):wpList Tryz.prog ops Q (o::rest) a w:=
 wpList_plain hgd fun K hK=>by
  have:=step_copy_lay (ops:=ops) (Q:=Q) (E:=True) (K:=K) hgd d x ho g at_ C m s hd hx hm (hK _ _ h)
  rwa [if_pos (by simp[Region.wanted,hgd])]at this
end
theorem conv_rowB{w:World}{ops:Array Oper}{rest:List Oper}{o:Oper}{a:Act}{Q:Exit→Act→World→Prop}(hgd:o.guard=none)(x:Operand)(ho:o.op= .convert 77 9 x)
 (g n c:Nat) (hx:a.eval x= .slice (some ⟨g,0,none⟩) n c) (m:By) (hm:RowB w g m) (hn:m.length=n)
 (h:wpList Tryz.prog ops Q rest (a.put o.dst (.string (bs m))) w):wpList Tryz.prog ops Q (o::rest) a w:=by
 refine conv_str hgd x ho g 0 n c hx (m.map fun b=>(b.toNat:Int)) (by rw[List.length_map,hn]) (rowB_str hm) ?_
 rw[byOf_map]
 exact h
theorem rowB_rep{w:World}{b n:Nat}{v:Value}{g:Nat}(h:Ow u8C 1 w b 5 v (List.replicate n 0))(hv:v= .slice (some ⟨g,0,none⟩) n n)(hn:0<n):RowB w g (List.replicate n 0):=by
 obtain⟨⟨h1,h2⟩,h3⟩:=h
 rcases h2 with⟨q,_⟩|⟨gg,cap,cur,q1,q2,q3,q4,q5,q6,q7⟩
 ·rw[hv]at q;cases q
 rw[hv]at q1
 simp only[Value.slice.injEq,Option.some.injEq,Addr.mk.injEq,and_true,true_and]at q1
 obtain⟨rfl,_,rfl⟩:=q1
 rw[Nat.mul_one]at q6
 have hfl:(flat u8C (List.replicate n 0)).size=n:=by rw[flat_size u8C_size,List.length_replicate,Nat.mul_one]
 have e1:cur=flat u8C (List.replicate n 0):=by
  have:cur.toList=(flat u8C (List.replicate n 0)).toList:=by
   rw[← q7,List.take_of_length_le]
   rw[Array.length_toList]
   omega
  exact Array.ext' this
 subst e1
 refine⟨(Array.getElem?_eq_some_iff.1 q3).1,fun j hj=>⟨?_,?_⟩⟩
 ·have hs:=Sl.new (w:=w) (L:=List.replicate n 0) (t:=5) (fr:=(0,0)) u8C_size q3 (by rw[List.length_replicate];omega)
  obtain⟨g',off',e,_,hc⟩:=hs.2.2 (by omega)
  cases e
  have:=hc j ((List.replicate n (0:UInt8))[j]) 0 (.int .u8 (((List.replicate n (0:UInt8))[j]).toNat:Int)) (List.getElem?_eq_getElem hj) rfl
  simpa using this
 ·unfold World.frozen?
  rw[q3]
  simp
theorem lay_rep(t:By)(n:Nat)(h:t.length≤n):Go.Proofs.YtdmhfogegfmnfaaGreatDoor.lay (List.replicate n 0) 0 t=t++List.replicate (n-t.length) 0:=by
 unfold Go.Proofs.YtdmhfogegfmnfaaGreatDoor.lay
 rw[List.take_zero,List.nil_append,List.length_replicate,Nat.sub_zero,List.take_of_length_le h,Nat.zero_add,List.drop_replicate]
theorem clean_mem(m:By)(w:World):Calls Tryz.prog 17 #[.string (bs m)] w fun e w'=>e= .returned (.string (bs (cleanM m)))∧Below w.heap.size w w':=by
 have H:=Lo.start w
 have e1:=bs_size m
 go_enter Tryz.func17,Tryz.ntmps17
 go_wp2_with fail
 all_goals
  obtain⟨t,ht⟩:∃ t,m.take 256=t:=⟨_,rfl⟩
  have hl:t.length≤256:=by rw[← ht,List.length_take];omega
  have hcl:cleanM m=t++List.replicate ((if t.length≤16 then 16 else if t.length≤32 then 32 else if t.length≤64 then 64 else if t.length≤128 then 128 else 256)-t.length) 0:=by unfold cleanM;rw[ht]
  have hex:(bs m).extract 0 256=bs t:=by
   have:=bs_cut m 0 256
   rw[Nat.zero_add]at this
   rw[this,← ht];rfl
  first
   | rw[hex]
   | rw[show(bs m).extract 0 (List.length m)=bs t by
    have:=bs_cut m 0 m.length
    rw[Nat.zero_add]at this
    rw[this,← ht];unfold cutB;rw[List.drop_zero,List.take_of_length_le (Nat.le_refl _),List.take_of_length_le (by omega)]]
  have hsz:(bs t).size=t.length:=bs_size t
  clear hex ht e1
  have h5:t.length≤16∨(16<t.length∧t.length≤32)∨(32<t.length∧t.length≤64)∨(64<t.length∧t.length≤128)∨128<t.length:=by omega
  rcases h5 with h5|h5|h5|h5|h5
  ·refine wp_loop_rounds 1 ?_
   rw[rounds_succ]
   go_wp2_with (first|((with_reducible refine gD (Op.makeSlice 77 _ _) ?_);refine full_sl (α:=UInt8) (lay:=u8C) slT77 0 (by kernel_rfl) u8C_size rfl _ _ rfl w.heap.size .i64 .i64 16 16 16 rfl rfl rfl rfl (by decide) H.bl.size ?_;intro v1 w1 h1 e1 g1;have HR:=Lib.hid (rowB_rep h1 e1 (by decide));have HB:=Lib.hid (bl_own H.bl g1 (Nat.le_refl _) (fun _ h=>by cases h));subst e1;clear h1 g1;try simp only[Act.put,xA,xB,xC,fR])|((with_reducible refine gD (Op.call { callee:=Callee.builtin Builtin.copy,args:=_,argTypes:=_ }) ?_);refine copy_lay rfl _ _ rfl w.heap.size 0 16 (List.replicate 16 0) t rfl rfl HR.out ?_;have HR2:=Lib.hid (HR.out.lay 0 t (Nat.zero_le _));have HB2:=Lib.hid (bl_cells HB.out (Nat.le_refl _) 0 ((bcells t).take (min t.length ((List.replicate 16 (0:UInt8)).length-0))));try simp only[Act.put,xA,xB,xC,fR])|((with_reducible refine gD (Op.convert 77 9 _) ?_);refine conv_rowB rfl _ rfl w.heap.size 16 16 rfl _ HR2.out (by rw[lay_len _ _ _ (Nat.zero_le _),List.length_replicate]) ?_;try simp only[Act.put,xA,xB,xC,fR]))
   all_goals go_ret
   all_goals exact⟨by rw[hcl,lay_rep _ _ (by omega)];(first|rw[if_pos (by omega)]|fail);rfl,HB2.out⟩
  ·refine wp_loop_rounds 2 ?_
   rw[rounds_succ]
   go_wp2_with fail
   rw[rounds_succ]
   go_wp2_with (first|((with_reducible refine gD (Op.makeSlice 77 _ _) ?_);refine full_sl (α:=UInt8) (lay:=u8C) slT77 0 (by kernel_rfl) u8C_size rfl _ _ rfl w.heap.size .i64 .i64 32 32 32 rfl rfl rfl rfl (by decide) H.bl.size ?_;intro v1 w1 h1 e1 g1;have HR:=Lib.hid (rowB_rep h1 e1 (by decide));have HB:=Lib.hid (bl_own H.bl g1 (Nat.le_refl _) (fun _ h=>by cases h));subst e1;clear h1 g1;try simp only[Act.put,xA,xB,xC,fR])|((with_reducible refine gD (Op.call { callee:=Callee.builtin Builtin.copy,args:=_,argTypes:=_ }) ?_);refine copy_lay rfl _ _ rfl w.heap.size 0 32 (List.replicate 32 0) t rfl rfl HR.out ?_;have HR2:=Lib.hid (HR.out.lay 0 t (Nat.zero_le _));have HB2:=Lib.hid (bl_cells HB.out (Nat.le_refl _) 0 ((bcells t).take (min t.length ((List.replicate 32 (0:UInt8)).length-0))));try simp only[Act.put,xA,xB,xC,fR])|((with_reducible refine gD (Op.convert 77 9 _) ?_);refine conv_rowB rfl _ rfl w.heap.size 32 32 rfl _ HR2.out (by rw[lay_len _ _ _ (Nat.zero_le _),List.length_replicate]) ?_;try simp only[Act.put,xA,xB,xC,fR]))
   all_goals go_ret
   all_goals exact⟨by rw[hcl,lay_rep _ _ (by omega)];(first|rw[if_neg (by omega),if_pos (by omega)]|fail);rfl,HB2.out⟩
  ·refine wp_loop_rounds 3 ?_
   rw[rounds_succ]
   go_wp2_with fail
   rw[rounds_succ]
   go_wp2_with fail
   rw[rounds_succ]
   go_wp2_with (first|((with_reducible refine gD (Op.makeSlice 77 _ _) ?_);refine full_sl (α:=UInt8) (lay:=u8C) slT77 0 (by kernel_rfl) u8C_size rfl _ _ rfl w.heap.size .i64 .i64 64 64 64 rfl rfl rfl rfl (by decide) H.bl.size ?_;intro v1 w1 h1 e1 g1;have HR:=Lib.hid (rowB_rep h1 e1 (by decide));have HB:=Lib.hid (bl_own H.bl g1 (Nat.le_refl _) (fun _ h=>by cases h));subst e1;clear h1 g1;try simp only[Act.put,xA,xB,xC,fR])|((with_reducible refine gD (Op.call { callee:=Callee.builtin Builtin.copy,args:=_,argTypes:=_ }) ?_);refine copy_lay rfl _ _ rfl w.heap.size 0 64 (List.replicate 64 0) t rfl rfl HR.out ?_;have HR2:=Lib.hid (HR.out.lay 0 t (Nat.zero_le _));have HB2:=Lib.hid (bl_cells HB.out (Nat.le_refl _) 0 ((bcells t).take (min t.length ((List.replicate 64 (0:UInt8)).length-0))));try simp only[Act.put,xA,xB,xC,fR])|((with_reducible refine gD (Op.convert 77 9 _) ?_);refine conv_rowB rfl _ rfl w.heap.size 64 64 rfl _ HR2.out (by rw[lay_len _ _ _ (Nat.zero_le _),List.length_replicate]) ?_;try simp only[Act.put,xA,xB,xC,fR]))
   all_goals go_ret
   all_goals exact⟨by rw[hcl,lay_rep _ _ (by omega)];(first|rw[if_neg (by omega),if_neg (by omega),if_pos (by omega)]|fail);rfl,HB2.out⟩
  ·refine wp_loop_rounds 4 ?_
   rw[rounds_succ]
   go_wp2_with fail
   rw[rounds_succ]
   go_wp2_with fail
   rw[rounds_succ]
   go_wp2_with fail
   rw[rounds_succ]
   go_wp2_with (first|((with_reducible refine gD (Op.makeSlice 77 _ _) ?_);refine full_sl (α:=UInt8) (lay:=u8C) slT77 0 (by kernel_rfl) u8C_size rfl _ _ rfl w.heap.size .i64 .i64 128 128 128 rfl rfl rfl rfl (by decide) H.bl.size ?_;intro v1 w1 h1 e1 g1;have HR:=Lib.hid (rowB_rep h1 e1 (by decide));have HB:=Lib.hid (bl_own H.bl g1 (Nat.le_refl _) (fun _ h=>by cases h));subst e1;clear h1 g1;try simp only[Act.put,xA,xB,xC,fR])|((with_reducible refine gD (Op.call { callee:=Callee.builtin Builtin.copy,args:=_,argTypes:=_ }) ?_);refine copy_lay rfl _ _ rfl w.heap.size 0 128 (List.replicate 128 0) t rfl rfl HR.out ?_;have HR2:=Lib.hid (HR.out.lay 0 t (Nat.zero_le _));have HB2:=Lib.hid (bl_cells HB.out (Nat.le_refl _) 0 ((bcells t).take (min t.length ((List.replicate 128 (0:UInt8)).length-0))));try simp only[Act.put,xA,xB,xC,fR])|((with_reducible refine gD (Op.convert 77 9 _) ?_);refine conv_rowB rfl _ rfl w.heap.size 128 128 rfl _ HR2.out (by rw[lay_len _ _ _ (Nat.zero_le _),List.length_replicate]) ?_;try simp only[Act.put,xA,xB,xC,fR]))
   all_goals go_ret
   all_goals exact⟨by rw[hcl,lay_rep _ _ (by omega)];(first|rw[if_neg (by omega),if_neg (by omega),if_neg (by omega),if_pos (by omega)]|fail);rfl,HB2.out⟩
  ·refine wp_loop_rounds 5 ?_
   rw[rounds_succ]
   go_wp2_with fail
   rw[rounds_succ]
   go_wp2_with fail
   rw[rounds_succ]
   go_wp2_with fail
   rw[rounds_succ]
   go_wp2_with fail
   rw[rounds_succ]
   go_wp2_with (first|((with_reducible refine gD (Op.makeSlice 77 _ _) ?_);refine full_sl (α:=UInt8) (lay:=u8C) slT77 0 (by kernel_rfl) u8C_size rfl _ _ rfl w.heap.size .i64 .i64 256 256 256 rfl rfl rfl rfl (by decide) H.bl.size ?_;intro v1 w1 h1 e1 g1;have HR:=Lib.hid (rowB_rep h1 e1 (by decide));have HB:=Lib.hid (bl_own H.bl g1 (Nat.le_refl _) (fun _ h=>by cases h));subst e1;clear h1 g1;try simp only[Act.put,xA,xB,xC,fR])|((with_reducible refine gD (Op.call { callee:=Callee.builtin Builtin.copy,args:=_,argTypes:=_ }) ?_);refine copy_lay rfl _ _ rfl w.heap.size 0 256 (List.replicate 256 0) t rfl rfl HR.out ?_;have HR2:=Lib.hid (HR.out.lay 0 t (Nat.zero_le _));have HB2:=Lib.hid (bl_cells HB.out (Nat.le_refl _) 0 ((bcells t).take (min t.length ((List.replicate 256 (0:UInt8)).length-0))));try simp only[Act.put,xA,xB,xC,fR])|((with_reducible refine gD (Op.convert 77 9 _) ?_);refine conv_rowB rfl _ rfl w.heap.size 256 256 rfl _ HR2.out (by rw[lay_len _ _ _ (Nat.zero_le _),List.length_replicate]) ?_;try simp only[Act.put,xA,xB,xC,fR]))
   all_goals go_ret
   all_goals exact⟨by rw[hcl,lay_rep _ _ (by omega)];(rw[if_neg (by omega),if_neg (by omega),if_neg (by omega),if_neg (by omega)]);rfl,HB2.out⟩
theorem fits_any(sa:Option Addr)(sn sc:Nat)(c:Ca)(f:Cf)(l t:Sv)(w:World)(hc:CaR w ⟨sa,sn,sc⟩ c):Calls Tryz.prog 37 #[caV c.ways ⟨sa,sn,sc⟩,.agg (cfC f l t)] w fun e w'=>e= .returned (.bool (fitsC c f))∧Below w.heap.size w w':=by
 have hl:=hc.len
 have HC:=Lib.hid hc
 have H:=Lo.start w
 simp only at hl
 have E:=Lib.hid (show fitsC c f=(rightC c&&decide ((sn:Int)=f.sets)&&decide (c.ways=f.ways)) by unfold fitsC;rw[hl])
 clear hc hl
 cases hr:rightC c with
 | false=>
  have HR:=Lib.hid hr
  clear hr
  go_enter Tryz.func37,Tryz.ntmps37
  go_wp2_with (first|((with_reducible refine gBx 35 0 ?_);refine st_Lbox rfl (ccC ⟨c.ways,⟨sa,sn,sc⟩⟩) H _ rfl rfl ?_;clear H;intro w1 b1 H;try simp only[Act.put,xA,xB,xC,fR])|((with_reducible refine gBx 25 1 ?_);refine st_Lbox rfl (cfC f l t) H _ rfl rfl ?_;clear H;intro w1 b2 H;try simp only[Act.put,xA,xB,xC,fR])|((with_reducible refine gL 35 2 ?_);refine st_Lllr rfl row35 H _ rfl _ 0 rfl _ 35 mm1 _ rfl (Sub.all _) ?_;go_frame)|(go_at_call 9;refine(cright_any ⟨sa,sn,sc⟩ c _ (HC.out.below H.bl)).mono ?_;rw[HR.out];rintro r w1 ⟨rfl,hb⟩;replace H:=H.below hb))
  go_ret
  exact⟨by rw[E.out,HR.out];rfl,H.bl⟩
 | true=>
  have HR:=Lib.hid hr
  clear hr
  cases h1:((sn:Int)== f.sets)
  all_goals
   skip
   go_enter Tryz.func37,Tryz.ntmps37
   go_wp2_with (first|((with_reducible refine gBx 35 0 ?_);refine st_Lbox rfl (ccC ⟨c.ways,⟨sa,sn,sc⟩⟩) H _ rfl rfl ?_;clear H;intro w1 b1 H;try simp only[Act.put,xA,xB,xC,fR])|((with_reducible refine gBx 25 1 ?_);refine st_Lbox rfl (cfC f l t) H _ rfl rfl ?_;clear H;intro w1 b2 H;try simp only[Act.put,xA,xB,xC,fR])|((with_reducible refine gL 35 2 ?_);refine st_Lllr rfl row35 H _ rfl _ 0 rfl _ 35 mm1 _ rfl (Sub.all _) ?_;go_frame)|((with_reducible refine gL 33 8 ?_);refine sTj rfl ?_;refine wp_Lll1 one33 H _ rfl _ 1 rfl _ 35 mm1 _ (ccC_1 _) ?_;go_frame)|((with_reducible refine gL 3 11 ?_);refine sTj rfl ?_;refine wp_Lll1 one3 H _ rfl _ 6 rfl _ 25 mm0 _ (cfC_6 _ _ _) ?_;go_frame)|(go_at_call 9;refine(cright_any ⟨sa,sn,sc⟩ c _ (HC.out.below H.bl)).mono ?_;rw[HR.out];rintro r w1 ⟨rfl,hb⟩;replace H:=H.below hb)|((with_reducible refine gL 3 16 ?_);refine sTj rfl ?_;refine wp_Lll1 one3 H _ rfl _ 0 rfl _ 35 mm1 _ (ccC_0 _) ?_;go_frame)|((with_reducible refine gL 3 18 ?_);refine sTj rfl ?_;refine wp_Lll1 one3 H _ rfl _ 7 rfl _ 25 mm0 _ (cfC_7 _ _ _) ?_;go_frame))
   go_ret
   exact⟨by rw[E.out,HR.out,show decide ((sn:Int)=f.sets)=((sn:Int)== f.sets)from rfl,h1];rfl,H.bl⟩
end Go.Proofs.YtdmhfogegfmnfaaGreatDoor
