/- Contracts: a cycle goes by: the walk. Conditions: the core is read, what holds at each cycle holds, rows are not long. Contracts: a step's value in its register. Conditions: there are 32 registers. Contracts: the bytes that a step stores. No conditions. Contracts: what an entry tells. No conditions. Contracts: what guesses learns. Conditions: its slices read as lists. .. -/
import Derived.Test.YtdmhfogegfmnfaaGreatDoorG01
import Derived.Test.YtdmhfogegfmnfaaGreatDoorG02
import Derived.Test.YtdmhfogegfmnfaaGreatDoorG03
import Derived.Test.YtdmhfogegfmnfaaGreatDoorG04
import Derived.Test.YtdmhfogegfmnfaaGreatDoorG08
import Derived.Test.YtdmhfogegfmnfaaGreatDoorG17
import Derived.Test.YtdmhfogegfmnfaaGreatDoorG20
import Derived.Test.YtdmhfogegfmnfaaGreatDoorG28
set_option maxRecDepth 100000
set_option maxHeartbeats 4000000
set_option linter.unusedVariables false
set_option linter.unusedSimpArgs false
namespace Go.Proofs.YtdmhfogegfmnfaaGreatDoor
open Go.RowKit
open Classical in
theorem toPM{w0 ws w:World}{X:Nat→Prop}{c:Co}{s:Ss}{g b1 b2:Nat}{z1 z2:Array Value}{t1 t2:TypeId}(hB:Below w0.heap.size w0 ws)(hX:∀ j,¬ X j→w0.heap.size≤j∧j<ws.heap.size)(hR:CoR X ws c s)(H:Lo ws w [(g,coC c s,67),(b2,z2,t2),(b1,z1,t1)]):
 ∃ κ,PM w0 w g κ c s∧κ b2=6∧κ b1=6∧(∀ j,j<ws.heap.size→κ j=0∨6≤κ j)∧(∀ j,κ j=0↔(X j∧j≠g∧j≠b1∧j≠b2)):=by
 have hg:=H.lc _ mm0
 have h2:=H.lc _ mm1
 have h1:=H.lc _ mm2
 simp only at hg h1 h2
 have nd:=List.pairwise_cons.1 H.nd
 have n2:=nd.1 _ mm0
 have n1:=nd.1 _ mm1
 simp only at n1 n2
 have lg:=(Array.getElem?_eq_some_iff.1 hg.1).1
 have l2:=(Array.getElem?_eq_some_iff.1 h2.1).1
 have l1:=(Array.getElem?_eq_some_iff.1 h1.1).1
 have hz:∀ j,(if j=g then 1 else if j=b1∨j=b2 then 6 else if X j then 0 else 6)=0↔(X j∧j≠g∧j≠b1∧j≠b2):=fun j=>by
  by_cases e1:j=g
  ·rw[if_pos e1];simp[e1]
  ·rw[if_neg e1]
   by_cases e2:j=b1∨j=b2
   ·rw[if_pos e2];rcases e2 with e|e<;>simp[e]
   ·rw[if_neg e2]
    have:=not_or.1 e2
    by_cases e3:X j
    ·rw[if_pos e3];simp[e1,this.1,this.2,e3]
    ·rw[if_neg e3];simp[e3]
 refine⟨fun j=>if j=g then 1 else if j=b1∨j=b2 then 6 else if X j then 0 else 6,⟨hB.trans (H.bl.mono hB.size),by simp,fun j hj=>?_,fun j hj=>?_,?_,hg.1⟩,?_,?_,fun j hj=>?_,hz⟩
 ·by_cases e1:j=g
  ·exact e1
  ·rw[if_neg e1]at hj
   split at hj
   ·omega
   ·split at hj<;>omega
 ·by_cases e1:j=g
  ·subst e1;exact⟨Nat.le_trans hB.size hg.2,lg⟩
  ·rw[if_neg e1]at hj
   by_cases e2:j=b1∨j=b2
   ·rcases e2 with e|e
    ·subst e;exact⟨Nat.le_trans hB.size h1.2,l1⟩
    ·subst e;exact⟨Nat.le_trans hB.size h2.2,l2⟩
   ·rw[if_neg e2]at hj
    by_cases e3:X j
    ·rw[if_pos e3]at hj;exact absurd rfl hj
    ·have:=hX j e3
     exact⟨this.1,Nat.lt_of_lt_of_le this.2 H.bl.size⟩
 ·refine((hR.mono (Y:=fun j=>(if j=g then 1 else if j=b1∨j=b2 then 6 else if X j then 0 else 6)=0) fun j h3 h4=>?_)).below H.bl
  exact(hz j).2 ⟨h3,by omega,by omega,by omega⟩
 ·show(if b2=g then 1 else if b2=b1∨b2=b2 then 6 else if X b2 then 0 else 6)=6
  rw[if_neg (Ne.symm n2),if_pos (.inr rfl)]
 ·show(if b1=g then 1 else if b1=b1∨b1=b2 then 6 else if X b1 then 0 else 6)=6
  rw[if_neg (Ne.symm n1),if_pos (.inl rfl)]
 ·simp only
  rw[if_neg (by omega),if_neg (by omega)]
  split
  ·exact .inl rfl
  ·exact .inr (Nat.le_refl _)
theorem MS.toCoR{w0 ws w:World}{g:Nat}{κ0 κ:Nat→Nat}{c:Co}{s:Ss}{X:Nat→Prop}(M:MS w0 w g κ c s)(hs:Same κ0 κ ws)(h0:∀ j,j<ws.heap.size→κ0 j=0→X j)(hn:∀ j,j<ws.heap.size→κ0 j=0∨6≤κ0 j)(hX:∀ j,ws.heap.size≤j→X j):CoR X w c s:=by
 have key:∀ j,(κ j=0∨κ j=2∨κ j=3∨κ j=4∨κ j=5)→X j:=fun j hj=>by
  rcases Nat.lt_or_ge j ws.heap.size with q|q
  ·have h1:=hs j q
   have h2:=hn j q
   exact h0 j q (by omega)
  ·exact hX j q
 have k0:∀ j,κ j=0→X j:=fun j h=>key j (.inl h)
 exact⟨M.r.regs,M.r.lat.mono fun j h _=>k0 j h,M.r.tape.mono fun j h _=>k0 j h,M.r.prog.mono fun j h _=>k0 j h,
  ⟨M.r.fetched.sl,M.r.fetched.wf,fun hn p hp=>key _ (by have:=M.r.fetched.ap.av hn p hp;simp only at this;omega)⟩,
  ⟨M.r.rob.sl,M.r.rob.wf,fun hn p hp=>key _ (by have:=M.r.rob.av hn p hp;simp only at this;omega)⟩,
  ⟨M.r.stores.sl,M.r.stores.wf,fun hn p hp=>key _ (by have:=M.r.stores.av hn p hp;simp only at this;omega)⟩,
  M.r.data.mono fun j h _=>k0 j h,M.r.words.mono fun j h _=>k0 j h,M.r.bus.mono fun j h _=>k0 j h,M.r.slots.mono fun j h _=>k0 j h,M.r.returns.mono fun j h _=>k0 j h,
  ⟨M.r.retired.sl,M.r.retired.wf,fun hn p hp=>key _ (by have:=M.r.retired.av hn p hp;simp only at this;omega)⟩⟩
def StepP(X:Nat→Prop)(c:Co)(w:World)(e:Ending)(w':World):Prop:=∃(c':Co) (s':Ss),e= .returned (.agg (coC c' s'))∧StepS c c'∧CoR X w' c' s'∧Below w.heap.size w w'
theorem ret_rg{a b:List U}(h:a=b):Ending.returned (.agg (rgC a))= .returned (.agg (rgC b)):=by rw[h]
theorem apply_any(r:List U)(hr:r.length=32)(s:St)(w:World):Calls Tryz.prog 60 #[.agg (rgC r),.agg (stC s)] w fun e w'=>e= .returned (.agg (rgC (applyR r s)))∧Below w.heap.size w w':=by
 by_cases c:1≤s.rd∧s.rd≤31∧s.halt=0
 ·obtain⟨c1,c2,c3⟩:=c
  have E:=Lib.hid (show r.set s.rd.toNat s.value=applyR r s by unfold applyR;rw[if_pos ⟨c1,c2,c3⟩])
  have d3:(s.halt== 0)=true:=by rw[c3];rfl
  have RS:=Lib.hid (rgS r s.rd.toNat s.value (by omega))
  clear c3
  have c4:s.rd.toNat<32:=by omega
  have c5:s.rd<32:=by omega
  go_enter Tryz.func60,Tryz.ntmps60
  go_wp2_with (first|((with_reducible refine gAl 29 ?_);refine alloc_row (rgC rgZ) zero29 rfl rfl ?_;try simp only[Act.put,xA,xB,xC,fR])|((with_reducible refine gD (Op.store 29 _ _) ?_);apply store_row row29 rfl _ _ rfl _ (rgC _) rfl rfl (rgC_size _) (rgC_ones _) (t:=29) (old:=rgC _) (h2:=rgC_size _);(·(repeat((refine heap_at _ _ _ ?_;(simp only[sZ]<;>omega)))));try simp only[Act.put,xA,xB,xC,fR];try simp (disch:=(first|(simp only[sZ]<;>omega)|fail)) only[more_row,alloc_row_past,alloc_row_at,drew_row,drewN_row])|((with_reducible refine gD (Op.load 29 _) ?_);refine take_row row29 rfl _ rfl w.heap.size rfl (rgC (r.set s.rd.toNat s.value)) (rgC_size _) (t:=29) (fr:=(0,0)) ?_ ?_;(· rw[← RS.out];(repeat(first|(refine heap_at _ _ _ ?_;(with_reducible rfl))|(refine(heap_past _ _ _ ?_).trans ?_;(simp only[sZ]<;>omega)))));try simp only[Act.put,xA,xB,xC,fR]))
  (apply ret_row row29 rfl _ (rgC _) rfl (rgC_size _) (t:=29) (fr:=(0,0)) (hd:=rfl);(·(repeat((refine heap_at _ _ _ ?_;(simp only[sZ]<;>omega))))))
  exact⟨ret_rg E.out,by(repeat(first|exact Below.refl _ _|(refine Below.alloc ?_ ?_ _;rotate_left;(first|omega|(simp only[sZ]<;>omega)))))⟩
 ·have E:=Lib.hid (show r=applyR r s by unfold applyR;rw[if_neg c])
  go_enter Tryz.func60,Tryz.ntmps60
  go_wp2_with (first|((with_reducible refine gAl 29 ?_);refine alloc_row (rgC rgZ) zero29 rfl rfl ?_;try simp only[Act.put,xA,xB,xC,fR])|((with_reducible refine gD (Op.load 29 _) ?_);apply take_row row29 rfl _ rfl _ rfl (rgC _) (rgC_size _) (t:=29) (fr:=(0,0));(·(repeat(first|(refine heap_at _ _ _ ?_;(with_reducible rfl))|(refine(heap_past _ _ _ ?_).trans ?_;(simp only[sZ]<;>omega)))));try simp only[Act.put,xA,xB,xC,fR])|((with_reducible refine gD (Op.store 29 _ _) ?_);apply store_row row29 rfl _ _ rfl _ (rgC _) rfl rfl (rgC_size _) (rgC_ones _) (t:=29) (old:=rgC _) (h2:=rgC_size _);(·(repeat((refine heap_at _ _ _ ?_;(simp only[sZ]<;>omega)))));try simp only[Act.put,xA,xB,xC,fR];try simp (disch:=(first|(simp only[sZ]<;>omega)|fail)) only[more_row,alloc_row_past,alloc_row_at,drew_row,drewN_row]))
  all_goals
   (apply ret_row row29 rfl _ (rgC _) rfl (rgC_size _) (t:=29) (fr:=(0,0)) (hd:=rfl);(·(repeat((refine heap_at _ _ _ ?_;(simp only[sZ]<;>omega))))))
   exact⟨ret_rg E.out,by(repeat(first|exact Below.refl _ _|(refine Below.alloc ?_ ?_ _;rotate_left;(first|omega|(simp only[sZ]<;>omega)))))⟩
def stoP(s:St):Pt×Bool:=match storedS s with
 | some p=>(p,true)
 | none=>(ptZ,false)
theorem sto_none{s:St}(h:s.store=false∨s.halt≠0∨(s.size≠1∧s.size≠2∧s.size≠4)):stoP s=(ptZ,false):=by
 unfold stoP storedS
 rw[if_pos h]
theorem sto_some{s:St}(h:s.store=true)(h2:s.halt=0)(h3:s.size=1∨s.size=2∨s.size=4):stoP s=(⟨s.addr,(bytesS s.value s.size).1⟩,true):=by
 unfold stoP storedS
 rw[if_neg (by rw[h];simp;omega)]
theorem ret_sto{s:St}{p:Pt}{b:Bool}(h:stoP s=(p,b)):Ending.returned (.tuple #[.agg (ptC p),.bool b])= .returned (.tuple #[.agg (ptC (stoP s).1),.bool (stoP s).2]):=by rw[h]
theorem stored_any(s:St)(w:World):Calls Tryz.prog 59 #[.agg (stC s)] w fun e w'=>e= .returned (.tuple #[.agg (ptC (stoP s).1),.bool (stoP s).2])∧Below w.heap.size w w':=by
 by_cases hno:s.store=false∨s.halt≠0∨(s.size≠1∧s.size≠2∧s.size≠4)
 ·have E:=Lib.hid (sto_none hno)
  cases h1:s.store with
  | false=>
   clear hno
   go_enter Tryz.func59,Tryz.ntmps59
   go_wp2_with (first|((with_reducible refine gAl 89 ?_);refine alloc_row (ptC ptZ) zero89 rfl rfl ?_;try simp only[Act.put,xA,xB,xC,fR])|((with_reducible refine gD (Op.store 89 (.tmp 2) (.tmp 29)) ?_);refine store_row row89 rfl _ _ rfl (w.heap.size+1) (ptC ptZ) rfl rfl (ptC_size _) (ptC_ones _) (t:=89) (old:=ptC ptZ) (h2:=ptC_size _) ?_ ?_;(·(repeat((refine heap_at _ _ _ ?_;(simp only[sZ]<;>omega)))));try simp only[Act.put,xA,xB,xC,fR];try simp (disch:=(first|(simp only[sZ]<;>omega)|fail)) only[more_row,alloc_row_past,alloc_row_at,drew_row,drewN_row]))
   apply ret_ct row89 rfl (w.heap.size+1) (ptC ptZ) rfl (ptC_size _) (t:=89) (fr:=(0,0)) (hd:=rfl)
   ·(repeat((refine heap_at _ _ _ ?_;(simp only[sZ]<;>omega))))
   exact⟨ret_sto E.out,by(repeat(first|exact Below.refl _ _|(refine Below.alloc ?_ ?_ _;rotate_left;(first|omega|(simp only[sZ]<;>omega)))))⟩
  | true=>
   by_cases h2:s.halt=0
   have h3:s.size≠1∧s.size≠2∧s.size≠4:=by
    rcases hno with h|h|h
    ·rw[h1]at h;cases h
    ·exact absurd h2 h
    ·exact h
   obtain⟨a1,a2,a3⟩:=h3
   have d0:(s.halt != 0)=false:=by rw[h2];rfl
   have d1:(s.size != 1)=true:=by rw[bne_iff_ne];exact a1
   have d2:(s.size != 2)=true:=by rw[bne_iff_ne];exact a2
   have d4:(s.size != 4)=true:=by rw[bne_iff_ne];exact a3
   clear hno h2 a1 a2 a3
   rotate_left
   have d0:(s.halt != 0)=true:=by rw[bne_iff_ne];exact h2
   clear hno h2
   rotate_left
   all_goals
    go_enter Tryz.func59,Tryz.ntmps59
    go_wp2_with (first|((with_reducible refine gAl 89 ?_);refine alloc_row (ptC ptZ) zero89 rfl rfl ?_;try simp only[Act.put,xA,xB,xC,fR])|((with_reducible refine gD (Op.store 89 (.tmp 2) (.tmp 29)) ?_);refine store_row row89 rfl _ _ rfl (w.heap.size+1) (ptC ptZ) rfl rfl (ptC_size _) (ptC_ones _) (t:=89) (old:=ptC ptZ) (h2:=ptC_size _) ?_ ?_;(·(repeat((refine heap_at _ _ _ ?_;(simp only[sZ]<;>omega)))));try simp only[Act.put,xA,xB,xC,fR];try simp (disch:=(first|(simp only[sZ]<;>omega)|fail)) only[more_row,alloc_row_past,alloc_row_at,drew_row,drewN_row]))
    apply ret_ct row89 rfl (w.heap.size+1) (ptC ptZ) rfl (ptC_size _) (t:=89) (fr:=(0,0)) (hd:=rfl)
    ·(repeat((refine heap_at _ _ _ ?_;(simp only[sZ]<;>omega))))
    exact⟨ret_sto E.out,by(repeat(first|exact Below.refl _ _|(refine Below.alloc ?_ ?_ _;rotate_left;(first|omega|(simp only[sZ]<;>omega)))))⟩
 ·have h1:s.store=true:=by cases h:s.store with|true=>rfl|false=>exact absurd (Or.inl h) hno
  have h2:s.halt=0:=by by_cases h:s.halt=0;exact h;exact absurd (Or.inr (Or.inl h)) hno
  have h3:s.size=1∨s.size=2∨s.size=4:=by
   by_cases h:s.size=1∨s.size=2∨s.size=4
   ·exact h
   ·exact absurd (Or.inr (Or.inr (by omega))) hno
  have E:=Lib.hid (sto_some h1 h2 h3)
  have d0:(s.halt != 0)=false:=by rw[h2];rfl
  obtain⟨bl,z,hbz⟩:∃ bl z,bytesS s.value s.size=(bl,z):=⟨_,_,rfl⟩
  rw[hbz]at E
  have BY:=Lib.hid (fun W=>bytes_any s.value s.size W)
  have HZ:=Lib.hid hbz
  have q:((s.size != 1)=false)∨((s.size != 1)=true∧(s.size != 2)=false)∨((s.size != 1)=true∧(s.size != 2)=true∧(s.size != 4)=false):=by
   rcases h3 with h|h|h<;>rw[h]<;>simp
  clear hno h2 h3 hbz
  rcases q with q|⟨q,q2⟩|⟨q,q2,q4⟩
  all_goals
   go_enter Tryz.func59,Tryz.ntmps59
   go_wp2_with (first|((with_reducible refine gAl 89 ?_);refine alloc_row (ptC ptZ) zero89 rfl rfl ?_;try simp only[Act.put,xA,xB,xC,fR])|(go_at_call 89;refine(BY.out _).mono ?_;unfold BytP;rw[HZ.out];rintro r w1 ⟨rfl,hb⟩;obtain⟨ow,kw,rfl⟩:=more_of hb;clear hb)|((with_reducible refine gD (Op.store 89 (.tmp 2) (.tmp 41)) ?_);refine store_row row89 rfl _ _ rfl (w.heap.size+1) (ptC ⟨s.addr,bl⟩) rfl rfl (ptC_size _) (ptC_ones _) (t:=89) (old:=ptC ptZ) (h2:=ptC_size _) ?_ ?_;(·(repeat(first|(refine heap_at _ _ _ ?_;(simp only[sZ]<;>omega))|(refine(more_heap' _ _ _ _ ?_).trans ?_;(simp only[sZ]<;>omega)))));try simp only[Act.put,xA,xB,xC,fR];try simp (disch:=(first|(simp only[sZ]<;>omega)|fail)) only[more_row,alloc_row_past,alloc_row_at,drew_row,drewN_row]))
   apply ret_ct row89 rfl (w.heap.size+1) (ptC ⟨s.addr,bl⟩) rfl (ptC_size _) (t:=89) (fr:=(0,0)) (hd:=rfl)
   ·(repeat(first|(refine heap_at _ _ _ ?_;(simp only[sZ]<;>omega))|(refine(more_heap' _ _ _ _ ?_).trans ?_;(simp only[sZ]<;>omega))))
   exact⟨ret_sto E.out,by(repeat(first|exact Below.refl _ _|(refine Below.alloc ?_ ?_ _;rotate_left;(first|omega|(simp only[sZ]<;>omega)))|(refine bl_more ?_ ?_ _ _;rotate_left;(simp only[sZ]<;>omega))))⟩
theorem st_eq{a b:St}(h:a=b):Ending.returned (.agg (stC a))= .returned (.agg (stC b)):=by rw[h]
theorem told_any(e:En)(w:World):Calls Tryz.prog 58 #[.agg (enC e)] w fun r w'=>r= .returned (.agg (stC (toldE e)))∧Below w.heap.size w w':=by
 have H:=Lo.start w
 have p2:(e.pc.v+4) % 4294967296=(addU e.pc 4).v:=rfl
 by_cases hh:e.halt=0
 ·go_enter Tryz.func58,Tryz.ntmps58
  go_wp2_with (first|((with_reducible refine gBx 85 0 ?_);refine st_Lbox rfl _ H _ rfl rfl ?_;clear H;intro w1 b1 H;go_frame)|((with_reducible refine gAl 58 ?_);refine st_Lal rfl (stC stZ) zero58 H rfl ?_;clear H;intro w1 b1 hlt1 hb1 H;go_frame)|((with_reducible refine gL 3 5 ?_);refine st_Lll1 rfl one3 H _ rfl _ 13 rfl _ _ mm1 _ (enC_13 _) ?_;go_frame))
  go_wp2_with fail
  refine beginL 10 (l0:=zz11) H (by kernel_rfl) ?_ (by kernel_rfl);intro H1;clear H;revert H1
  apply meet2
  ·intro rest1
   apply meet2
   ·intro rest0
    intro H
    refine tP 0 27 H ?_;go_frame
    refine tC 1 28 rfl (by kernel_rfl) iQ (by(exact yields_one one28 rfl _ rfl _ rfl _ (fun w h=>(h.lcell mm1 1).trans (enC_1 _)))) H ?_;go_frame
    refine tP 2 29 H ?_;go_frame
    refine tC 3 30 rfl (by kernel_rfl) iQ (by(exact yields_one one28 rfl _ rfl _ rfl _ (fun w h=>(h.lcell mm1 1).trans (enC_1 _)))) H ?_;go_frame
    iterate 2 refine rP H ?_;go_frame
    refine tC 6 33 rfl (by kernel_rfl) iQ (by(exact yields_row row83 rfl _ rfl _ _ rfl _ rfl (fun w h j v hj=>(h.lcell mm1 _).trans (sub_inst _ j v hj)))) H ?_;go_frame
    refine twoC (i:=7) (j:=9) (oi:=⟨some 34,_,_,_,_,_⟩) (oj:=⟨some 4,_,_,_,_,_⟩) rfl rfl (by kernel_rfl) (fun K hK=>?_) (fun K hK=>?_)
    ·refine step_fn rfl _ _ _ (writes_any e.i.op e.i.rd e.i.r1 e.i.r2 e.i.imm.v _) (by go_simp<;>rfl) ?_;rintro r w1 ⟨rfl,hb⟩;refine⟨_,rfl,?_⟩;replace H:=H.below hb
     refine hK.out _ _ (fun _=>H) ?_;clear hK K;go_frame
     refine tP 8 35 H ?_;go_frame
     refine o1C 9 4 (fun K hK=>?_)
     refine step_Lal rfl (stC stZ) zero58 H rfl ?_;clear H;intro w1 b1 hlt1 hb1 H
     refine hK.out _ _ (fun _=>H.drop) ?_;clear hK K;go_frame
     exact rest1 w1 b1 H
    ·refine step_Lal rfl (stC stZ) zero58 H rfl ?_;clear H;intro w1 b1 hlt1 hb1 H
     refine hK.out _ _ (fun _=>H.drop) ?_;clear hK K;go_frame
     exact rest0 w1 b1 H
   ·intro w1 b1 H
    refine o1C 7 34 (fun K hK=>?_)
    refine step_fn rfl _ _ _ (writes_any e.i.op e.i.rd e.i.r1 e.i.r2 e.i.imm.v _) (by go_simp<;>rfl) ?_;rintro r w1 ⟨rfl,hb⟩;refine⟨_,rfl,?_⟩;replace H:=H.below hb
    refine hK.out _ _ (fun _=>H.drop) ?_;clear hK K;go_frame
    refine tP 8 35 H.drop ?_;go_frame
    exact rest1 w1 b1 H
  rintro w1 b1 H
  refine o1N 10 (fun K hK=>?_)
  refine step_Lslw rfl cel58 _ _ _ H _ _ rfl rfl (stC (⟨e.pc,addU e.pc 4,wr e.i.op e.i.rd,U.of 0,U.of 0,0,false,0,0⟩)) rfl rfl (stC_ones _) rfl ?_;clear H;intro w1 ho1 H
  refine hK.out _ _ (aB rfl) ?_;clear hK K;go_frame
  refine dnC ?_ _
  go_wp2_with (first|((with_reducible refine gS 58 2 ?_);refine st_Lslw2 rfl cel58 _ _ _ _ H _ _ rfl rfl _ rfl rfl rfl rfl ?_;clear H;intro w1 ho1 H;go_frame)|((with_reducible refine gL 3 36 ?_);refine st_Lll1 rfl one3 H _ rfl _ 2 rfl _ _ mm0 _ (stC_2 _) ?_;go_frame)|((with_reducible refine gL 28 39 ?_);refine st_Lll1 rfl one28 H _ rfl _ 10 rfl _ _ mm2 _ (enC_10 _) ?_;go_frame)|((with_reducible refine gS 28 41 ?_);refine st_Lsl rfl cel28 _ _ _ H _ _ rfl 3 rfl _ rfl rfl rfl (Nat.le_of_ble_eq_true rfl) _ (stU_3 _ _) ?_;clear H;intro w1 ho1 H;go_frame)|((with_reducible refine gL 83 42 ?_);refine st_Lllr rfl row83 H _ rfl _ 2 rfl _ _ mm2 (inC _) rfl (sub_inst _) ?_;go_frame)|((with_reducible refine gS 4 53 ?_);refine st_Lsl rfl cel4 _ _ _ H _ _ rfl 6 rfl _ rfl rfl rfl (Nat.le_of_ble_eq_true rfl) _ (stU_6 _ _) ?_;clear H;intro w1 ho1 H;go_frame)|((with_reducible refine gL 28 54 ?_);refine st_Lll1 rfl one28 H _ rfl _ 10 rfl _ _ mm2 _ (enC_10 _) ?_;go_frame)|((with_reducible refine gS 28 56 ?_);refine st_Lsl rfl cel28 _ _ _ H _ _ rfl 3 rfl _ rfl rfl rfl (Nat.le_of_ble_eq_true rfl) _ (stU_3 _ _) ?_;clear H;intro w1 ho1 H;go_frame)|((with_reducible refine gL 28 57 ?_);refine st_Lll1 rfl one28 H _ rfl _ 12 rfl _ _ mm2 _ (enC_12 _) ?_;go_frame)|((with_reducible refine gS 28 59 ?_);refine st_Lsl rfl cel28 _ _ _ H _ _ rfl 4 rfl _ rfl rfl rfl (Nat.le_of_ble_eq_true rfl) _ (stU_4 _ _) ?_;clear H;intro w1 ho1 H;go_frame)|((with_reducible refine gL 83 60 ?_);refine st_Lllr rfl row83 H _ rfl _ 2 rfl _ _ mm2 (inC _) rfl (sub_inst _) ?_;go_frame)|((with_reducible refine gS 3 63 ?_);refine st_Lsl rfl cel3 _ _ _ H _ _ rfl 5 rfl _ rfl rfl rfl (Nat.le_of_ble_eq_true rfl) _ (stU_5 _ _) ?_;clear H;intro w1 ho1 H;go_frame)|((with_reducible refine gL 3 64 ?_);refine st_Lll1 rfl one3 H _ rfl _ 14 rfl _ _ mm2 _ (enC_14 _) ?_;go_frame)|((with_reducible refine gS 3 66 ?_);refine st_Lsl rfl cel3 _ _ _ H _ _ rfl 8 rfl _ rfl rfl rfl (Nat.le_of_ble_eq_true rfl) _ (stU_8 _ _) ?_;clear H;intro w1 ho1 H;go_frame)|((with_reducible refine gL 28 67 ?_);refine st_Lll1 rfl one28 H _ rfl _ 11 rfl _ _ mm2 _ (enC_11 _) ?_;go_frame)|((with_reducible refine gS 28 69 ?_);refine st_Lsl rfl cel28 _ _ _ H _ _ rfl 1 rfl _ rfl rfl rfl (Nat.le_of_ble_eq_true rfl) _ (stU_1 _ _) ?_;clear H;intro w1 ho1 H;go_frame)|((with_reducible refine gL 58 4 ?_);refine st_Lllr rfl row58 H _ rfl _ 0 rfl _ _ mm0 _ rfl (Sub.all _) ?_;go_frame)|(go_at_call 52;refine(kind_any _ _ _ _ _ _).mono ?_;rintro r w1 ⟨rfl,hb⟩;replace H:=H.below hb)|(go_at_call 82;refine(size_any _ _ _ _ _ _).mono ?_;rintro r w1 ⟨rfl,hb⟩;replace H:=H.below hb))
  all_goals
   apply ret_row row58 rfl _ (stC _) rfl (stC_size _) (t:=58) (fr:=(0,0)) (hd:=rfl) (hg:=H.row mm1)
   refine⟨st_eq ?_,H.bl⟩
   unfold toldE
   simp_all
 ·by_cases h4:e.halt=4
  ·have d4:(e.halt== 4)=true:=by rw[h4];rfl
   have H4:=Lib.hid h4
   clear h4
   go_enter Tryz.func58,Tryz.ntmps58
   go_wp2_with (first|((with_reducible refine gS 58 3 ?_);refine st_Lslw rfl cel58 _ _ _ H _ _ rfl rfl (stC (⟨e.pc,e.pc,0,U.of 0,U.of 0,0,false,e.halt,0⟩)) rfl rfl (stC_ones _) rfl ?_;clear H;intro w1 ho1 H;go_frame)|((with_reducible refine gBx 85 0 ?_);refine st_Lbox rfl _ H _ rfl rfl ?_;clear H;intro w1 b1 H;go_frame)|((with_reducible refine gAl 58 ?_);refine st_Lal rfl (stC stZ) zero58 H rfl ?_;clear H;intro w1 b1 hlt1 hb1 H;go_frame)|((with_reducible refine gL 3 5 ?_);refine st_Lll1 rfl one3 H _ rfl _ 13 rfl _ _ mm1 _ (enC_13 _) ?_;go_frame)|((with_reducible refine gL 28 8 ?_);refine st_Lll1 rfl one28 H _ rfl _ 1 rfl _ _ mm1 _ (enC_1 _) ?_;go_frame)|((with_reducible refine gL 28 10 ?_);refine st_Lll1 rfl one28 H _ rfl _ 1 rfl _ _ mm1 _ (enC_1 _) ?_;go_frame)|((with_reducible refine gL 3 12 ?_);refine st_Lll1 rfl one3 H _ rfl _ 13 rfl _ _ mm1 _ (enC_13 _) ?_;go_frame)|((with_reducible refine gL 3 15 ?_);refine st_Lll1 rfl one3 H _ rfl _ 13 rfl _ _ mm2 _ (enC_13 _) ?_;go_frame)|((with_reducible refine gL 28 23 ?_);refine st_Lll1 rfl one28 H _ rfl _ 12 rfl _ _ mm2 _ (enC_12 _) ?_;go_frame)|((with_reducible refine gS 28 25 ?_);refine st_Lsl rfl cel28 _ _ _ H _ _ rfl 4 rfl _ rfl rfl rfl (Nat.le_of_ble_eq_true rfl) _ (stU_4 _ _) ?_;clear H;intro w1 ho1 H;go_frame)|((with_reducible refine gL 58 3 ?_);refine st_Lllr rfl row58 H _ rfl _ 0 rfl _ _ mm0 _ rfl (Sub.all _) ?_;go_frame)|((with_reducible refine gS 58 2 ?_);refine st_Lslw2 rfl cel58 _ _ _ _ H _ _ rfl rfl _ rfl rfl rfl rfl ?_;clear H;intro w1 ho1 H;go_frame))
   all_goals
    apply ret_row row58 rfl _ (stC _) rfl (stC_size _) (t:=58) (fr:=(0,0)) (hd:=rfl) (hg:=H.row mm1)
    refine⟨st_eq ?_,H.bl⟩
    have h4:=H4.out
    unfold toldE
    simp_all
  ·have d4:(e.halt== 4)=false:=by simpa using h4
   go_enter Tryz.func58,Tryz.ntmps58
   go_wp2_with (first|((with_reducible refine gS 58 3 ?_);refine st_Lslw rfl cel58 _ _ _ H _ _ rfl rfl (stC (⟨e.pc,e.pc,0,U.of 0,U.of 0,0,false,e.halt,0⟩)) rfl rfl (stC_ones _) rfl ?_;clear H;intro w1 ho1 H;go_frame)|((with_reducible refine gBx 85 0 ?_);refine st_Lbox rfl _ H _ rfl rfl ?_;clear H;intro w1 b1 H;go_frame)|((with_reducible refine gAl 58 ?_);refine st_Lal rfl (stC stZ) zero58 H rfl ?_;clear H;intro w1 b1 hlt1 hb1 H;go_frame)|((with_reducible refine gL 3 5 ?_);refine st_Lll1 rfl one3 H _ rfl _ 13 rfl _ _ mm1 _ (enC_13 _) ?_;go_frame)|((with_reducible refine gL 28 8 ?_);refine st_Lll1 rfl one28 H _ rfl _ 1 rfl _ _ mm1 _ (enC_1 _) ?_;go_frame)|((with_reducible refine gL 28 10 ?_);refine st_Lll1 rfl one28 H _ rfl _ 1 rfl _ _ mm1 _ (enC_1 _) ?_;go_frame)|((with_reducible refine gL 3 12 ?_);refine st_Lll1 rfl one3 H _ rfl _ 13 rfl _ _ mm1 _ (enC_13 _) ?_;go_frame)|((with_reducible refine gL 3 15 ?_);refine st_Lll1 rfl one3 H _ rfl _ 13 rfl _ _ mm2 _ (enC_13 _) ?_;go_frame)|((with_reducible refine gL 3 19 ?_);refine sTj rfl ?_;refine wp_Lll1 one3 H _ rfl _ 13 rfl _ _ mm2 _ (enC_13 _) ?_;go_frame)|((with_reducible refine gL 28 23 ?_);refine st_Lll1 rfl one28 H _ rfl _ 12 rfl _ _ mm2 _ (enC_12 _) ?_;go_frame)|((with_reducible refine gS 28 25 ?_);refine st_Lsl rfl cel28 _ _ _ H _ _ rfl 4 rfl _ rfl rfl rfl (Nat.le_of_ble_eq_true rfl) _ (stU_4 _ _) ?_;clear H;intro w1 ho1 H;go_frame)|((with_reducible refine gL 58 3 ?_);refine st_Lllr rfl row58 H _ rfl _ 0 rfl _ _ mm0 _ rfl (Sub.all _) ?_;go_frame)|((with_reducible refine gS 58 2 ?_);refine st_Lslw2 rfl cel58 _ _ _ _ H _ _ rfl rfl _ rfl rfl rfl rfl ?_;clear H;intro w1 ho1 H;go_frame))
   all_goals
    apply ret_row row58 rfl _ (stC _) rfl (stC_size _) (t:=58) (fr:=(0,0)) (hd:=rfl) (hg:=H.row mm1)
    refine⟨st_eq ?_,H.bl⟩
    unfold toldE
    simp_all
theorem flat_put{α:Type}{lay:α→Array Value}{k:Nat}(hk:∀ x,(lay x).size=k):∀(L:List α) (i:Nat) (x:α),i<L.length→putA (flat lay L) (i*k) (lay x)=flat lay (L.set i x):=by
 intro L i x hi
 have hs:(flat lay L).size=L.length*k:=flat_size hk L
 have hik:(i+1)*k≤L.length*k:=Nat.mul_le_mul_right k (by omega)
 rw[Nat.add_mul,Nat.one_mul]at hik
 apply Array.ext_getElem?
 intro m
 rw[putA_get _ _ _ (by rw[hk,hs];omega)]
 rw[hk]
 have hs2:(flat lay (L.set i x)).size=L.length*k:=by rw[flat_size hk,List.length_set]
 by_cases hm:m<L.length*k
 ·have hk0:0<k:=by rcases Nat.eq_zero_or_pos k with e|e;(subst e;simp at hm);exact e
  have hq:m / k<L.length:=Nat.div_lt_of_lt_mul (by rw[Nat.mul_comm];exact hm)
  have e3:m / k*k+m % k=m:=by rw[Nat.mul_comm];exact Nat.div_add_mod m k
  have hr:=Nat.mod_lt m hk0
  have key:∀(M:List α) (y:α),M[m / k]?=some y→(flat lay M)[m]?=(lay y)[m % k]?:=fun M y hy=>by
   have hr2:m % k<(lay y).size:=by rw[hk];exact hr
   have h4:=flat_get hk M (m / k) y (m % k) ((lay y)[m % k]'hr2) hy (Array.getElem?_eq_getElem hr2)
   rw[e3]at h4
   rw[Array.getElem?_eq_getElem hr2,← h4]
   simp[flat]
  by_cases c:m / k=i
  ·subst c
   rw[if_neg (by omega),if_pos (by omega),key (L.set (m / k) x) x (by rw[List.getElem?_set_self hq])]
   congr 1
   omega
  ·have hy:=List.getElem?_eq_getElem hq
   rw[key (L.set i x) L[m / k] (by rw[List.getElem?_set_ne (fun e=>c e.symm)];exact hy)]
   rw[key L L[m / k] hy]
   rcases Nat.lt_or_gt_of_ne c with c|c
   ·have:(m / k+1)*k≤i*k:=Nat.mul_le_mul_right k (by omega)
    rw[Nat.add_mul,Nat.one_mul]at this
    rw[if_pos (by omega)]
   ·have:(i+1)*k≤m / k*k:=Nat.mul_le_mul_right k (by omega)
    rw[Nat.add_mul,Nat.one_mul]at this
    rw[if_neg (by omega),if_neg (by omega)]
 ·rw[Array.getElem?_eq_none (by omega),if_neg (by omega),if_neg (by omega),Array.getElem?_eq_none (by omega)]
theorem Lo.take{α:Type}{lay:α→Array Value}{k:Nat}{ws w:World}{l:List Lc}{g n:Nat}{e:TypeId}{L:List α}(hk:∀ x,(lay x).size=k)(hk0:0<k)(H:Lo ws w l)(ho:Ow lay k w ws.heap.size e (.slice (some ⟨g,0,none⟩) n n) L)(he:∀ x∈l,x.2.2≠e):Lo ws w ((g,flat lay L,e)::l):=by
 have ha:=ow_apart H ho he (Nat.le_refl _) g rfl
 obtain⟨⟨h1,h2⟩,h3⟩:=ho
 rcases h2 with⟨q,_⟩|⟨gg,cap,cur,q1,q2,q3,q4,q5,q6,q7⟩
 ·cases q
 ·simp only[Value.slice.injEq,Option.some.injEq,Addr.mk.injEq,and_true,true_and]at q1
  obtain⟨rfl,hn,hc⟩:=q1
  have e1:cur=flat lay L:=by
   have:cur.toList=(flat lay L).toList:=by
    rw[← q7,List.take_of_length_le]
    rw[Array.length_toList,q6,← hc,hn]
    exact Nat.le_refl _
   exact Array.ext' this
  subst e1
  exact⟨H.bl,(fun x hx=>by
   rcases List.mem_cons.1 hx with e|hx
   ·subst e;exact⟨q3,q2⟩
   ·exact H.lc x hx),List.pairwise_cons.2 ⟨(fun x hx e=>ha.2 x hx e.symm),H.nd⟩⟩
theorem guO(A B:Option Addr)(n C m D:Nat)(x:Int):Ones #[.slice A n C,.int .u32 x,.slice B m D]:=(rfl)
def Prt(w W:World)(A:Option Addr)(n C:Nat):Prop:=∃ N:List U,Sl u32C 1 W A n N∧Wf A n C∧(∀ p,A=some p→w.heap.size≤p.block)
theorem prt_own{w W:World}{A:Option Addr}{n C:Nat}{N:List U}(h:Ow u32C 1 W w.heap.size 28 (.slice A n C) N):Prt w W A n C:=by
 obtain⟨A',C',e,f1,f2,f3⟩:=h.sl2 u32C_size
 cases e
 exact⟨N,f1,f2,f3⟩
theorem prt_drop{w W:World}{g n C:Nat}(h:Prt w W (some ⟨g,0,none⟩) (n+1) C):Prt w W (some ⟨g,1,none⟩) n (C-1):=by
 obtain⟨N,f1,f2,f3⟩:=h
 have:=f1.drop (i:=1) (C:=C) (A':=some ⟨g,1,none⟩) (by omega) f2.le (fun _=>rfl)
 exact⟨_,this,⟨fun e=>(by cases e),(by have:=f2.le;omega),(by have:=f2.few;omega)⟩,fun p hp=>by cases hp;exact f3 ⟨g,0,none⟩ rfl⟩
theorem prt_take{w W:World}{A:Option Addr}{n m C:Nat}(h:Prt w W A n C)(hm:m≤n):Prt w W A m C:=by
 obtain⟨N,f1,f2,f3⟩:=h
 exact⟨_,f1.take hm,⟨f2.nil,(by have:=f2.le;omega),f2.few⟩,f3⟩
theorem train_end{w W:World}{l:List Lc}(s:Gc)(H:Lo w W l)(g:Nat)(M:List Sk)(hm:M.length=8)(hg:(g,flat skC M,155)∈l)(hw:w.heap.size≤g)(A:Option Addr)(n C:Nat)(h:Prt w W A n C)(x:Int):GuP (some s) (fun _=>True) w (.returned (.agg #[.slice (some ⟨g,0,none⟩) 8 8,.int .u32 (x % 8),.slice A n C])) W:=by
 obtain⟨N,f1,f2,f3⟩:=h
 have hs:=Sl.new (w:=W) (L:=M) (t:=155) (fr:=(0,0)) skC_size (H.row hg) (by omega)
 rw[hm]at hs
 exact⟨⟨⟨some ⟨g,0,none⟩,8,8⟩,⟨x % 8,by omega,by omega⟩,⟨A,n,C⟩⟩,⟨M,⟨x % 8,by omega,by omega⟩,N⟩,rfl,⟨rfl,hs,⟨fun e=>(by cases e),Nat.le_refl _,by show 8≤_;omega⟩,f1,f2⟩,trivial,.inr ⟨fun p hp=>by cases hp;exact hw,f3⟩,H.bl⟩
theorem train_0(sa:Option Addr)(sc:Nat)(hist:U)(ra:Option Addr)(rc:Nat)(g:Gu)(pc next:U)(i:In)(w:World)(h:GuR w ⟨⟨sa,8,sc⟩,hist,⟨ra,0,rc⟩⟩ g)(hr:rightG g=true)(hk:kd i.op=5):Calls Tryz.prog 61 #[.agg (guC ⟨⟨sa,8,sc⟩,hist,⟨ra,0,rc⟩⟩),.int .u32 pc.v,.int .u32 next.v,.agg (inC i)] w (GuP (some ⟨⟨sa,8,sc⟩,hist,⟨ra,0,rc⟩⟩) (fun _=>True) w):=by
 have H:=Lo.start w
 have HG:=Lib.hid h
 have RG:=Lib.hid (fun W h'=>rightg_any ⟨⟨sa,8,sc⟩,hist,⟨ra,0,rc⟩⟩ g W h')
 rw[hr]at RG
 have l1:g.slots.length=8:=h.sl.len
 have l2:g.returns.length=0:=h.rl.len
 have d1:(kd i.op != 5)=false:=by rw[hk];rfl
 have hlt:=slotN_lt hist pc
 have b1:(0:Int)≤(slotN hist pc:Int):=by omega
 have b2:(slotN hist pc:Int)<8:=by omega
 have L1:=Lib.hid l1
 have L2:=Lib.hid l2
 have L3:=Lib.hid (show(g.returns++[addU pc 4]).length=0+1 by rw[List.length_append,L2.out];rfl)
 clear hk h l1 l2 hr
 go_enter Tryz.func61,Tryz.ntmps61
 go_wp2_with (first|(go_at_call 38;refine(RG.out _ (HG.out.below H.bl)).mono ?_;rintro r w1 ⟨rfl,hb⟩;replace H:=H.below hb)|(go_at_call 52;refine(kind_any _ _ _ _ _ _).mono ?_;rintro r w1 ⟨rfl,hb⟩;replace H:=H.below hb)|(go_at_call 90;refine(slotof_any ⟨⟨sa,8,sc⟩,hist,⟨ra,_,rc⟩⟩ pc _).mono ?_;rintro r w1 ⟨rfl,hb⟩;replace H:=H.below hb)|(go_at_call 91;refine(calls_any i _).mono ?_;rintro r w1 ⟨⟨yn,rfl⟩,hb⟩;replace H:=H.below hb;have HP4:=Lib.hid (HP3.out.below hb);clear HP3;have HP3:=HP4;clear HP4 hb;cases yn)|(go_at_call 92;refine(back_any i _).mono ?_;rintro r w1 ⟨⟨yn,rfl⟩,hb⟩;replace H:=H.below hb;have HP4:=Lib.hid (HP3.out.below hb);clear HP3;have HP3:=HP4;clear HP4 hb;cases yn)|((with_reducible refine gD (Op.makeSlice 37 _ _) ?_);refine full_sl (α:=Sk) (lay:=skC) slT37 skZ (by kernel_rfl) skC_size rfl _ _ rfl w.heap.size .i64 .i64 8 8 8 rfl rfl rfl rfl (by decide) H.bl.size ?_;intro v1 w1 h1 e1 g1;replace H:=H.grown g1 (fun r hr=>by cases hr);obtain⟨g1',hg1'⟩:∃ q:Nat,v1= .slice (some ⟨q,0,none⟩) 8 8:=⟨_,e1⟩;have hq1:w.heap.size≤g1':=(by subst hg1';exact h1.row g1' rfl);have HQ1:=Lib.hid hq1;clear hq1 e1;subst hg1';have HO:=h1;clear h1 g1;try simp only[Act.put,xA,xB,xC,fR])|((with_reducible refine gD (Op.call { callee:=Callee.builtin Builtin.copy,args:=_,argTypes:=_ }) ?_);refine copy_sl slT37 skC_size skC_ones rfl _ _ rfl w.heap.size (.slice (some ⟨g1',0,none⟩) 8 8) (List.replicate 8 skZ) rfl HO sa 8 sc g.slots rfl (HG.out.below H.bl).sl (by simp) ?_;intro w1 h1 g2;have H1:=H.grown g2 (ow_apart H HO (by intro x hx;simp at hx;rcases hx with rfl|rfl|rfl<;>simp) (Nat.le_refl _));have H2:=Lo.take skC_size (by decide) H1 h1 (by intro x hx;simp at hx;rcases hx with rfl|rfl|rfl<;>simp);clear H H1 HO h1 g2;have H:=H2;clear H2;try simp only[Act.put,xA,xB,xC,fR])|((with_reducible refine gS 155 34 ?_);(refine st_LslI rfl cel155 0 _ _ _ H rfl _ _ rfl (slotN hist pc*2) rfl (.agg (skC ⟨pc,next⟩)) rfl rfl rfl (by rw[flat_size skC_size,L1.out];omega) _ (flat_put skC_size _ _ ⟨pc,next⟩ (by rw[L1.out];exact hlt)) rfl ?_);intro w1 ho1 H1;try simp only[xB,xC]at H1;clear H;have H:=H1;clear H1;try simp only[Act.put,xA,xB,xC,fR])|((with_reducible refine gD (Op.makeSlice 23 _ _) ?_);refine make_sl (α:=U) (lay:=u32C) slT23 rfl _ _ rfl w.heap.size .i64 .i64 5 5 rfl rfl rfl (by decide) H.bl.size ?_;intro v2 w1 h1 g1;replace H:=H.grown g1 (fun r hr=>by cases hr);obtain⟨A2,C2,e2,q1,q2,q3⟩:=h1.sl2 u32C_size;rw[List.length_nil]at e2;subst e2;have HP:=h1;clear h1 g1 q1 q2 q3;try simp only[Act.put,xA,xB,xC,fR])|(with_reducible (show wpList Tryz.prog _ _ (⟨some 48,_,_,_,_,_⟩::_) _ _);at_builtin;refine app_sl slT23 u32C_size u32C_ones rfl _ _ rfl w.heap.size (.slice A2 0 C2) [] rfl HP ra _ rc g.returns rfl (HG.out.below H.bl).rl (HG.out).rw.nil (by simp) H.bl.size ?_;intro v3 w1 h3 g3;have H1:=H.grown g3 (ow_apart H HP (by intro x hx;simp at hx;rcases hx with rfl|rfl|rfl|rfl<;>simp) (Nat.le_refl _));clear H;have H:=H1;clear H1 HP;rw[List.nil_append]at h3;(obtain⟨A3,C3,e3,q1,q2,q3⟩:=h3.sl2 u32C_size;rw[L2.out]at e3;subst e3;have HP3:=Lib.hid h3;clear h3 g3 q1 q2);try simp only[Act.put,xA,xB,xC,fR])|(at_builtin;(refine app_sl slT23 u32C_size u32C_ones rfl _ _ rfl w.heap.size _ g.returns rfl (HP3.out.below ((Below.refl _ _).alloc (Nat.le_refl _) _)) (some ⟨_,0,none⟩) 1 1 [addU pc 4] rfl (Sl.new (t:=28) (fr:=(0,0)) u32C_size (heap_alloc_new _ _) (by simp)) (fun h=>by cases h) (by have:=L2.out;simp;omega) (by rw[World.size_alloc];have:=H.bl.size;omega) ?_);intro v4 w1 h4 g4;have H1:=H.app HP3.out g4 (by intro x hx;simp at hx;rcases hx with rfl|rfl|rfl|rfl<;>simp) (Nat.le_refl _);clear H;have H:=H1;clear H1 HP3;obtain⟨g4',c4',cur4,e4,b4,_,k4,_,m4⟩:=h4.lies (by simp);rw[L3.out]at e4 k4;subst e4;have HP3:=Lib.hid h4;clear h4 g4;try simp only[Act.put,xA,xB,xC,fR])|((with_reducible refine gS 39 8 ?_);have ap:=ow_apart H HP3.out (by intro x hx;simp at hx;rcases hx with rfl|rfl|rfl|rfl<;>simp) (Nat.le_refl _);refine st_Lslw2 rfl cel39 _ _ _ _ H _ _ rfl rfl _ rfl rfl (guO _ _ _ _ _ _ _) rfl ?_;intro w1 ho1 H1;have HP4:=Lib.hid (prt_own (ow_off HP3.out (fun r hr=>(ap r hr).2 _ mm1) ho1));clear HP3 H ap;have H:=H1;clear H1;have HP3:=HP4;clear HP4;try simp only[Act.put,xA,xB,xC,fR])|((with_reducible refine gBx 39 0 ?_);refine st_Lbox rfl _ H _ rfl rfl ?_;clear H;intro w1 b1 H;go_frame)|((with_reducible refine gBx 83 3 ?_);refine st_Lbox rfl _ H _ rfl rfl ?_;clear H;intro w1 b1 H;go_frame)|((with_reducible refine gAl 39 ?_);refine st_Lal rfl (guC guZ) zero39 H rfl ?_;clear H;intro w1 b8 hlt1 hb1 H;go_frame)|((with_reducible refine gL 39 4 ?_);refine st_Lllr rfl row39 H _ rfl _ 0 rfl _ _ mm2 _ rfl (Sub.all _) ?_;go_frame)|((with_reducible refine gL 39 4 ?_);refine st_Lllr rfl row39 H _ rfl _ 0 rfl _ _ mm3 _ rfl (Sub.all _) ?_;go_frame)|((with_reducible refine gL 83 7 ?_);refine sTj rfl ?_;refine wp_Lllr row83 H _ rfl _ 0 rfl _ _ mm1 _ rfl (Sub.all _) ?_;go_frame)|((with_reducible refine gL 83 7 ?_);refine sTj rfl ?_;refine wp_Lllr row83 H _ rfl _ 0 rfl _ _ mm2 _ rfl (Sub.all _) ?_;go_frame)|((with_reducible refine gL 37 24 ?_);refine st_Lll1 rfl one37 H _ rfl _ 0 rfl _ _ mm2 _ (guC_0 _) ?_;go_frame)|((with_reducible refine gL 28 35 ?_);refine st_Lll1 rfl one28 H _ rfl _ 1 rfl _ _ mm3 _ (guC_1 _) ?_;go_frame)|((with_reducible refine gL 23 46 ?_);refine st_Lll1 rfl one23 H _ rfl _ 2 rfl _ _ mm3 _ (guC_2 _) ?_;go_frame))
 all_goals
  apply ret_row row39 rfl _ _ rfl rfl (t:=39) (fr:=(0,0)) (hd:=rfl) (hg:=H.row mm1)
  refine train_end _ H _ _ (by rw[List.length_set,L1.out]) mm0 HQ1.out _ _ _ ?_ _
  exact HP3.out
end Go.Proofs.YtdmhfogegfmnfaaGreatDoor
