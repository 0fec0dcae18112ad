/- What a store into the machine makes, field by field; entries written; appends. No conditions. Printed by gen_k11.py. Appends onto the machine's slices, at an operation. No conditions. A region that draws its order: loads that one of its operations waits for may be taken first, whatever comes behind that one. No conditions. Shorter forms of the steps of a drawn region: the .. -/
import Derived.Test.YtdmhfogegfmnfaaGreatDoorG01
import Derived.Test.YtdmhfogegfmnfaaGreatDoorG03
import Derived.Deep.AppendLies
import Derived.Deep.RegionHeld3
set_option linter.unusedVariables false
set_option linter.unusedSimpArgs false
namespace Go.Proofs.YtdmhfogegfmnfaaGreatDoor
open Go.RowKit
section
variable {w0 w w':World} {g:Nat} {κ κ':Nat→Nat} {c c':Co} {s s':Ss}
theorem MR.s_cycle(h:MR w0 w g κ c s)(x:Int):MR w0 w g κ { c with cycle:=x } s:=⟨h.bl,h.gcol,h.g1,h.new,h.regs,h.lat,h.tape,h.prog,h.fetched,h.rob,h.stores,h.data,h.words,h.bus,h.slots,h.returns,h.retired⟩
theorem MR.s_fetch(h:MR w0 w g κ c s)(x:U):MR w0 w g κ { c with fetch:=x } s:=⟨h.bl,h.gcol,h.g1,h.new,h.regs,h.lat,h.tape,h.prog,h.fetched,h.rob,h.stores,h.data,h.words,h.bus,h.slots,h.returns,h.retired⟩
theorem MR.s_stop(h:MR w0 w g κ c s)(x:Bool):MR w0 w g κ { c with stop:=x } s:=⟨h.bl,h.gcol,h.g1,h.new,h.regs,h.lat,h.tape,h.prog,h.fetched,h.rob,h.stores,h.data,h.words,h.bus,h.slots,h.returns,h.retired⟩
theorem MR.s_next(h:MR w0 w g κ c s)(x:Int):MR w0 w g κ { c with next:=x } s:=⟨h.bl,h.gcol,h.g1,h.new,h.regs,h.lat,h.tape,h.prog,h.fetched,h.rob,h.stores,h.data,h.words,h.bus,h.slots,h.returns,h.retired⟩
theorem MR.s_asked(h:MR w0 w g κ c s)(x:Int):MR w0 w g κ { c with asked:=x } s:=⟨h.bl,h.gcol,h.g1,h.new,h.regs,h.lat,h.tape,h.prog,h.fetched,h.rob,h.stores,h.data,h.words,h.bus,h.slots,h.returns,h.retired⟩
theorem MR.s_guessed(h:MR w0 w g κ c s)(x:Int):MR w0 w g κ { c with guessed:=x } s:=⟨h.bl,h.gcol,h.g1,h.new,h.regs,h.lat,h.tape,h.prog,h.fetched,h.rob,h.stores,h.data,h.words,h.bus,h.slots,h.returns,h.retired⟩
theorem MR.s_mem(h:MR w0 w g κ c s)(x:By):MR w0 w g κ { c with mem:=x } s:=⟨h.bl,h.gcol,h.g1,h.new,h.regs,h.lat,h.tape,h.prog,h.fetched,h.rob,h.stores,h.data,h.words,h.bus,h.slots,h.returns,h.retired⟩
theorem MR.s_halt(h:MR w0 w g κ c s)(x:Int):MR w0 w g κ { c with halt:=x } s:=⟨h.bl,h.gcol,h.g1,h.new,h.regs,h.lat,h.tape,h.prog,h.fetched,h.rob,h.stores,h.data,h.words,h.bus,h.slots,h.returns,h.retired⟩
theorem MR.s_regs(h:MR w0 w g κ c s)(x:List U)(hx:x.length=32):MR w0 w g κ { c with regs:=x } s:=⟨h.bl,h.gcol,h.g1,h.new,hx,h.lat,h.tape,h.prog,h.fetched,h.rob,h.stores,h.data,h.words,h.bus,h.slots,h.returns,h.retired⟩
theorem MR.s_rob(h:MR w0 w g κ c s)(t:Sv)(L:List En)(q:Rw κ 2 enC 17 85 w t L):MR w0 w g κ { c with rob:=L } { s with rob:=t }:=⟨h.bl,h.gcol,h.g1,h.new,h.regs,h.lat,h.tape,h.prog,h.fetched,q,h.stores,h.data,h.words,h.bus,h.slots,h.returns,h.retired⟩
theorem MR.s_fetched(h:MR w0 w g κ c s)(t:Sv)(L:List Fe)(q:Fet c.ph κ w0.heap.size w t L):MR w0 w g κ { c with fetched:=L } { s with fetched:=t }:=⟨h.bl,h.gcol,h.g1,h.new,h.regs,h.lat,h.tape,h.prog,q,h.rob,h.stores,h.data,h.words,h.bus,h.slots,h.returns,h.retired⟩
theorem MR.s_stores(h:MR w0 w g κ c s)(t:Sv)(L:List Pt)(q:Sto c.ph κ w0.heap.size w t L):MR w0 w g κ { c with stores:=L } { s with stores:=t }:=⟨h.bl,h.gcol,h.g1,h.new,h.regs,h.lat,h.tape,h.prog,h.fetched,h.rob,q,h.data,h.words,h.bus,h.slots,h.returns,h.retired⟩
theorem MR.s_bus(h:MR w0 w g κ c s)(t:Sv)(L:List Rq)(q:Rd (fun j=>κ j=0) rqC 4 w t L):MR w0 w g κ { c with bus:=L } { s with bus:=t }:=⟨h.bl,h.gcol,h.g1,h.new,h.regs,h.lat,h.tape,h.prog,h.fetched,h.rob,h.stores,h.data,h.words,q,h.slots,h.returns,h.retired⟩
theorem MR.s_data(h:MR w0 w g κ c s)(t:Sv)(x:Ca)(q:CaX (fun j=>κ j=0) w t x):MR w0 w g κ { c with data:=x } { s with data:=t }:=⟨h.bl,h.gcol,h.g1,h.new,h.regs,h.lat,h.tape,h.prog,h.fetched,h.rob,h.stores,q,h.words,h.bus,h.slots,h.returns,h.retired⟩
theorem MR.s_words(h:MR w0 w g κ c s)(t:Sv)(x:Ca)(q:CaX (fun j=>κ j=0) w t x):MR w0 w g κ { c with words:=x } { s with words:=t }:=⟨h.bl,h.gcol,h.g1,h.new,h.regs,h.lat,h.tape,h.prog,h.fetched,h.rob,h.stores,h.data,q,h.bus,h.slots,h.returns,h.retired⟩
theorem MR.s_guess(h:MR w0 w g κ c s)(t u:Sv)(x:Gu)(q:Rd (fun j=>κ j=0) skC 2 w t x.slots)(r:Rd (fun j=>κ j=0) u32C 1 w u x.returns):MR w0 w g κ { c with guess:=x } { s with slots:=t,returns:=u }:=⟨h.bl,h.gcol,h.g1,h.new,h.regs,h.lat,h.tape,h.prog,h.fetched,h.rob,h.stores,h.data,h.words,h.bus,q,r,h.retired⟩
theorem MR.s_ph1(h:MR w0 w g κ c s)(hp:c.ph=0):MR w0 w g κ { c with ph:=1 } s:=⟨h.bl,h.gcol,h.g1,h.new,h.regs,h.lat,h.tape,h.prog,⟨h.fetched.ap,fun(q:1=0)=>absurd q (by decide)⟩,h.rob,⟨h.stores.sl,h.stores.wf,h.stores.av,fun _=>h.stores.ap (by omega)⟩,h.data,h.words,h.bus,h.slots,h.returns,h.retired⟩
theorem MR.s_ph2(h:MR w0 w g κ c s):MR w0 w g κ { c with ph:=2 } s:=⟨h.bl,h.gcol,h.g1,h.new,h.regs,h.lat,h.tape,h.prog,⟨h.fetched.ap,fun(q:2=0)=>absurd q (by decide)⟩,h.rob,⟨h.stores.sl,h.stores.wf,h.stores.av,fun(q:2≤1)=>absurd q (by decide)⟩,h.data,h.words,h.bus,h.slots,h.returns,h.retired⟩
end
theorem Rw.nil{α:Type}(κ:Nat→Nat)(col:Nat)(lay:α→Array Value)(k:Nat)(e:TypeId)(w:World):Rw κ col lay k e w ⟨none,0,0⟩ ([]:List α):=⟨Sl.none_ _,Wf.zero,fun h=>absurd h (by decide)⟩
theorem Ap.nil{α:Type}(κ:Nat→Nat)(col:Nat)(lay:α→Array Value)(k:Nat)(e:TypeId)(B:Nat)(w:World):Ap κ col lay k e B w ⟨none,0,0⟩ ([]:List α):=⟨Sl.none_ _,Wf.zero,.inl ⟨fun h=>absurd h (by decide),rfl⟩⟩
structure Tr(κ κ':Nat→Nat)(x:Nat)(w w':World):Prop where
 os:w'.os=w.os
 tape:w'.tape=w.tape
 output:w'.output=w.output
 size:w.heap.size≤w'.heap.size
 heap:∀ j,j<w.heap.size→κ j≠x→w'.heap[j]?=w.heap[j]?
 old:∀ j,j<w.heap.size→κ' j=κ j
 new:∀ j,w.heap.size≤j→κ' j≠0→j<w'.heap.size∧κ' j≠1
section
variable {α:Type} {κ κ':Nat→Nat} {x col k B g:Nat} {lay:α→Array Value} {e:TypeId} {w w' w0:World} {s:Sv} {L:List α}
theorem Rd.tr(h:Rd (fun j=>κ j=0) lay k w s L)(t:Tr κ κ' x w w')(hx:x≠0):Rd (fun j=>κ' j=0) lay k w' s L:=by
 have h1:Rd (fun j=>κ j=0∧j<w.heap.size) lay k w s L:=h.mono fun j h1 h2=>⟨h1,h2⟩
 have h2:=h1.same t.size (fun j hj=>t.heap j hj.2 (fun e=>hx (e.symm.trans hj.1)))
 exact h2.mono fun j h3 _=>(t.old j h3.2).trans h3.1
theorem caTr{s:Sv}{c:Ca}(h:CaX (fun j=>κ j=0) w s c)(t:Tr κ κ' x w w')(hx:x≠0):CaX (fun j=>κ' j=0) w' s c:=by
 have h1:CaX (fun j=>κ j=0∧j<w.heap.size) w s c:=h.mono fun j h1 h2=>⟨h1,h2⟩
 have h2:=h1.same t.size (fun j hj=>t.heap j hj.2 (fun e=>hx (e.symm.trans hj.1)))
 exact h2.mono fun j h3 _=>(t.old j h3.2).trans h3.1
theorem Rw.tr(h:Rw κ col lay k e w s L)(t:Tr κ κ' x w w')(hx:x≠col):Rw κ' col lay k e w' s L:=by
 have key:0<s.n→∃ r off cur,s.a=some ⟨r,off,none⟩∧κ' r=col∧w'.heap[r]?=some (.cells cur e (0,0))∧off+s.n*k≤cur.size∧κ r=col∧r<w.heap.size:=fun hn=>by
  obtain⟨r,off,cur,h1,h2,h3,h4⟩:=h.own hn
  have hr:=(Array.getElem?_eq_some_iff.1 h3).1
  exact⟨r,off,cur,h1,(t.old r hr).trans h2,(t.heap r hr (fun e=>hx (e.symm.trans h2))).trans h3,h4,h2,hr⟩
 refine⟨?_,h.wf,fun hn=>?_⟩
 ·refine h.sl.sameX (X:=fun j=>κ j=col∧j<w.heap.size) (fun hn p hp=>?_) t.size (fun j hj=>t.heap j hj.2 (fun e=>hx (e.symm.trans hj.1)))
  obtain⟨r,off,cur,h1,_,_,_,h5,h6⟩:=key hn
  rw[hp]at h1;cases h1;exact⟨h5,h6⟩
 ·obtain⟨r,off,cur,h1,h2,h3,h4,_⟩:=key hn
  exact⟨r,off,cur,h1,h2,h3,h4⟩
theorem Ap.tr(h:Ap κ col lay k e B w s L)(t:Tr κ κ' x w w')(hx:x≠0)(hc:x≠col)(hk:∀ x,(lay x).size=k):Ap κ' col lay k e B w' s L:=by
 rcases h.how with⟨h1,h2⟩|⟨h1,h2⟩
 ·have h3:=Rd.tr ⟨h.sl,h.wf,h1⟩ t hx
  exact⟨h3.sl,h.wf,.inl ⟨h3.av,h2⟩⟩
 ·have lt:∀ p,s.a=some p→p.block<w.heap.size:=fun p hp=>by
   rcases h1.1.2 with⟨hv,_⟩|⟨g',cap,cur,hv,_,hg,_⟩
   ·simp[hp]at hv
   ·simp[hp]at hv;rw[hv.1];exact(Array.getElem?_eq_some_iff.1 hg).1
  have h3:Ow lay k w' B e (.slice s.a s.n s.c) L:=h1.same fun b hb=>by
   cases ha:s.a with
   | none=>rw[ha]at hb;cases hb
   | some p=>
    rw[ha]at hb;simp[Value.ownBlock]at hb
    have:=lt p ha
    have h4:=h2 p ha
    rw[hb]at this h4
    exact t.heap b this (fun e=>hc (e.symm.trans h4))
  exact⟨(h3.slv hk).1,h.wf,.inr ⟨h3,fun p hp=>(t.old _ (lt p hp)).trans (h2 p hp)⟩⟩
theorem Fet.tr{p:Nat}{L:List Fe}(h:Fet p κ B w s L)(t:Tr κ κ' x w w')(hx:x≠0)(hc:x≠3)(hk:∀ x,(feC x).size=2):Fet p κ' B w' s L:=
 ⟨h.ap.tr t hx hc hk,fun hp=>by
  obtain⟨h1,h2⟩:=h.full hp
  exact⟨(Rd.tr ⟨h.ap.sl,h.ap.wf,h1⟩ t hx).av,h2⟩⟩
theorem Sto.tr{p:Nat}{L:List Pt}(h:Sto p κ B w s L)(t:Tr κ κ' x w w')(hx:x≠0)(hc:x≠4)(hk:∀ x,(ptC x).size=2):Sto p κ' B w' s L:=by
 have lt:0<s.n→∀ p,s.a=some p→p.block<w.heap.size:=fun hn p hp=>by
  obtain⟨g,off,e,hg,_⟩:=h.sl.2.2 hn
  rw[e]at hp;cases hp;exact hg
 refine⟨h.sl.sameX (X:=fun j=>(κ j=0∨κ j=4)∧j<w.heap.size) (fun hn p hp=>⟨h.av hn p hp,lt hn p hp⟩) t.size (fun j hj=>t.heap j hj.2 (fun e=>hj.1.elim (fun q=>hx (e.symm.trans q)) (fun q=>hc (e.symm.trans q)))),h.wf,fun hn p hp=>?_,fun q=>(h.ap q).tr t hx hc hk⟩
 have:=h.av hn p hp
 have h2:=t.old _ (lt hn p hp)
 exact this.imp h2.trans h2.trans
theorem Tr.bl{κ κ':Nat→Nat}{x:Nat}{w0 w w':World}{g:Nat}{c:Co}{s:Ss}(h:MR w0 w g κ c s)(t:Tr κ κ' x w w')(hx:x≠0):Below w0.heap.size w0 w':=
 ⟨t.os.trans h.bl.os,t.tape.trans h.bl.tape,t.output.trans h.bl.output,Nat.le_trans h.bl.size t.size,fun j hj=>by
  refine(t.heap j (Nat.lt_of_lt_of_le hj h.bl.size) (fun e=>?_)).trans (h.bl.block j hj)
  have:=h.new j (by rw[e];exact hx)
  omega⟩
end
section
variable {w0 w w':World} {g x:Nat} {κ κ':Nat→Nat} {c c':Co} {s s':Ss}
theorem MR.tr_gcol(h:MR w0 w g κ c s)(t:Tr κ κ' x w w'):κ' g=1:=(t.old g h.gB.2).trans h.gcol
theorem MR.tr_g1(h:MR w0 w g κ c s)(t:Tr κ κ' x w w'):∀ j,κ' j=1→j=g:=fun j hj=>by
 rcases Nat.lt_or_ge j w.heap.size with c1|c1
 ·exact h.g1 j ((t.old j c1).symm.trans hj)
 ·exact absurd hj (t.new j c1 (by rw[hj];decide)).2
theorem MR.tr_new(h:MR w0 w g κ c s)(t:Tr κ κ' x w w'):∀ j,κ' j≠0→w0.heap.size≤j∧j<w'.heap.size:=fun j hj=>by
 rcases Nat.lt_or_ge j w.heap.size with c1|c1
 ·have:=h.new j (by rw[← t.old j c1];exact hj)
  exact⟨this.1,Nat.lt_of_lt_of_le c1 t.size⟩
 ·exact⟨Nat.le_trans h.bl.size c1,(t.new j c1 hj).1⟩
theorem MR.tr(h:MR w0 w g κ c s)(t:Tr κ κ' x w w')(h0:x≠0)(h2:x≠2)(h3:x≠3)(h4:x≠4)(h5:x≠5):MR w0 w' g κ' c s:=⟨t.bl h h0,h.tr_gcol t,h.tr_g1 t,h.tr_new t,h.regs,h.lat.tr t h0,h.tape.tr t h0,h.prog.tr t h0,h.fetched.tr t h0 h3 feC_size,h.rob.tr t h2,h.stores.tr t h0 h4 ptC_size,caTr h.data t h0,caTr h.words t h0,h.bus.tr t h0,h.slots.tr t h0,h.returns.tr t h0,h.retired.tr t h0 h5 stC_size⟩
theorem MR.tr_rob(h:MR w0 w g κ c s)(t:Tr κ κ' 2 w w')(u:Sv)(L:List En)(q:Rw κ' 2 enC 17 85 w' u L):MR w0 w' g κ' { c with rob:=L } { s with rob:=u }:=by
 have h0:(2:Nat)≠0:=(by decide)
 have h3:(2:Nat)≠3:=(by decide)
 have h4:(2:Nat)≠4:=(by decide)
 have h5:(2:Nat)≠5:=(by decide)
 exact⟨t.bl h h0,h.tr_gcol t,h.tr_g1 t,h.tr_new t,h.regs,h.lat.tr t h0,h.tape.tr t h0,h.prog.tr t h0,h.fetched.tr t h0 h3 feC_size,q,h.stores.tr t h0 h4 ptC_size,caTr h.data t h0,caTr h.words t h0,h.bus.tr t h0,h.slots.tr t h0,h.returns.tr t h0,h.retired.tr t h0 h5 stC_size⟩
theorem MR.tr_fetched(h:MR w0 w g κ c s)(t:Tr κ κ' 3 w w')(u:Sv)(L:List Fe)(q:Fet c.ph κ' w0.heap.size w' u L):MR w0 w' g κ' { c with fetched:=L } { s with fetched:=u }:=by
 have h0:(3:Nat)≠0:=(by decide)
 have h2:(3:Nat)≠2:=(by decide)
 have h4:(3:Nat)≠4:=(by decide)
 have h5:(3:Nat)≠5:=(by decide)
 exact⟨t.bl h h0,h.tr_gcol t,h.tr_g1 t,h.tr_new t,h.regs,h.lat.tr t h0,h.tape.tr t h0,h.prog.tr t h0,q,h.rob.tr t h2,h.stores.tr t h0 h4 ptC_size,caTr h.data t h0,caTr h.words t h0,h.bus.tr t h0,h.slots.tr t h0,h.returns.tr t h0,h.retired.tr t h0 h5 stC_size⟩
theorem MR.tr_stores(h:MR w0 w g κ c s)(t:Tr κ κ' 4 w w')(u:Sv)(L:List Pt)(q:Sto c.ph κ' w0.heap.size w' u L):MR w0 w' g κ' { c with stores:=L } { s with stores:=u }:=by
 have h0:(4:Nat)≠0:=(by decide)
 have h2:(4:Nat)≠2:=(by decide)
 have h3:(4:Nat)≠3:=(by decide)
 have h5:(4:Nat)≠5:=(by decide)
 exact⟨t.bl h h0,h.tr_gcol t,h.tr_g1 t,h.tr_new t,h.regs,h.lat.tr t h0,h.tape.tr t h0,h.prog.tr t h0,h.fetched.tr t h0 h3 feC_size,h.rob.tr t h2,q,caTr h.data t h0,caTr h.words t h0,h.bus.tr t h0,h.slots.tr t h0,h.returns.tr t h0,h.retired.tr t h0 h5 stC_size⟩
theorem MR.tr_retired(h:MR w0 w g κ c s)(t:Tr κ κ' 5 w w')(u:Sv)(L:List St)(q:Ap κ' 5 stC 9 58 w0.heap.size w' u L):MR w0 w' g κ' { c with retired:=L } { s with retired:=u }:=by
 have h0:(5:Nat)≠0:=(by decide)
 have h2:(5:Nat)≠2:=(by decide)
 have h3:(5:Nat)≠3:=(by decide)
 have h4:(5:Nat)≠4:=(by decide)
 exact⟨t.bl h h0,h.tr_gcol t,h.tr_g1 t,h.tr_new t,h.regs,h.lat.tr t h0,h.tape.tr t h0,h.prog.tr t h0,h.fetched.tr t h0 h3 feC_size,h.rob.tr t h2,h.stores.tr t h0 h4 ptC_size,caTr h.data t h0,caTr h.words t h0,h.bus.tr t h0,h.slots.tr t h0,h.returns.tr t h0,q⟩
theorem MS.box_tr(h:MS w0 w g κ c s)(t:Tr κ κ' x w w')(hx:x≠1):w'.heap[g]?=some (.cells (coC c s) 67 (0,0)):=(t.heap g h.r.gB.2 (fun e=>hx (e.symm.trans h.r.gcol))).trans h.box
theorem MS.tr(h:MS w0 w g κ c s)(t:Tr κ κ' x w w')(h0:x≠0)(h1:x≠1)(h2:x≠2)(h3:x≠3)(h4:x≠4)(h5:x≠5):MS w0 w' g κ' c s:=⟨h.r.tr t h0 h2 h3 h4 h5,h.box_tr t h1⟩
def upd(κ:Nat→Nat)(b x:Nat):Nat→Nat:=fun j=>if j=b then x else κ j
theorem upd_at(κ:Nat→Nat)(b x:Nat):upd κ b x b=x:=by simp[upd]
theorem Tr.color(hb:Below w.heap.size w w')(hK:∀ j,κ j≠0→j<w.heap.size)(b y:Nat)(h1:w.heap.size≤b)(h2:b<w'.heap.size)(hy:y≠1)(x:Nat):Tr κ (upd κ b y) x w w':=
 ⟨hb.os,hb.tape,hb.output,hb.size,fun j hj _=>hb.block j hj,fun j hj=>by unfold upd;rw[if_neg (by omega)],fun j hj h=>by
  unfold upd at h ⊢
  by_cases e:j=b
  ·rw[if_pos e];subst e;exact⟨h2,hy⟩
  ·rw[if_neg e]at h;exact absurd (hK j h) (by omega)⟩
theorem MR.lt(h:MR w0 w g κ c s):∀ j,κ j≠0→j<w.heap.size:=fun j hj=>(h.new j hj).2
theorem MS.color(h:MS w0 w g κ c s)(hb:Below w.heap.size w w')(b y:Nat)(h1:w.heap.size≤b)(h2:b<w'.heap.size)(hy:y≠1):MS w0 w' g (upd κ b y) c s:=
 h.tr (Tr.color hb h.r.lt b y h1 h2 hy 9) (by decide) (by decide) (by decide) (by decide) (by decide) (by decide)
theorem MR.zero(h:MR w0 w g κ c s)(j:Nat)(hj:w.heap.size≤j):κ j=0:=by
 rcases Nat.eq_zero_or_pos (κ j)with e|e
 ·exact e
 ·have:=h.lt j (by omega);omega
def Same(κ κ':Nat→Nat)(w:World):Prop:=∀ j,j<w.heap.size→κ' j=κ j
theorem Same.refl(κ:Nat→Nat)(w:World):Same κ κ w:=fun _ _=>rfl
theorem Same.upd(κ:Nat→Nat)(w:World){b x:Nat}(h:w.heap.size≤b):Same κ (upd κ b x) w:=fun j hj=>by unfold Go.Proofs.YtdmhfogegfmnfaaGreatDoor.upd;rw[if_neg (by omega)]
theorem Same.trans{κ κ1 κ2:Nat→Nat}{w w1:World}(h:Same κ κ1 w)(h2:Same κ1 κ2 w1)(hs:w.heap.size≤w1.heap.size):Same κ κ2 w:=fun j hj=>(h2 j (by omega)).trans (h j hj)
theorem Kp.same{κ κ':Nat→Nat}{w w1 w2:World}(h:Kp κ w w1)(hs:Same κ κ' w)(h2:Kp κ' w1 w2):Kp κ w w2:=⟨Nat.le_trans h.size h2.size,fun j hj hk=>(h2.heap j (Nat.lt_of_lt_of_le hj h.size) (by rw[hs j hj];exact hk)).trans (h.heap j hj hk)⟩
end
section
variable {w0 w:World} {g:Nat} {κ:Nat→Nat} {c:Co} {s:Ss}
theorem Rw.put{r off i j:Nat}{cur new:Array Value}{L:List En}{e e':En}{t:Sv}(h:Rw κ 2 enC 17 85 w t L)(ht:t.a=some ⟨r,off,none⟩)(hr:w.heap[r]?=some (.cells cur 85 (0,0)))(hc:off+t.n*17≤cur.size)(hi:L[i]?=some e)(hj:j+new.size≤17)(he:enC e'=putA (enC e) j new)(hk:κ r=2):
 Rw κ 2 enC 17 85 (w.setRow r (putA cur (off+i*17+j) new)) t (L.set i e'):=by
 have hl:=h.sl.len
 have hil:i<L.length:=(List.getElem?_eq_some_iff.1 hi).1
 have hin:(i+1)*17≤t.n*17:=Nat.mul_le_mul_right 17 (by omega)
 have hfit:off+i*17+j+new.size≤cur.size:=by omega
 refine⟨⟨by rw[List.length_set];exact hl,h.sl.few,fun hn=>?_⟩,h.wf,fun hn=>⟨r,off,_,ht,hk,setRow_heap w r _ _ _ _ hr,by rw[putA_size _ _ _ hfit];exact hc⟩⟩
 obtain⟨r',off',e1,hlt,hcell⟩:=h.sl.2.2 hn
 rw[ht]at e1;cases e1
 refine⟨r,off,ht,by rw[row_size];exact hlt,fun k x m v hx hv=>?_⟩
 have hm:m<17:=by have:=(Array.getElem?_eq_some_iff.1 hv).1;rw[enC_size]at this;exact this
 rw[cell_of_row _ r _ _ _ _ (setRow_heap w r _ _ _ _ hr),putA_get _ _ _ hfit]
 by_cases q:i=k
 ·subst q
  rw[List.getElem?_set_self hil,Option.some.injEq]at hx
  subst hx
  rw[he,putA_get _ _ _ (by rw[enC_size];exact hj)]at hv
  have h0:=hcell i e m
  rw[cell_of_row _ r _ _ _ _ hr]at h0
  by_cases c1:m<j
  ·rw[if_pos c1]at hv;rw[if_pos (by omega)];exact h0 v hi hv
  ·rw[if_neg c1]at hv
   rw[if_neg (by omega)]
   by_cases c2:m<j+new.size
   ·rw[if_pos c2]at hv
    rw[if_pos (by omega),show off+i*17+m-(off+i*17+j)=m-j by omega];exact hv
   ·rw[if_neg c2]at hv;rw[if_neg (by omega)];exact h0 v hi hv
 ·rw[List.getElem?_set_ne q]at hx
  have h0:=hcell k x m v hx hv
  rw[cell_of_row _ r _ _ _ _ hr]at h0
  have hkl:k<L.length:=(List.getElem?_eq_some_iff.1 hx).1
  rcases Nat.lt_or_ge k i with c1|c1
  ·have:(k+1)*17≤i*17:=Nat.mul_le_mul_right 17 (by omega)
   rw[if_pos (by omega)];exact h0
  ·have:(i+1)*17≤k*17:=Nat.mul_le_mul_right 17 (by omega)
   rw[if_neg (by omega),if_neg (by omega)];exact h0
theorem MS.entry(M:MS w0 w g κ c s){i:Nat}(hi:i<c.rob.length):∃ r off cur e,s.rob.a=some ⟨r,off,none⟩∧κ r=2∧w.heap[r]?=some (.cells cur 85 (0,0))∧off+s.rob.n*17≤cur.size∧c.rob[i]?=some e∧∀ j v,(enC e)[j]?=some v→w.cell? ⟨r,off+i*17+j,none⟩=some v:=by
 have hl:=M.r.rob.sl.len
 obtain⟨r,off,cur,h1,h2,h3,h4⟩:=M.r.rob.own (by omega)
 obtain⟨g',off',x,h5,_,h6,h7⟩:=M.r.rob.sl.at_ (i:=i) (by omega)
 rw[h1]at h5;cases h5
 exact⟨r,off,cur,x,h1,h2,h3,h4,h6,h7⟩
theorem Tr.rob{r:Nat}(cs:Array Value)(M:MS w0 w g κ c s)(hk:κ r=2):Tr κ κ 2 w (w.setRow r cs):=
 ⟨rfl,rfl,rfl,by rw[row_size];exact Nat.le_refl _,fun j hj hne=>row_other w r j cs (fun e=>hne (by rw[e];exact hk)),fun _ _=>rfl,fun j hj h=>absurd (M.r.lt j h) (by omega)⟩
theorem Kp.tr{κ κ':Nat→Nat}{x:Nat}{w w':World}(t:Tr κ κ' x w w')(h0:x≠0)(h6:x<6):Kp κ w w':=⟨t.size,fun j hj hk=>t.heap j hj (fun e=>by omega)⟩
variable {ops:Array Oper} {rest:List Oper} {o:Oper} {a:Act} {Q:Exit→Act→World→Prop} {K:Act→World→Prop} {E:Prop} {T n:Nat}
theorem wp_el(hT:Cel T n)(M:MS w0 w g κ c s)(x y:Operand)(ho:o.op= .store T x y){r off i j:Nat}{e e':En}(ht:s.rob.a=some ⟨r,off,none⟩)(hi:c.rob[i]?=some e)(hx:a.eval x= .pointer (some ⟨r,off+i*17+j,none⟩))(v:Value)(hy:a.eval y=v)(hv:v.cells.size=n)(h1:Ones v.cells)(hj:j+n≤17)(he:enC e'=putA (enC e) j v.cells)
 (h:∀ w',MS w0 w' g κ { c with rob:=c.rob.set i e' } s→Kp κ w w'→K (a.put o.dst undef) w'):Oper.wp Tryz.prog o a w K Q:=by
 obtain⟨r',off',cur,e1,q1,q2,q3,q4,q5,q6⟩:=M.entry (List.getElem?_eq_some_iff.1 hi).1
 rw[ht]at q1;cases q1
 have hin:(i+1)*17≤s.rob.n*17:=Nat.mul_le_mul_right 17 (by have:=M.r.rob.sl.len;have:=(List.getElem?_eq_some_iff.1 hi).1;omega)
 refine wp_put hT x y ho r (off+i*17+j) hx v hy hv h1 85 cur q3 (by omega) ?_
 have t:=Tr.rob (putA cur (off+i*17+j) v.cells) M q2
 exact h _ ⟨M.r.tr_rob t s.rob _ (M.r.rob.put ht q3 q4 hi (by omega) he q2),M.box_tr t (by decide)⟩ (Kp.tr t (by decide) (by decide))
end
theorem en_put(e e':En):enC e'=putA (enC e) 0 (Value.agg (enC e')).cells:=by
 have:(enC e).toList.drop 17=[]:=rfl
 unfold putA
 simp[Value.cells,enC_size,this]
section
variable {α:Type} {κ:Nat→Nat} {col k B:Nat} {lay:α→Array Value} {e:TypeId} {w w':World} {s:Sv} {L:List α}
theorem run_ap{t ty:TypeId}(hT:SlT t e k)(hk:∀ x,(lay x).size=k)(h1:∀ x,Ones (lay x))(h:Ap κ col lay k e B w s L)(hB:B≤w.heap.size)(hlen:L.length+1≤1000000)(x:α)(bx C:Nat)(hx:w.heap[bx]?=some (.cells (lay x) e (0,0))):
 ∃ v' w',(Builtin.append_ #[t,t] ty #[.slice s.a s.n s.c,.slice (some ⟨bx,0,none⟩) 1 C]).run Tryz.prog w= .ok v' w'∧∃ g' C',v'= .slice (some ⟨g',0,none⟩) (s.n+1) C'∧Ow lay k w' B e v' (L++[x])∧g'<w'.heap.size∧
  ((w.heap.size≤g'∧Below w.heap.size w w')∨(g'<w.heap.size∧s.a=some ⟨g',0,none⟩∧κ g'=col∧w.grownBy w' (some g'))∨(w.heap.size≤g'∧∃ b,κ b=col∧b<w.heap.size∧w.grownBy w' (some b))):=by
 obtain⟨i,z,hu,hi,hz,hsz,hzs,hk0,hb⟩:=info_k hT
 have hl:=h.sl.len
 have hnews:∀ j u,(lay x).toList[j]?=some u→w.cell? ((⟨bx,0,none⟩:Addr).add j)=some u:=World.news_of_block hx
 have hxl:(lay x).toList.length=1*k:=by rw[Array.length_toList,hk,Nat.one_mul]
 have hbytes:(s.n+1)*i.bytes≤140737488355328:=by
  have:(s.n+1)*i.bytes≤1000000*1000:=Nat.mul_le_mul (by omega) hb
  omega
 have hmax:s.n+1≤maxLen:=by unfold maxLen;omega
 have fl:(flat lay (L++[x])).toList=(flat lay L).toList++(lay x).toList:=by rw[flat_app];simp[flat]
 rcases h.how with⟨hav,hn⟩|⟨how,hcol⟩
 ·have mkOw:∀ {v':Value} {w2:World} {xs:List Value},xs=(flat lay L).toList→w2.ownsRow w.heap.size e k v' (s.n+1) (xs++(lay x).toList)→w.grownBy w2 none→∃ g' C',v'= .slice (some ⟨g',0,none⟩) (s.n+1) C'∧Ow lay k w2 B e v' (L++[x])∧g'<w2.heap.size∧w.heap.size≤g':=fun hxs ho hg=>by
   subst hxs
   obtain⟨g',C',rfl,h3,h4⟩:=ho.form (by omega)
   refine⟨g',C',rfl,⟨?_,by simp;omega⟩,h4,h3⟩
   rw[fl,List.length_append,List.length_singleton,hl]
   refine⟨ho.1,?_⟩
   rcases ho.2 with q|⟨gg,cap,cur,q1,q2,q3⟩
   ·exact .inl q
   ·exact .inr ⟨gg,cap,cur,q1,by omega,q3⟩
  cases ha:s.a with
  | none=>
   have h0:s.n=0:=by
    rcases Nat.eq_zero_or_pos s.n with h0|h0
    ·exact h0
    ·obtain⟨_,_,e2,_⟩:=h.sl.2.2 h0;rw[ha]at e2;cases e2
   have hL:L=[]:=List.eq_nil_of_length_eq_zero (by omega)
   have hc0:s.c=0:=by omega
   obtain⟨v',w',hrun,r1,r2,_⟩:=run_append_own (P:=Tryz.prog) w w.heap.size t ty e i z k i.bytes hu hi hz hsz rfl hzs hk0 (.slice none 0 0) 0 [] (World.ownsRow_nil w _ e k) ⟨bx,0,none⟩ 1 C (lay x).toList hxl hnews (by intro u hu;exact(h1 x).mem u hu) (by unfold maxLen;omega) (by omega) (Nat.le_refl _)
   obtain⟨g',C',e1,q1,q2,q3⟩:=mkOw (xs:=[]) (by subst hL;simp[flat]) (by rw[h0];exact r1) r2
   exact⟨v',w',by rw[h0,hc0];exact hrun,g',C',e1,q1,q2,.inl ⟨q3,(Below.refl w.heap.size w).grown r2 (Nat.le_refl _) (fun k hk=>by cases hk)⟩⟩
  | some ad=>
   have hM:∀ j u,(flat lay L).toList[j]?=some u→w.cell? (ad.add j)=some u:=cells_of hk hk0 h.sl ad ha
   obtain⟨v',w',hrun,r1,r2⟩:=run_append_arg_grows (P:=Tryz.prog) w t ty e i z k i.bytes hu hi hz hsz rfl hzs hk0 ad s.n s.c (flat lay L).toList (by rw[Array.length_toList,flat_size hk,hl]) hM ⟨bx,0,none⟩ 1 C (lay x).toList hxl hnews (by omega) hmax hbytes
   obtain⟨g',C',e1,q1,q2,q3⟩:=mkOw rfl r1 r2
   exact⟨v',w',hrun,g',C',e1,q1,q2,.inl ⟨q3,(Below.refl w.heap.size w).grown r2 (Nat.le_refl _) (fun k hk=>by cases hk)⟩⟩
 ·obtain⟨g',C',w',hrun,r1,r2,r3,r4⟩:=run_append_lies (P:=Tryz.prog) w t ty B e i z k i.bytes hu hi hz hsz rfl hzs hk0 (.slice s.a s.n s.c) s.n (flat lay L).toList (by have h9:=how.1;rw[hl]at h9;exact h9) ⟨bx,0,none⟩ 1 C (lay x).toList hxl hnews (by intro u hu;exact(h1 x).mem u hu) (by decide) hmax hbytes hB w.heap.size rfl
  refine⟨_,w',hrun,g',C',rfl,⟨by rw[fl,List.length_append,List.length_singleton,hl];exact r1,by simp;omega⟩,r4,?_⟩
  cases ha:s.a with
  | none=>
   rw[ha]at r2 r3
   rcases r3 with r3|r3
   ·cases r3
   ·exact .inl ⟨by omega,(Below.refl w.heap.size w).grown r2 (Nat.le_refl _) (fun k hk=>by cases hk)⟩
  | some p=>
   obtain⟨hv,h0⟩|⟨gg,cap,cur,hv,hb',hgg,_⟩:=how.1.2
   ·rw[ha]at hv;simp at hv
   ·rw[ha]at hv
    simp only[Value.slice.injEq,Option.some.injEq]at hv
    obtain⟨hp,_,_⟩:=hv
    have hlt:=(Array.getElem?_eq_some_iff.1 hgg).1
    have hcg:=hcol p ha
    rw[hp]at hcg
    rw[ha,hp]at r2 r3
    rcases r3 with r3|r3
    ·simp[Value.ownBlock]at r3
     subst r3
     exact .inr (.inl ⟨hlt,by rw[hp],hcg,r2⟩)
    ·exact .inr (.inr ⟨by omega,gg,hcg,hlt,r2⟩)
end
section
variable {α:Type} {κ:Nat→Nat} {col k B:Nat} {lay:α→Array Value} {e:TypeId} {w w':World} {s:Sv} {L:List α}
theorem run_ap2{t ty:TypeId}(hT:SlT t e k)(hk:∀ x,(lay x).size=k)(h1:∀ x,Ones (lay x))(hK:∀ j,κ j≠0→j<w.heap.size)(hc0:col≠0)(hc1:col≠1)(h:Ap κ col lay k e B w s L)(hB:B≤w.heap.size)(hlen:L.length+1≤1000000)(x:α)(bx C:Nat)(hx:w.heap[bx]?=some (.cells (lay x) e (0,0))):
 ∃ g' C' w' κ',(Builtin.append_ #[t,t] ty #[.slice s.a s.n s.c,.slice (some ⟨bx,0,none⟩) 1 C]).run Tryz.prog w= .ok (.slice (some ⟨g',0,none⟩) (s.n+1) C') w'∧Tr κ κ' col w w'∧Ap κ' col lay k e B w' ⟨some ⟨g',0,none⟩,s.n+1,C'⟩ (L++[x]):=by
 obtain⟨v',w',hrun,g',C',rfl,how,hlt,hd⟩:=run_ap (ty:=ty) hT hk h1 h hB hlen x bx C hx
 obtain⟨f1,f2,f3⟩:=how.slv hk
 have mk:∀ κ',κ' g'=col→Ap κ' col lay k e B w' ⟨some ⟨g',0,none⟩,s.n+1,C'⟩ (L++[x]):=fun κ' q=>⟨f1,f2,.inr ⟨how,fun p hp=>by cases hp;exact q⟩⟩
 have gr:∀ b,κ b=col→b<w.heap.size→w.grownBy w' (some b)→∀ κ',(∀ j,j<w.heap.size→κ' j=κ j)→(∀ j,w.heap.size≤j→κ' j≠0→j<w'.heap.size∧κ' j≠1)→Tr κ κ' col w w':=fun b hb hbl hg κ' q1 q2=>
  ⟨hg.os,hg.tape,hg.output,hg.size,fun j hj hne=>hg.block j hj (fun e=>hne (by cases e;exact hb)),q1,q2⟩
 rcases hd with⟨h2,h3⟩|⟨h2,h3,h4,h5⟩|⟨h2,b,h3,h4,h5⟩
 ·exact⟨g',C',w',upd κ g' col,hrun,Tr.color h3 hK g' col h2 hlt hc1 col,mk _ (upd_at _ _ _)⟩
 ·exact⟨g',C',w',κ,hrun,gr g' h4 h2 h5 κ (fun _ _=>rfl) (fun j hj h=>absurd (hK j h) (by omega)),mk _ h4⟩
 ·refine⟨g',C',w',upd κ g' col,hrun,gr b h3 h4 h5 _ (Same.upd κ w h2) (fun j hj h=>?_),mk _ (upd_at _ _ _)⟩
  unfold upd at h ⊢
  by_cases e:j=g'
  ·rw[if_pos e];subst e;exact⟨hlt,hc1⟩
  ·rw[if_neg e]at h;exact absurd (hK j h) (by omega)
variable {ops:Array Oper} {rest:List Oper} {o:Oper} {a:Act} {Q:Exit→Act→World→Prop} {K:Act→World→Prop} {E:Prop} {t:TypeId}
theorem wp_ap(hT:SlT t e k)(hk:∀ x,(lay x).size=k)(h1:∀ x,Ones (lay x))(hK:∀ j,κ j≠0→j<w.heap.size)(hc0:col≠0)(hc1:col≠1)(h:Ap κ col lay k e B w s L)(hB:B≤w.heap.size)(hlen:L.length+1≤1000000)(p q:Operand)(ho:o.op= .call { callee:=.builtin .append,args:=#[p,q],argTypes:=#[t,t] })
 (hp:a.eval p= .slice s.a s.n s.c) (x:α) (bx C:Nat) (hq:a.eval q= .slice (some ⟨bx,0,none⟩) 1 C) (hx:w.heap[bx]?=some (.cells (lay x) e (0,0)))
 (hh:∀ g' C' w' κ',Tr κ κ' col w w'→Ap κ' col lay k e B w' ⟨some ⟨g',0,none⟩,s.n+1,C'⟩ (L++[x])→K (a.put o.dst (.slice (some ⟨g',0,none⟩) (s.n+1) C')) w'):Oper.wp Tryz.prog o a w K Q:=by
 obtain⟨g',C',w',κ',hrun,r1,r2⟩:=run_ap2 (ty:=o.type) hT hk h1 hK hc0 hc1 h hB hlen x bx C hx
 unfold Oper.wp execOp
 simp only[ho,resolve,invoke,builtin,Sem.run_bind,Sem.run_pure,Result.andThen_ok,List.map_toArray,List.map_cons,List.map_nil,hp,hq,hrun]
 exact hh g' C' w' κ' r1 r2
theorem step_ap(hT:SlT t e k)(hk:∀ x,(lay x).size=k)(h1:∀ x,Ones (lay x))(hK:∀ j,κ j≠0→j<w.heap.size)(hc0:col≠0)(hc1:col≠1)(h:Ap κ col lay k e B w s L)(hB:B≤w.heap.size)(hlen:L.length+1≤1000000)(hgd:o.guard=none)(p q:Operand)(ho:o.op= .call { callee:=.builtin .append,args:=#[p,q],argTypes:=#[t,t] })
 (hp:a.eval p= .slice s.a s.n s.c) (x:α) (bx C:Nat) (hq:a.eval q= .slice (some ⟨bx,0,none⟩) 1 C) (hx:w.heap[bx]?=some (.cells (lay x) e (0,0)))
 (hh:∀ g' C' w' κ',Tr κ κ' col w w'→Ap κ' col lay k e B w' ⟨some ⟨g',0,none⟩,s.n+1,C'⟩ (L++[x])→K (a.put o.dst (.slice (some ⟨g',0,none⟩) (s.n+1) C')) w'):if Region.wanted o (yielded ops a.tmps)=true then Oper.wp Tryz.prog o a w K Q else E:=by
 have hw:Region.wanted o (yielded ops a.tmps)=true:=by simp[Region.wanted,hgd]
 rw[if_pos hw]
 exact wp_ap hT hk h1 hK hc0 hc1 h hB hlen p q ho hp x bx C hq hx hh
end
theorem slT30:SlT 30 94 2:=⟨Tryz.underlying30,.agg (feC feZ),by kernel_rfl,by kernel_rfl,by decide⟩
theorem slT31:SlT 31 85 17:=⟨Tryz.underlying31,.agg (enC enZ),by kernel_rfl,by kernel_rfl,by decide⟩
theorem slT32':SlT 32 89 2:=⟨Tryz.underlying32,.agg (ptC ptZ),by kernel_rfl,by kernel_rfl,by decide⟩
theorem slT40:SlT 40 58 9:=⟨Tryz.underlying40,.agg (stC stZ),by kernel_rfl,by kernel_rfl,by decide⟩
def Dn(md:Region.Mode)(ops:Array Oper)(l:Array Bool):Prop:=∀ j o,ops[j]?=some o→l.getD j false=true→∀ e∈o.after,Region.binds md e=true→l.getD e.on false=true
def dnB(md:Region.Mode)(ops:Array Oper)(l:Array Bool):Bool:=
 (List.range ops.size).all fun j=>!l.getD j false||((ops[j]?).map (·.after.all fun e=>!Region.binds md e||l.getD e.on false)).getD true
theorem Dn.of{md:Region.Mode}{ops:Array Oper}{l:Array Bool}(h:dnB md ops l=true):Dn md ops l:=by
 intro j o ho hj e he hb
 unfold dnB at h
 rw[List.all_eq_true]at h
 have h1:=h j (List.mem_range.2 (Array.getElem?_eq_some_iff.1 ho).1)
 rw[ho,hj]at h1
 simp only[Bool.not_true,Bool.false_or,Option.map_some,Option.getD_some]at h1
 have h2:=Array.all_eq_true_iff_forall_mem.1 h1 e he
 rw[hb]at h2
 simpa using h2
def waitsB(md:Region.Mode)(ops:Array Oper):Nat→Nat→Nat→Bool
 | 0,_,_=>false
 | n+1,c,i=>((ops[c]?).map (·.after.any fun e=>Region.binds md e&&(e.on== i||waitsB md ops n e.on i))).getD false
theorem waits_not{md:Region.Mode}{ops:Array Oper}{l:Array Bool}{i:Nat}(hd:Dn md ops l)(hi:l.getD i false=false):∀(n c:Nat),waitsB md ops n c i=true→l.getD c false=false
 | 0,_,h=>by cases h
 | n+1,c,h=>by
  unfold waitsB at h
  cases ho:ops[c]? with
  | none=>rw[ho]at h;cases h
  | some o=>
   rw[ho]at h
   simp only[Option.map_some,Option.getD_some]at h
   obtain⟨k,hk,h2⟩:=Array.any_eq_true.1 h
   have he:o.after[k]∈o.after:=Array.getElem_mem hk
   generalize o.after[k]=e at h2 he
   rw[Bool.and_eq_true,Bool.or_eq_true]at h2
   cases hc:l.getD c false with
   | false=>rfl
   | true=>
    have h3:=hd c o ho hc e he h2.1
    rcases h2.2 with h4|h4
    ·have h5:e.on=i:=by simpa using h4
     rw[h5,hi]at h3;cases h3
    ·rw[waits_not hd hi n e.on h4]at h3;cases h3
theorem getD_set_at(l:Array Bool)(i:Nat)(d:Bool)(h:i<l.size):(l.setIfInBounds i true).getD i d=true:=by simp[h]
theorem getD_set_off(l:Array Bool){i j:Nat}(d:Bool)(h:i≠j):(l.setIfInBounds i true).getD j d=l.getD j d:=by
 simp only[Array.getD_eq_getD_getElem?,Array.getElem?_setIfInBounds_ne h]
theorem getD_mono(l:Array Bool)(i j:Nat)(h:l.getD j false=true):(l.setIfInBounds i true).getD j false=true:=by
 by_cases e:i=j
 ·subst e
  rcases Nat.lt_or_ge i l.size with h1|h1
  ·exact getD_set_at l i false h1
  ·simp[Array.getD_eq_getD_getElem?,Array.getElem?_eq_none h1]at h
 ·rw[getD_set_off l false e];exact h
theorem Dn.next{md:Region.Mode}{ops:Array Oper}{l:Array Bool}{j:Nat}(h:Dn md ops l)(hj:j∈Region.ready md ops l):Dn md ops (l.setIfInBounds j true):=by
 obtain⟨_,oj,hoj,hall⟩:=mem_ready.1 hj
 intro k o ho hk e he hb
 by_cases q:j=k
 ·subst q
  rw[hoj]at ho;cases ho
  exact getD_mono l j _ (hall e he hb)
 ·rw[getD_set_off l false q]at hk
  exact getD_mono l j _ (h k o ho hk e he hb)
section
variable {P:Program} {ops:Array Oper} {Q:Exit→Act→World→Prop} {md:Region.Mode} {C:World→Prop} {c:Nat}
def wpAnyC(P:Program)(md:Region.Mode)(ops:Array Oper)(Q:Exit→Act→World→Prop)(c:Nat)(C:World→Prop):Nat→Array Bool→Act→World→Prop
 | 0,l,a,w=>Region.ready md ops l=[]∧Q .normal a w
 | n+1,l,a,w=>(Region.ready md ops l=[]→Q .normal a w)∧∀ i∈Region.ready md ops l,wpOp P ops Q i (fun a' w'=>((l.setIfInBounds i true).getD c false=false→C w')∧wpAnyC P md ops Q c C n (l.setIfInBounds i true) a' w') a w
theorem wpAny_of_C:∀(fuel:Nat) (l:Array Bool) (a:Act) (w:World),wpAnyC P md ops Q c C fuel l a w→wpAny P md ops Q fuel l a w
 | 0,_,_,_,h=>h
 | n+1,_,_,_,h=>⟨h.1,fun i hi=>wpOp_mono (fun a' w' h'=>wpAny_of_C n _ a' w' h'.2) (h.2 i hi)⟩
theorem firstC{i:Nat}{oi:Oper}{v:Value}(hi:ops[i]?=some oi)(hsel:∀(j:Nat) (o:Oper) cs b,ops[j]?=some o→o.op≠ .select cs b)
 (hQ:∀ c a w,Q (.panic c) (a.put oi.dst v) w→Q (.panic c) a w) (m:Nat) (hW:waitsB md ops m c i=true) (hci:i≠c):
 ∀(fuel:Nat) (l:Array Bool) (a:Act) (w:World),
  (∀ j oj,ops[j]?=some oj→j≠i→l.getD j true=false→(∀ e∈oj.after,Region.binds md e=true→e.on≠i)→oi.apart ops oj=true)→
  Dn md ops l→i∈Region.ready md ops l→YieldsIf P ops C oi v a→C w→
  wpAnyC P md ops Q c C fuel (l.setIfInBounds i true) (a.put oi.dst v) w→wpAnyC P md ops Q c C (fuel+1) l a w:=by
 intro fuel
 induction fuel with
 | zero=>
  intro l a w _ _ hr hy hC H
  refine⟨fun h=>(by rw[h]at hr;cases hr),fun j hj=>?_⟩
  by_cases hji:j=i
  ·subst hji;exact hy.wpOp hi hC ⟨fun _=>hC,H⟩
  ·have:=ready_mono hj hji
   rw[H.1]at this
   cases this
 | succ fuel ih=>
  intro l a w hfree hd hr hy hC H
  refine⟨fun h=>(by rw[h]at hr;cases hr),fun j hj=>?_⟩
  by_cases hji:j=i
  ·subst hji;exact hy.wpOp hi hC ⟨fun _=>hC,H⟩
  ·have h1:=H.2 j (ready_mono hj hji)
   obtain⟨hjun,oj,hoj,hall⟩:=mem_ready.1 hj
   have hun:l.getD i false=false:=by
    have h0:=(mem_ready.1 hr).1
    rcases Nat.lt_or_ge i l.size with h'|h'
    ·simpa [Array.getD_eq_getD_getElem?,h'] using h0
    ·simp[Array.getD_eq_getD_getElem?,Array.getElem?_eq_none h']
   have hnot:∀ e∈oj.after,Region.binds md e=true→e.on≠i:=fun e he hb heq=>by
    have h1:=hall e he hb
    rw[heq,hun]at h1;cases h1
   have h2:=wpOp_putIf hoj (hfree j oj hoj hji hjun hnot) (fun cs b=>hsel i oi cs b hi) (fun cs b=>hsel j oj cs b hoj) hQ hy h1
   have hfree':∀ k ok,ops[k]?=some ok→k≠i→(l.setIfInBounds j true).getD k true=false→
    (∀ e∈ok.after,Region.binds md e=true→e.on≠i)→oi.apart ops ok=true:=fun k ok hk hki hun2 hno=>by
    refine hfree k ok hk hki ?_ hno
    by_cases hjk:j=k
    ·subst hjk;exact hjun
    ·rw[getD_set_off l true hjk]at hun2;exact hun2
   have hd':=hd.next hj
   have hun':(l.setIfInBounds j true).getD i false=false:=by rw[getD_set_off l false hji];exact hun
   have hc0:=waits_not hd' hun' m c hW
   refine wpOp_mono (fun a' w' h3=>?_) h2
   have hC':C w':=h3.2.1 (by rw[Array.setIfInBounds_comm _ _ (Ne.symm hji),getD_set_off _ false hci];exact hc0)
   refine⟨fun _=>hC',ih (l.setIfInBounds j true) a' w' hfree' hd' (ready_mono hr (Ne.symm hji)) h3.1 hC' ?_⟩
   rw[Array.setIfInBounds_comm _ _ hji]
   exact h3.2.2
theorem firstP{i:Nat}{oi:Oper}{v:Value}(hi:ops[i]?=some oi)(hsel:∀(j:Nat) (o:Oper) cs b,ops[j]?=some o→o.op≠ .select cs b)
 (hQ:∀ c a w,Q (.panic c) (a.put oi.dst v) w→Q (.panic c) a w) (hci:i≠c):
 ∀(fuel:Nat) (l:Array Bool) (a:Act) (w:World),
  (∀ j oj,ops[j]?=some oj→j≠i→l.getD j true=false→(∀ e∈oj.after,Region.binds md e=true→e.on≠i)→oi.apart ops oj=true)→
  i∈Region.ready md ops l→YieldsIf P ops (fun _=>True) oi v a→(l.getD c false=false→C w)→
  wpAnyC P md ops Q c C fuel (l.setIfInBounds i true) (a.put oi.dst v) w→wpAnyC P md ops Q c C (fuel+1) l a w:=by
 intro fuel
 have hset:∀ l:Array Bool,(l.setIfInBounds i true).getD c false=l.getD c false:=fun l=>getD_set_off l false hci
 induction fuel with
 | zero=>
  intro l a w _ hr hy hC H
  refine⟨fun h=>(by rw[h]at hr;cases hr),fun j hj=>?_⟩
  by_cases hji:j=i
  ·subst hji;exact hy.wpOp hi trivial ⟨fun h=>hC (by rw[← hset];exact h),H⟩
  ·have:=ready_mono hj hji
   rw[H.1]at this
   cases this
 | succ fuel ih=>
  intro l a w hfree hr hy hC H
  refine⟨fun h=>(by rw[h]at hr;cases hr),fun j hj=>?_⟩
  by_cases hji:j=i
  ·subst hji;exact hy.wpOp hi trivial ⟨fun h=>hC (by rw[← hset];exact h),H⟩
  ·have h1:=H.2 j (ready_mono hj hji)
   obtain⟨hjun,oj,hoj,hall⟩:=mem_ready.1 hj
   have hun:l.getD i false=false:=by
    have h0:=(mem_ready.1 hr).1
    rcases Nat.lt_or_ge i l.size with h'|h'
    ·simpa [Array.getD_eq_getD_getElem?,h'] using h0
    ·simp[Array.getD_eq_getD_getElem?,Array.getElem?_eq_none h']
   have hnot:∀ e∈oj.after,Region.binds md e=true→e.on≠i:=fun e he hb heq=>by
    have h1:=hall e he hb
    rw[heq,hun]at h1;cases h1
   have h2:=wpOp_putIf hoj (hfree j oj hoj hji hjun hnot) (fun cs b=>hsel i oi cs b hi) (fun cs b=>hsel j oj cs b hoj) hQ hy h1
   have hfree':∀ k ok,ops[k]?=some ok→k≠i→(l.setIfInBounds j true).getD k true=false→
    (∀ e∈ok.after,Region.binds md e=true→e.on≠i)→oi.apart ops ok=true:=fun k ok hk hki hun2 hno=>by
    refine hfree k ok hk hki ?_ hno
    by_cases hjk:j=k
    ·subst hjk;exact hjun
    ·rw[getD_set_off l true hjk]at hun2;exact hun2
   refine wpOp_mono (fun a' w' h3=>?_) h2
   have hC':(l.setIfInBounds j true).getD c false=false→C w':=fun h=>h3.2.1 (by rw[Array.setIfInBounds_comm _ _ (Ne.symm hji),getD_set_off _ false hci];exact h)
   refine⟨hC',ih (l.setIfInBounds j true) a' w' hfree' (ready_mono hr (Ne.symm hji)) h3.1 hC' ?_⟩
   rw[Array.setIfInBounds_comm _ _ hji]
   exact h3.2.2
theorem takeC{i:Nat}{oi:Oper}{v:Value}{fuel:Nat}{l:Array Bool}{a:Act}{w:World}(hi:ops[i]?=some oi)
 (hb:(Region.noSelect ops&&Region.free md ops l i&&(Region.ready md ops l).contains i&&dnB md ops l&&waitsB md ops 40 c i&&!(i== c))=true)
 (hQ:∀ c a w,Q (.panic c) (a.put oi.dst v) w→Q (.panic c) a w) (hy:YieldsIf P ops C oi v a) (hC:C w)
 (h:wpAnyC P md ops Q c C fuel (l.setIfInBounds i true) (a.put oi.dst v) w):wpAnyC P md ops Q c C (fuel+1) l a w:=by
 simp only[Bool.and_eq_true,Bool.not_eq_true',beq_eq_false_iff_ne,ne_eq]at hb
 obtain⟨⟨⟨⟨⟨h1,h2⟩,h3⟩,h4⟩,h5⟩,h6⟩:=hb
 exact firstC hi (Region.noSelect_spec h1) hQ 40 h5 h6 fuel l a w (Region.free_spec hi h2) (Dn.of h4) (by simpa using h3) hy hC h
theorem takeP{i:Nat}{oi:Oper}{v:Value}{fuel:Nat}{l:Array Bool}{a:Act}{w:World}(hi:ops[i]?=some oi)
 (hb:(Region.noSelect ops&&Region.free md ops l i&&(Region.ready md ops l).contains i&&!(i== c))=true)
 (hQ:∀ c a w,Q (.panic c) (a.put oi.dst v) w→Q (.panic c) a w) (hy:YieldsIf P ops (fun _=>True) oi v a) (hC:l.getD c false=false→C w)
 (h:wpAnyC P md ops Q c C fuel (l.setIfInBounds i true) (a.put oi.dst v) w):wpAnyC P md ops Q c C (fuel+1) l a w:=by
 simp only[Bool.and_eq_true,Bool.not_eq_true',beq_eq_false_iff_ne,ne_eq]at hb
 obtain⟨⟨⟨h1,h2⟩,h3⟩,h6⟩:=hb
 exact firstP hi (Region.noSelect_spec h1) hQ h6 fuel l a w (Region.free_spec hi h2) (by simpa using h3) hy hC h
theorem oneC{i:Nat}{o:Oper}{fuel:Nat}{l:Array Bool}{a:Act}{w:World}(ho:ops[i]?=some o)(hr:Region.ready md ops l=[i])
 (h:∀ K':Act→World→Prop,Shut (∀ a w,((l.setIfInBounds i true).getD c false=false→C w)→wpAnyC P md ops Q c C fuel (l.setIfInBounds i true) a w→K' a w)→if Region.wanted o (yielded ops a.tmps)=true then Oper.wp P o a w K' Q else K' (a.put o.dst undef) w):wpAnyC P md ops Q c C (fuel+1) l a w:=by
 refine⟨fun h0=>(by rw[hr]at h0;cases h0),fun j hj=>?_⟩
 rw[hr]at hj
 have:j=i:=by simpa using hj
 subst this
 exact wpOp_step ho (fun K' hK=>h K' (fun a w h1 h2=>hK a w ⟨h1,h2⟩))
theorem doneC{l:Array Bool}{a:Act}{w:World}(hr:Region.ready md ops l=[])(h:Q .normal a w):∀ fuel,wpAnyC P md ops Q c C fuel l a w
 | 0=>⟨hr,h⟩
 | _+1=>⟨fun _=>h,by rw[hr];simp⟩
theorem beginC(c:Nat)(C:World→Prop){id:Nat}{a:Act}{w:World}(hm:P.follows .mixedOrders=true)(h:wpAnyC P .any ops Q c C ops.size (Array.replicate ops.size false) a w.drew):(Code.region id ops true).wp P Q a w:=
 wp_region_any hm (wpAny_of_C _ _ _ _ h)
end
theorem yields_row{ops:Array Oper}{C:World→Prop}{oi:Oper}{a:Act}{T n:Nat}(hT:IsRow T n)(hgd:oi.guard=none)(x:Operand)(ho:oi.op= .load T x)(g off:Nat)(hx:a.eval x= .pointer (some ⟨g,off,none⟩))(cs:Array Value)(hs:cs.size=n)(hc:∀ w,C w→∀ j v,cs[j]?=some v→w.cell? ⟨g,off+j,none⟩=some v):YieldsIf Tryz.prog ops C oi (.agg cs) a:=by
 refine .inl ⟨by simp[Region.wanted,hgd],fun w hw=>?_⟩
 unfold execOp
 simp only[ho,hx,Instr.loadAt,Instr.sureAddr,Sem.run_bind,Sem.run_pure,Result.andThen_ok,load_at hT g off cs hs (hc w hw)]
def pureO:Op→Bool
  | .load .. | .alloc _ | .box .. | .buildSlice .. | .store .. | .makeSlice ..=>false
  | .call k=>match k.callee with
    | .builtin .len=>true
    | _=>false
  | _=>true
def nthB:List Bool→Nat→Bool
  | [],_=>false
  | b::_,0=>b
  | _::l,n+1=>nthB l n
def aftB(md:Region.Mode)(D:List Bool):List Edge→Bool
  | []=>true
  | e::l=>(!Region.binds md e||nthB D e.on)&&aftB md D l
def nxL(md:Region.Mode)(D:List Bool)(c:Nat):List Oper→List Bool→Nat→Option (Nat×Oper)
  | o::os,b::bs,i=>match b||Nat.beq i c||!pureO o.op||!aftB md D o.after.toList with
    | true=>nxL md D c os bs (i+1)
    | false=>some (i,o)
  | _,_,_=>none
theorem nxL_at{md:Region.Mode}{D:List Bool}{c:Nat}:∀(os:List Oper) (bs:List Bool) (i:Nat) {j:Nat} {o:Oper},nxL md D c os bs i=some (j,o)→i≤j∧os[j-i]?=some o
  | [],_,_,_,_,h=>by cases h
  | _::_,[],_,_,_,h=>by cases h
  | x::os,b::bs,i,j,o,h=>by
    unfold nxL at h
    split at h
    · obtain⟨h1,h2⟩:=nxL_at os bs (i+1) h
      refine⟨by omega,?_⟩
      rw[show j-i=(j-(i+1))+1 by omega,List.getElem?_cons_succ]
      exact h2
    · cases h
      simp
theorem nx_at{md:Region.Mode}{ops:Array Oper}{l:Array Bool}{c j:Nat}{o:Oper}(h:nxL md l.toList c ops.toList l.toList 0=some (j,o)):ops[j]?=some o:=by
  have:=(nxL_at _ _ _ h).2
  rwa [Nat.sub_zero,Array.getElem?_toList]at this
theorem aB{b:Bool}{p:Prop}(h:b=true)(h2:b=false):p:=by rw[h]at h2;cases h2
theorem iQ{α β γ}{p:α→β→γ→Prop}(a:α)(b:β)(c:γ)(h:p a b c):p a b c:=h
section
variable {P:Program} {ops:Array Oper} {Q:Exit→Act→World→Prop} {md:Region.Mode} {C:World→Prop} {c:Nat}
theorem tC(i d:Nat){o t s f g}{v:Value}{fuel:Nat}{l:Array Bool}{a:Act}{w:World}(hi:ops[i]?=some ⟨some d,o,t,s,f,g⟩)(hb:(Region.noSelect ops&&Region.free md ops l i&&(Region.ready md ops l).contains i&&dnB md ops l&&waitsB md ops 40 c i&&!(i== c))=true)(hQ:∀ c a w,Q (.panic c) (a.put (some d) v) w→Q (.panic c) a w)(hy:YieldsIf P ops C ⟨some d,o,t,s,f,g⟩ v a)(hC:C w)(h:wpAnyC P md ops Q c C fuel (l.setIfInBounds i true) (a.put (some d) v) w):wpAnyC P md ops Q c C (fuel+1) l a w:=takeC hi hb hQ hy hC h
theorem tP(i d:Nat){o t s f g}{v:Value}{fuel:Nat}{l:Array Bool}{a:Act}{w:World}(hC:C w)(h:wpAnyC P md ops Q c C fuel (l.setIfInBounds i true) (a.put (some d) v) w)(hi:ops[i]?=some ⟨some d,o,t,s,f,g⟩:=by exact rfl)(hb:(Region.noSelect ops&&Region.free md ops l i&&(Region.ready md ops l).contains i&&!(i== c))=true:=by kernel_rfl)(hQ:∀ c a w,Q (.panic c) (a.put (some d) v) w→Q (.panic c) a w:=by exact iQ)(hg:Region.wanted ⟨some d,o,t,s,f,g⟩ (yielded ops a.tmps)=true:=by exact rfl)(hy:∀ w,(execOp a.eval ⟨some d,o,t,s,f,g⟩).run P w= .ok (.value v) w:=by intro;go_simp<;>rfl):wpAnyC P md ops Q c C (fuel+1) l a w:=takeP hi hb hQ (Or.inl ⟨hg,fun w _=>hy w⟩) (fun _=>hC) h
theorem tQ(i d:Nat){o t s f g}{v:Value}{fuel:Nat}{l:Array Bool}{a:Act}{w:World}(hC:l.getD c false=true)(h:wpAnyC P md ops Q c C fuel (l.setIfInBounds i true) (a.put (some d) v) w)(hi:ops[i]?=some ⟨some d,o,t,s,f,g⟩:=by exact rfl)(hb:(Region.noSelect ops&&Region.free md ops l i&&(Region.ready md ops l).contains i&&!(i== c))=true:=by kernel_rfl)(hQ:∀ c a w,Q (.panic c) (a.put (some d) v) w→Q (.panic c) a w:=by exact iQ)(hg:Region.wanted ⟨some d,o,t,s,f,g⟩ (yielded ops a.tmps)=true:=by exact rfl)(hy:∀ w,(execOp a.eval ⟨some d,o,t,s,f,g⟩).run P w= .ok (.value v) w:=by intro;go_simp<;>rfl):wpAnyC P md ops Q c C (fuel+1) l a w:=takeP hi hb hQ (Or.inl ⟨hg,fun w _=>hy w⟩) (aB hC) h
theorem rP{i d:Nat}{o t s f g}{v:Value}{fuel:Nat}{l:Array Bool}{a:Act}{w:World}(hC:C w)(h:wpAnyC P md ops Q c C fuel (l.setIfInBounds i true) (a.put (some d) v) w)(hn:nxL md l.toList c ops.toList l.toList 0=some (i,⟨some d,o,t,s,f,g⟩):=by exact rfl)(hb:(Region.noSelect ops&&Region.free md ops l i&&(Region.ready md ops l).contains i&&!(i== c))=true:=by kernel_rfl)(hQ:∀ c a w,Q (.panic c) (a.put (some d) v) w→Q (.panic c) a w:=by exact iQ)(hg:Region.wanted ⟨some d,o,t,s,f,g⟩ (yielded ops a.tmps)=true:=by exact rfl)(hy:∀ w,(execOp a.eval ⟨some d,o,t,s,f,g⟩).run P w= .ok (.value v) w:=by intro;go_simp<;>rfl):wpAnyC P md ops Q c C (fuel+1) l a w:=takeP (nx_at hn) hb hQ (Or.inl ⟨hg,fun w _=>hy w⟩) (fun _=>hC) h
theorem rQ{i d:Nat}{o t s f g}{v:Value}{fuel:Nat}{l:Array Bool}{a:Act}{w:World}(hC:l.getD c false=true)(h:wpAnyC P md ops Q c C fuel (l.setIfInBounds i true) (a.put (some d) v) w)(hn:nxL md l.toList c ops.toList l.toList 0=some (i,⟨some d,o,t,s,f,g⟩):=by exact rfl)(hb:(Region.noSelect ops&&Region.free md ops l i&&(Region.ready md ops l).contains i&&!(i== c))=true:=by kernel_rfl)(hQ:∀ c a w,Q (.panic c) (a.put (some d) v) w→Q (.panic c) a w:=by exact iQ)(hg:Region.wanted ⟨some d,o,t,s,f,g⟩ (yielded ops a.tmps)=true:=by exact rfl)(hy:∀ w,(execOp a.eval ⟨some d,o,t,s,f,g⟩).run P w= .ok (.value v) w:=by intro;go_simp<;>rfl):wpAnyC P md ops Q c C (fuel+1) l a w:=takeP (nx_at hn) hb hQ (Or.inl ⟨hg,fun w _=>hy w⟩) (aB hC) h
theorem tU(i d:Nat){o t s f g}{fuel:Nat}{l:Array Bool}{a:Act}{w:World}(hC:C w)(h:wpAnyC P md ops Q c C fuel (l.setIfInBounds i true) (a.put (some d) undef) w)(hi:ops[i]?=some ⟨some d,o,t,s,f,g⟩:=by exact rfl)(hb:(Region.noSelect ops&&Region.free md ops l i&&(Region.ready md ops l).contains i&&!(i== c))=true:=by kernel_rfl)(hQ:∀ c a w,Q (.panic c) (a.put (some d) undef) w→Q (.panic c) a w:=by exact iQ)(hg:Region.wanted ⟨some d,o,t,s,f,g⟩ (yielded ops a.tmps)=false:=by exact rfl):wpAnyC P md ops Q c C (fuel+1) l a w:=takeP hi hb hQ (Or.inr ⟨hg,rfl⟩) (fun _=>hC) h
theorem tV(i d:Nat){o t s f g}{fuel:Nat}{l:Array Bool}{a:Act}{w:World}(hC:l.getD c false=true)(h:wpAnyC P md ops Q c C fuel (l.setIfInBounds i true) (a.put (some d) undef) w)(hi:ops[i]?=some ⟨some d,o,t,s,f,g⟩:=by exact rfl)(hb:(Region.noSelect ops&&Region.free md ops l i&&(Region.ready md ops l).contains i&&!(i== c))=true:=by kernel_rfl)(hQ:∀ c a w,Q (.panic c) (a.put (some d) undef) w→Q (.panic c) a w:=by exact iQ)(hg:Region.wanted ⟨some d,o,t,s,f,g⟩ (yielded ops a.tmps)=false:=by exact rfl):wpAnyC P md ops Q c C (fuel+1) l a w:=takeP hi hb hQ (Or.inr ⟨hg,rfl⟩) (aB hC) h
theorem o1C(i d:Nat){o t s f g}{fuel:Nat}{l:Array Bool}{a:Act}{w:World}(h:∀ K':Act→World→Prop,Shut (∀ a w,((l.setIfInBounds i true).getD c false=false→C w)→wpAnyC P md ops Q c C fuel (l.setIfInBounds i true) a w→K' a w)→if Region.wanted ⟨some d,o,t,s,f,g⟩ (yielded ops a.tmps)=true then Oper.wp P ⟨some d,o,t,s,f,g⟩ a w K' Q else K' (a.put (some d) undef) w)(ho:ops[i]?=some ⟨some d,o,t,s,f,g⟩:=by exact rfl)(hr:Region.ready md ops l=[i]:=by kernel_rfl):wpAnyC P md ops Q c C (fuel+1) l a w:=oneC ho hr h
theorem o1N(i:Nat){o t s f g}{fuel:Nat}{l:Array Bool}{a:Act}{w:World}(h:∀ K':Act→World→Prop,Shut (∀ a w,((l.setIfInBounds i true).getD c false=false→C w)→wpAnyC P md ops Q c C fuel (l.setIfInBounds i true) a w→K' a w)→if Region.wanted ⟨none,o,t,s,f,g⟩ (yielded ops a.tmps)=true then Oper.wp P ⟨none,o,t,s,f,g⟩ a w K' Q else K' (a.put (none) undef) w)(ho:ops[i]?=some ⟨none,o,t,s,f,g⟩:=by exact rfl)(hr:Region.ready md ops l=[i]:=by kernel_rfl):wpAnyC P md ops Q c C (fuel+1) l a w:=oneC ho hr h
theorem dnC{l:Array Bool}{a:Act}{w:World}(h:Q .normal a w)(fuel:Nat)(hr:Region.ready md ops l=[]:=by kernel_rfl):wpAnyC P md ops Q c C fuel l a w:=doneC hr h fuel
end
section
variable {P:Program} {ops:Array Oper} {Q:Exit→Act→World→Prop} {o:Oper} {rest:List Oper} {a:Act} {w:World}
theorem sKp(hn:Region.wanted o (yielded ops a.tmps)=false)(h:wpList P ops Q rest (a.put o.dst undef) w):wpList P ops Q (o::rest) a w:=wpList_step fun K hK=>by
  rw[hn];exact hK _ _ h
theorem sTj(hn:Region.wanted o (yielded ops a.tmps)=true)(h:o.wp P a w (fun a w=>wpList P ops Q rest a w) Q):wpList P ops Q (o::rest) a w:=wpList_step fun K hK=>by
  rw[if_pos hn];exact Oper.wp_mono (fun a w h=>hK a w h) h
theorem sTk(hn:Region.wanted o (yielded ops a.tmps)=true)(h:∀ K:Act→World→Prop,(∀ a w,wpList P ops Q rest a w→K a w)→o.wp P a w K Q):wpList P ops Q (o::rest) a w:=wpList_step fun K hK=>by
  rw[if_pos hn];exact h K hK
end
end Go.Proofs.YtdmhfogegfmnfaaGreatDoor
