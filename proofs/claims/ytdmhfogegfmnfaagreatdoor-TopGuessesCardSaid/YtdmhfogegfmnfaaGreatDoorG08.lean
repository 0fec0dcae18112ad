/- The walk's laws on locals alone: each hands over a world that is a letter. No conditions. Printed by gen_k16.py. A store into one field of a local struct. No conditions. Printed by gen_k17.py. One more behind a slice: the one laid into a block of its own, and the append, as the walk's laws. No conditions. The walk's laws on guarded operations in a drawn region. No .. -/
import Derived.Test.YtdmhfogegfmnfaaGreatDoorG01
import Derived.Test.YtdmhfogegfmnfaaGreatDoorG07
import Derived.OrdersIn
import Derived.RangeFuncNested
set_option linter.unusedVariables false
set_option linter.unusedSimpArgs false
namespace Go.Proofs.YtdmhfogegfmnfaaGreatDoor
open Go.RowKit
structure Lo(ws w:World)(l:List Lc):Prop where
 bl:Below ws.heap.size ws w
 lc:∀ x∈l,w.heap[x.1]?=some (.cells x.2.1 x.2.2 (0,0))∧ws.heap.size≤x.1
 nd:l.Pairwise fun x y=>x.1≠y.1
section
variable {ws w w':World} {l:List Lc}
theorem Lo.start(w:World):Lo w w []:=⟨Below.refl _ _,(fun x hx=>by cases hx),List.Pairwise.nil⟩
theorem Lo.below(h:Lo ws w l)(hb:Below w.heap.size w w'):Lo ws w' l:=
 ⟨h.bl.trans (hb.mono h.bl.size),fun x hx=>⟨(hb.block x.1 (Array.getElem?_eq_some_iff.1 (h.lc x hx).1).1).trans (h.lc x hx).1,(h.lc x hx).2⟩,h.nd⟩
theorem Lo.drew(h:Lo ws w l):Lo ws w.drew l:=h.below (Below.refl _ _).drew
theorem Lo.drop{x:Lc}(h:Lo ws w (x::l)):Lo ws w l:=⟨h.bl,fun y hy=>h.lc y (List.mem_cons_of_mem _ hy),(List.pairwise_cons.1 h.nd).2⟩
theorem Lo.lcell(h:Lo ws w l){b:Nat}{cs:Array Value}{T:TypeId}(hx:(b,cs,T)∈l)(j:Nat):w.cell? ⟨b,j,none⟩=cs[j]?:=cell_of_row w b j cs T _ (h.lc _ hx).1
theorem Lo.row(h:Lo ws w l){b:Nat}{cs:Array Value}{T:TypeId}(hx:(b,cs,T)∈l):w.heap[b]?=some (.cells cs T (0,0)):=(h.lc _ hx).1
end
section
variable {ws w:World} {l l':List Lc} {ops:Array Oper} {rest:List Oper} {o:Oper} {a:Act} {Q:Exit→Act→World→Prop} {K:Act→World→Prop} {E:Prop} {T n:Nat}
def Xl(X:Nat→Prop)(l:List Lc):Nat→Prop:=fun j=>X j∧∀ x∈l,j≠x.1
theorem Lo.xl_new{X:Nat→Prop}(H:Lo ws w l)(hX:∀ j,ws.heap.size≤j→X j):∀ j,w.heap.size≤j→Xl X l j:=fun j hj=>⟨hX j (Nat.le_trans H.bl.size hj),fun x hx e=>by
 have:=(Array.getElem?_eq_some_iff.1 (H.lc x hx).1).1
 omega⟩
theorem Lo.ca{X:Nat→Prop}{s:Sv}{c:Ca}(H:Lo ws w l)(h:CaX X ws s c):CaX (Xl X l) w s c:=by
 have h1:CaX (Xl X l) ws s c:=h.mono fun j h2 h3=>⟨h2,fun x hx e=>by have:=(H.lc x hx).2;omega⟩
 exact h1.below H.bl
theorem caAl{X:Nat→Prop}{s:Sv}{c:Ca}{w w':World}{l:List Lc}{b:Nat}(z:Array Value)(T:TypeId)(h:CaX (Xl X l) w s c)(hlt:w.heap.size≤b)(hb:Below w.heap.size w w'):CaX (Xl X ((b,z,T)::l)) w' s c:=by
 have h1:CaX (Xl X ((b,z,T)::l)) w s c:=h.mono fun j h2 h3=>⟨h2.1,fun x hx e=>by
  rcases List.mem_cons.1 hx with q|hx
  ·subst q;simp only at e;omega
  ·exact h2.2 x hx e⟩
 exact h1.below hb
theorem caOff'{X:Nat→Prop}{s:Sv}{c:Ca}{w w':World}{l:List Lc}{b:Nat}(h:CaX (Xl X l) w s c)(ho:Off b w w')(hb:∃ x∈l,x.1=b):CaX (Xl X l) w' s c:=
 h.same (by rw[ho.size];exact Nat.le_refl _) (fun j hj=>ho.heap j (fun e=>by obtain⟨x,hx,q⟩:=hb;exact hj.2 x hx (e.trans q.symm)))
theorem Xl.toX{X:Nat→Prop}{s:Sv}{c:Ca}{w:World}{l:List Lc}(h:CaX (Xl X l) w s c):CaX X w s c:=h.mono fun j h1 _=>h1.1
theorem beginL(gate:Nat){l0:Array Bool}(H:Lo ws w l)(hm:Tryz.prog.follows .mixedOrders=true){id:Nat}(h:Lo ws w.drew l→wpAnyC Tryz.prog .any ops Q gate (fun w'=>Lo ws w' l) ops.size l0 a w.drew)(hl:Array.replicate ops.size false=l0):(Code.region id ops true).wp Tryz.prog Q a w:=
 beginC gate _ hm (hl▸h H.drew)
theorem wp_Lll1(hT:OneT T)(H:Lo ws w l)(x:Operand)(ho:o.op= .load T x)(b k:Nat)(hx:a.eval x= .pointer (some ⟨b,k,none⟩))(cs:Array Value)(t:TypeId)(hm:(b,cs,t)∈l)(v:Value)(hv:cs[k]?=some v)(h:K (a.put o.dst v) w):Oper.wp Tryz.prog o a w K Q:=by
 have hrun:=load_one hT w ⟨b,k,none⟩ v ((H.lcell hm k).trans hv)
 unfold Oper.wp execOp
 simp only[ho,hx,Instr.loadAt,Instr.sureAddr,Sem.run_bind,Sem.run_pure,Result.andThen_ok,hrun]
 exact h
theorem st_Lll1(hgd:o.guard=none)(hT:OneT T)(H:Lo ws w l)(x:Operand)(ho:o.op= .load T x)(b k:Nat)(hx:a.eval x= .pointer (some ⟨b,k,none⟩))(cs:Array Value)(t:TypeId)(hm:(b,cs,t)∈l)(v:Value)(hv:cs[k]?=some v)(h:wpList Tryz.prog ops Q rest (a.put o.dst v) w):wpList Tryz.prog ops Q (o::rest) a w:=
 wpList_plain hgd fun K hK=>wp_Lll1 hT H x ho b k hx cs t hm v hv (hK _ _ (h))
theorem wp_Lllr(hT:IsRow T n)(H:Lo ws w l)(x:Operand)(ho:o.op= .load T x)(b k:Nat)(hx:a.eval x= .pointer (some ⟨b,k,none⟩))(rs:Array Value)(t:TypeId)(hm:(b,rs,t)∈l)(cs:Array Value)(hs:cs.size=n)(hv:Sub rs k cs)(h:K (a.put o.dst (.agg cs)) w):Oper.wp Tryz.prog o a w K Q:=by
 have hrun:=load_at (w:=w) hT b k cs hs (fun j v hj=>(H.lcell hm (k+j)).trans (hv j v hj))
 unfold Oper.wp execOp
 simp only[ho,hx,Instr.loadAt,Instr.sureAddr,Sem.run_bind,Sem.run_pure,Result.andThen_ok,hrun]
 exact h
theorem st_Lllr(hgd:o.guard=none)(hT:IsRow T n)(H:Lo ws w l)(x:Operand)(ho:o.op= .load T x)(b k:Nat)(hx:a.eval x= .pointer (some ⟨b,k,none⟩))(rs:Array Value)(t:TypeId)(hm:(b,rs,t)∈l)(cs:Array Value)(hs:cs.size=n)(hv:Sub rs k cs)(h:wpList Tryz.prog ops Q rest (a.put o.dst (.agg cs)) w):wpList Tryz.prog ops Q (o::rest) a w:=
 wpList_plain hgd fun K hK=>wp_Lllr hT H x ho b k hx rs t hm cs hs hv (hK _ _ (h))
theorem wp_Lal(z:Array Value)(hz:∀ W:World,(zeroValue T).run Tryz.prog W= .ok (.agg z) W)(H:Lo ws w l)(ho:o.op= .alloc T)(h:∀ w' b,w.heap.size≤b→Below w.heap.size w w'→Lo ws w' ((b,z,T)::l)→K (a.put o.dst (.pointer (some ⟨b,0,none⟩))) w'):Oper.wp Tryz.prog o a w K Q:=by
 have hrun:(Instr.alloc T true (.tuple #[])).run Tryz.prog w= .ok (.pointer (some ⟨w.heap.size,0,none⟩)) (w.alloc (.cells z T)):=by
  unfold Instr.alloc newVar newRow
  simp[Sem.run_bind,hz,Value.cells]
 unfold Oper.wp execOp
 simp only[ho,Sem.run_bind,Sem.run_pure,Result.andThen_ok,hrun]
 have H':=H.below ((Below.refl w.heap.size w).alloc (Nat.le_refl _) (.cells z T))
 exact h _ _ (Nat.le_refl _) ((Below.refl w.heap.size w).alloc (Nat.le_refl _) (.cells z T)) ⟨H'.bl,fun y hy=>by
  rcases List.mem_cons.1 hy with e|hy
  ·subst e;exact⟨heap_at _ _ _ rfl,H.bl.size⟩
  ·exact H'.lc y hy,List.pairwise_cons.2 ⟨fun y hy e=>by
   have:=(Array.getElem?_eq_some_iff.1 (H.lc y hy).1).1
   simp only at e
   omega,H.nd⟩⟩
theorem st_Lal(hgd:o.guard=none)(z:Array Value)(hz:∀ W:World,(zeroValue T).run Tryz.prog W= .ok (.agg z) W)(H:Lo ws w l)(ho:o.op= .alloc T)(h:∀ w' b,w.heap.size≤b→Below w.heap.size w w'→Lo ws w' ((b,z,T)::l)→wpList Tryz.prog ops Q rest (a.put o.dst (.pointer (some ⟨b,0,none⟩))) w'):wpList Tryz.prog ops Q (o::rest) a w:=
 wpList_plain hgd fun K hK=>wp_Lal z hz H ho fun w' b q0 q1 q2=>hK _ _ (h w' b q0 q1 q2)
theorem step_Lal(hgd:o.guard=none)(z:Array Value)(hz:∀ W:World,(zeroValue T).run Tryz.prog W= .ok (.agg z) W)(H:Lo ws w l)(ho:o.op= .alloc T)(h:∀ w' b,w.heap.size≤b→Below w.heap.size w w'→Lo ws w' ((b,z,T)::l)→K (a.put o.dst (.pointer (some ⟨b,0,none⟩))) w'):if Region.wanted o (yielded ops a.tmps)=true then Oper.wp Tryz.prog o a w K Q else E:=toStep hgd (wp_Lal z hz H ho h)
theorem wp_Lbox(cs:Array Value)(H:Lo ws w l)(x:Operand)(ho:o.op= .box T x)(hx:a.eval x= .agg cs)(h:∀ w' b,Lo ws w' ((b,cs,T)::l)→K (a.put o.dst (.pointer (some ⟨b,0,none⟩))) w'):Oper.wp Tryz.prog o a w K Q:=by
 have hrun:(Instr.box T (.agg cs)).run Tryz.prog w= .ok (.pointer (some ⟨w.heap.size,0,none⟩)) (w.alloc (.cells cs T)):=by
  unfold Instr.box newVar newRow
  simp[Sem.run_bind,Value.cells]
 unfold Oper.wp execOp
 simp only[ho,hx,Sem.run_bind,Sem.run_pure,Result.andThen_ok,hrun]
 have H':=H.below ((Below.refl w.heap.size w).alloc (Nat.le_refl _) (.cells cs T))
 exact h _ _ ⟨H'.bl,fun y hy=>by
  rcases List.mem_cons.1 hy with e|hy
  ·subst e;exact⟨heap_at _ _ _ rfl,H.bl.size⟩
  ·exact H'.lc y hy,List.pairwise_cons.2 ⟨fun y hy e=>by
   have:=(Array.getElem?_eq_some_iff.1 (H.lc y hy).1).1
   simp only at e
   omega,H.nd⟩⟩
theorem st_Lbox(hgd:o.guard=none)(cs:Array Value)(H:Lo ws w l)(x:Operand)(ho:o.op= .box T x)(hx:a.eval x= .agg cs)(h:∀ w' b,Lo ws w' ((b,cs,T)::l)→wpList Tryz.prog ops Q rest (a.put o.dst (.pointer (some ⟨b,0,none⟩))) w'):wpList Tryz.prog ops Q (o::rest) a w:=
 wpList_plain hgd fun K hK=>wp_Lbox cs H x ho hx fun w' b q0=>hK _ _ (h w' b q0)
theorem wp_Lsl(hT:Cel T n)(b:Nat)(old:Array Value)(t:TypeId)(H:Lo ws w ((b,old,t)::l))(x y:Operand)(ho:o.op= .store T x y)(k:Nat)(hx:a.eval x= .pointer (some ⟨b,k,none⟩))(v:Value)(hy:a.eval y=v)(hv:v.cells.size=n)(h1:Ones v.cells)(h2:k+n≤old.size)(new:Array Value)(hn:putA old k v.cells=new)(h:∀ w',Off b w w'→Lo ws w' ((b,new,t)::l)→K (a.put o.dst undef) w'):Oper.wp Tryz.prog o a w K Q:=by
 obtain⟨q1,q3⟩:=H.lc _ mm0
 simp only at q1 q3
 refine wp_put hT x y ho b k hx v hy hv h1 t old q1 h2 ?_
 rw[hn]
 have nd:=List.pairwise_cons.1 H.nd
 refine h _ (Off.row new) ⟨below_setRow H.bl q3 new,fun y hy=>?_,List.pairwise_cons.2 ⟨fun y hy=>nd.1 y hy,nd.2⟩⟩
 rcases List.mem_cons.1 hy with e|hy
 ·subst e;exact⟨setRow_heap w b _ _ _ _ q1,q3⟩
 ·have hne:=nd.1 y hy
  obtain⟨r1,r3⟩:=H.lc y (List.mem_cons_of_mem _ hy)
  exact⟨(row_other w b y.1 new (Ne.symm hne)).trans r1,r3⟩
theorem st_Lsl(hgd:o.guard=none)(hT:Cel T n)(b:Nat)(old:Array Value)(t:TypeId)(H:Lo ws w ((b,old,t)::l))(x y:Operand)(ho:o.op= .store T x y)(k:Nat)(hx:a.eval x= .pointer (some ⟨b,k,none⟩))(v:Value)(hy:a.eval y=v)(hv:v.cells.size=n)(h1:Ones v.cells)(h2:k+n≤old.size)(new:Array Value)(hn:putA old k v.cells=new)(h:∀ w',Off b w w'→Lo ws w' ((b,new,t)::l)→wpList Tryz.prog ops Q rest (a.put o.dst undef) w'):wpList Tryz.prog ops Q (o::rest) a w:=
 wpList_plain hgd fun K hK=>wp_Lsl hT b old t H x y ho k hx v hy hv h1 h2 new hn fun w' q0 q1=>hK _ _ (h w' q0 q1)
theorem wp_Lsl2(hT:Cel T n)(b:Nat)(old:Array Value)(t:TypeId)(z:Lc)(H:Lo ws w (z::(b,old,t)::l))(x y:Operand)(ho:o.op= .store T x y)(k:Nat)(hx:a.eval x= .pointer (some ⟨b,k,none⟩))(v:Value)(hy:a.eval y=v)(hv:v.cells.size=n)(h1:Ones v.cells)(h2:k+n≤old.size)(new:Array Value)(hn:putA old k v.cells=new)(h:∀ w',Off b w w'→Lo ws w' (z::(b,new,t)::l)→K (a.put o.dst undef) w'):Oper.wp Tryz.prog o a w K Q:=by
 have nd:=List.pairwise_cons.1 H.nd
 have nd2:=List.pairwise_cons.1 nd.2
 have hzb:z.1≠b:=nd.1 (b,old,t) mm0
 have H2:Lo ws w ((b,old,t)::z::l):=⟨H.bl,fun y hy=>H.lc y (by
  rcases List.mem_cons.1 hy with e|hy
  ·subst e;exact List.mem_cons_of_mem _ mm0
  ·rcases List.mem_cons.1 hy with e|hy
   ·subst e;exact List.mem_cons_self ..
   ·exact List.mem_cons_of_mem _ (List.mem_cons_of_mem _ hy)),List.pairwise_cons.2 ⟨fun y hy=>by
    rcases List.mem_cons.1 hy with e|hy
    ·subst e;exact Ne.symm hzb
    ·exact nd2.1 y hy,List.pairwise_cons.2 ⟨fun y hy=>nd.1 y (List.mem_cons_of_mem _ hy),nd2.2⟩⟩⟩
 refine wp_Lsl hT b old t H2 x y ho k hx v hy hv h1 h2 new hn fun w' ho H3=>h w' ho ⟨H3.bl,fun y hy=>H3.lc y (by
  rcases List.mem_cons.1 hy with e|hy
  ·subst e;exact List.mem_cons_of_mem _ mm0
  ·rcases List.mem_cons.1 hy with e|hy
   ·subst e;exact List.mem_cons_self ..
   ·exact List.mem_cons_of_mem _ (List.mem_cons_of_mem _ hy)),List.pairwise_cons.2 ⟨fun y hy=>by
    rcases List.mem_cons.1 hy with e|hy
    ·subst e;exact hzb
    ·exact nd.1 y (List.mem_cons_of_mem _ hy),List.pairwise_cons.2 ⟨fun y hy=>nd2.1 y hy,nd2.2⟩⟩⟩
theorem st_Lsl2(hgd:o.guard=none)(hT:Cel T n)(b:Nat)(old:Array Value)(t:TypeId)(z:Lc)(H:Lo ws w (z::(b,old,t)::l))(x y:Operand)(ho:o.op= .store T x y)(k:Nat)(hx:a.eval x= .pointer (some ⟨b,k,none⟩))(v:Value)(hy:a.eval y=v)(hv:v.cells.size=n)(h1:Ones v.cells)(h2:k+n≤old.size)(new:Array Value)(hn:putA old k v.cells=new)(h:∀ w',Off b w w'→Lo ws w' (z::(b,new,t)::l)→wpList Tryz.prog ops Q rest (a.put o.dst undef) w'):wpList Tryz.prog ops Q (o::rest) a w:=
 wpList_plain hgd fun K hK=>wp_Lsl2 hT b old t z H x y ho k hx v hy hv h1 h2 new hn fun w' q0 q1=>hK _ _ (h w' q0 q1)
theorem wp_Lslw(hT:Cel T n)(b:Nat)(old:Array Value)(t:TypeId)(H:Lo ws w ((b,old,t)::l))(x y:Operand)(ho:o.op= .store T x y)(hx:a.eval x= .pointer (some ⟨b,0,none⟩))(cs:Array Value)(hy:a.eval y= .agg cs)(hs:cs.size=n)(h1:Ones cs)(h2:old.size=n)(h:∀ w',Off b w w'→Lo ws w' ((b,cs,t)::l)→K (a.put o.dst undef) w'):Oper.wp Tryz.prog o a w K Q:=by
 exact wp_Lsl hT b old t H x y ho 0 hx (.agg cs) hy hs h1 (by omega) cs (putA_all old cs (by omega)) h
theorem st_Lslw(hgd:o.guard=none)(hT:Cel T n)(b:Nat)(old:Array Value)(t:TypeId)(H:Lo ws w ((b,old,t)::l))(x y:Operand)(ho:o.op= .store T x y)(hx:a.eval x= .pointer (some ⟨b,0,none⟩))(cs:Array Value)(hy:a.eval y= .agg cs)(hs:cs.size=n)(h1:Ones cs)(h2:old.size=n)(h:∀ w',Off b w w'→Lo ws w' ((b,cs,t)::l)→wpList Tryz.prog ops Q rest (a.put o.dst undef) w'):wpList Tryz.prog ops Q (o::rest) a w:=
 wpList_plain hgd fun K hK=>wp_Lslw hT b old t H x y ho hx cs hy hs h1 h2 fun w' q0 q1=>hK _ _ (h w' q0 q1)
theorem step_Lslw(hgd:o.guard=none)(hT:Cel T n)(b:Nat)(old:Array Value)(t:TypeId)(H:Lo ws w ((b,old,t)::l))(x y:Operand)(ho:o.op= .store T x y)(hx:a.eval x= .pointer (some ⟨b,0,none⟩))(cs:Array Value)(hy:a.eval y= .agg cs)(hs:cs.size=n)(h1:Ones cs)(h2:old.size=n)(h:∀ w',Off b w w'→Lo ws w' ((b,cs,t)::l)→K (a.put o.dst undef) w'):if Region.wanted o (yielded ops a.tmps)=true then Oper.wp Tryz.prog o a w K Q else E:=toStep hgd (wp_Lslw hT b old t H x y ho hx cs hy hs h1 h2 h)
theorem wp_Lslw2(hT:Cel T n)(b:Nat)(old:Array Value)(t:TypeId)(z:Lc)(H:Lo ws w (z::(b,old,t)::l))(x y:Operand)(ho:o.op= .store T x y)(hx:a.eval x= .pointer (some ⟨b,0,none⟩))(cs:Array Value)(hy:a.eval y= .agg cs)(hs:cs.size=n)(h1:Ones cs)(h2:old.size=n)(h:∀ w',Off b w w'→Lo ws w' (z::(b,cs,t)::l)→K (a.put o.dst undef) w'):Oper.wp Tryz.prog o a w K Q:=by
 exact wp_Lsl2 hT b old t z H x y ho 0 hx (.agg cs) hy hs h1 (by omega) cs (putA_all old cs (by omega)) h
theorem st_Lslw2(hgd:o.guard=none)(hT:Cel T n)(b:Nat)(old:Array Value)(t:TypeId)(z:Lc)(H:Lo ws w (z::(b,old,t)::l))(x y:Operand)(ho:o.op= .store T x y)(hx:a.eval x= .pointer (some ⟨b,0,none⟩))(cs:Array Value)(hy:a.eval y= .agg cs)(hs:cs.size=n)(h1:Ones cs)(h2:old.size=n)(h:∀ w',Off b w w'→Lo ws w' (z::(b,cs,t)::l)→wpList Tryz.prog ops Q rest (a.put o.dst undef) w'):wpList Tryz.prog ops Q (o::rest) a w:=
 wpList_plain hgd fun K hK=>wp_Lslw2 hT b old t z H x y ho hx cs hy hs h1 h2 fun w' q0 q1=>hK _ _ (h w' q0 q1)
theorem step_Lslw2(hgd:o.guard=none)(hT:Cel T n)(b:Nat)(old:Array Value)(t:TypeId)(z:Lc)(H:Lo ws w (z::(b,old,t)::l))(x y:Operand)(ho:o.op= .store T x y)(hx:a.eval x= .pointer (some ⟨b,0,none⟩))(cs:Array Value)(hy:a.eval y= .agg cs)(hs:cs.size=n)(h1:Ones cs)(h2:old.size=n)(h:∀ w',Off b w w'→Lo ws w' (z::(b,cs,t)::l)→K (a.put o.dst undef) w'):if Region.wanted o (yielded ops a.tmps)=true then Oper.wp Tryz.prog o a w K Q else E:=toStep hgd (wp_Lslw2 hT b old t z H x y ho hx cs hy hs h1 h2 h)
end
section
variable {P:Program} {ops:Array Oper} {Q:Exit→Act→World→Prop} {md:Region.Mode} {C:World→Prop} {c:Nat}
theorem twoC{i j:Nat}{oi oj:Oper}{fuel:Nat}{l:Array Bool}{a:Act}{w:World}(hi:ops[i]?=some oi)(hj:ops[j]?=some oj)(hr:Region.ready md ops l=[i,j])
 (h1:∀ K':Act→World→Prop,Shut (∀ a w,((l.setIfInBounds i true).getD c false=false→C w)→wpAnyC P md ops Q c C fuel (l.setIfInBounds i true) a w→K' a w)→if Region.wanted oi (yielded ops a.tmps)=true then Oper.wp P oi a w K' Q else K' (a.put oi.dst undef) w)
 (h2:∀ K':Act→World→Prop,Shut (∀ a w,((l.setIfInBounds j true).getD c false=false→C w)→wpAnyC P md ops Q c C fuel (l.setIfInBounds j true) a w→K' a w)→if Region.wanted oj (yielded ops a.tmps)=true then Oper.wp P oj a w K' Q else K' (a.put oj.dst undef) w):wpAnyC P md ops Q c C (fuel+1) l a w:=by
 refine⟨fun h0=>(by rw[hr]at h0;cases h0),fun k hk=>?_⟩
 rw[hr]at hk
 rcases List.mem_cons.1 hk with e|hk
 ·subst e;exact wpOp_step hi (fun K' hK=>h1 K' (fun a w h1 h2=>hK a w ⟨h1,h2⟩))
 ·have:k=j:=by simpa using hk
  subst this;exact wpOp_step hj (fun K' hK=>h2 K' (fun a w h1 h2=>hK a w ⟨h1,h2⟩))
end
theorem meet2{G:Prop}{A B:Sort _}{M Hy:A→B→Prop}(br:(∀ a b,Hy a b→M a b)→G)(rest:∀ a b,Hy a b→M a b):G:=br rest
theorem meet3{G:Prop}{A B D:Sort _}{M Hy:A→B→D→Prop}(br:(∀ a b d,Hy a b d→M a b d)→G)(rest:∀ a b d,Hy a b d→M a b d):G:=br rest
theorem meet1{G:Prop}{A:Sort _}{M Hy:A→Prop}(br:(∀ a,Hy a→M a)→G)(rest:∀ a,Hy a→M a):G:=br rest
theorem enU_7(e:En)(x:U):putA (enC e) 7 #[.int .u32 x.v]=enC { e with guess:=x }:=(rfl)
theorem enU_8(e:En)(x:Int):putA (enC e) 8 #[.int .i64 x]=enC { e with is:=x }:=(rfl)
theorem enU_9(e:En)(x:Int):putA (enC e) 9 #[.int .i64 x]=enC { e with left:=x }:=(rfl)
theorem enU_10(e:En)(x:U):putA (enC e) 10 #[.int .u32 x.v]=enC { e with value:=x }:=(rfl)
theorem enU_10z(e:En):putA (enC e) 10 #[.int .u32 0]=enC { e with value:=U.of 0 }:=(rfl)
theorem enU_11(e:En)(x:U):putA (enC e) 11 #[.int .u32 x.v]=enC { e with next:=x }:=(rfl)
theorem enU_13(e:En)(x:Int):putA (enC e) 13 #[.int .i64 x]=enC { e with halt:=x }:=(rfl)
theorem enU_14(e:En)(x:Int):putA (enC e) 14 #[.int .i64 x]=enC { e with took:=x }:=(rfl)
theorem enU_16(e:En)(x:Bool):putA (enC e) 16 #[.bool x]=enC { e with filled:=x }:=(rfl)
theorem enU_i(e:En)(x:In):putA (enC e) 2 (inC x)=enC { e with i:=x }:=(rfl)
theorem stU_1(e:St)(x:U):putA (stC e) 1 #[.int .u32 x.v]=stC { e with next:=x }:=(rfl)
theorem stU_3(e:St)(x:U):putA (stC e) 3 #[.int .u32 x.v]=stC { e with value:=x }:=(rfl)
theorem stU_4(e:St)(x:U):putA (stC e) 4 #[.int .u32 x.v]=stC { e with addr:=x }:=(rfl)
theorem stU_5(e:St)(x:Int):putA (stC e) 5 #[.int .i64 x]=stC { e with size:=x }:=(rfl)
theorem stU_6(e:St)(x:Bool):putA (stC e) 6 #[.bool x]=stC { e with store:=x }:=(rfl)
theorem stU_8(e:St)(x:Int):putA (stC e) 8 #[.int .i64 x]=stC { e with took:=x }:=(rfl)
theorem Lo.perm{ws w:World}{l l':List Lc}(h:Lo ws w l)(p:l'.Perm l):Lo ws w l':=
 ⟨h.bl,fun x hx=>h.lc x (p.subset hx),p.symm.pairwise h.nd (fun h=>Ne.symm h)⟩
theorem Lo.swap{ws w:World}{x y:Lc}{l:List Lc}(h:Lo ws w (x::y::l)):Lo ws w (y::x::l):=h.perm (List.Perm.swap x y l)
theorem Lo.rot3{ws w:World}{x y z:Lc}{l:List Lc}(h:Lo ws w (x::y::z::l)):Lo ws w (z::x::y::l):=h.perm ((List.Perm.swap x z _).trans ((List.Perm.swap y z l).cons x))
theorem St'.perm{w0 ws w:World}{g:Nat}{κs κ:Nat→Nat}{c:Co}{s:Ss}{l l':List Lc}(h:St' w0 ws w g κs κ c s l)(p:l'.Perm l):St' w0 ws w g κs κ c s l':=
 ⟨h.m,h.kp,h.sm,fun x hx=>h.lc x (p.subset hx),p.symm.pairwise h.nd (fun h=>Ne.symm h)⟩
theorem St'.swap{w0 ws w:World}{g:Nat}{κs κ:Nat→Nat}{c:Co}{s:Ss}{x y:Lc}{l:List Lc}(h:St' w0 ws w g κs κ c s (x::y::l)):St' w0 ws w g κs κ c s (y::x::l):=h.perm (List.Perm.swap x y l)
theorem St'.rot3{w0 ws w:World}{g:Nat}{κs κ:Nat→Nat}{c:Co}{s:Ss}{x y z:Lc}{l:List Lc}(h:St' w0 ws w g κs κ c s (x::y::z::l)):St' w0 ws w g κs κ c s (z::x::y::l):=h.perm ((List.Perm.swap x z _).trans ((List.Perm.swap y z l).cons x))
theorem rdOff'{α:Type}{X:Nat→Prop}{lay:α→Array Value}{k:Nat}{s:Sv}{L:List α}{w w':World}{l:List Lc}{b:Nat}(h:Rd (Xl X l) lay k w s L)(ho:Off b w w')(hb:∃ x∈l,x.1=b):Rd (Xl X l) lay k w' s L:=
 h.same (by rw[ho.size];exact Nat.le_refl _) (fun j hj=>ho.heap j (fun e=>by obtain⟨x,hx,q⟩:=hb;exact hj.2 x hx (e.trans q.symm)))
theorem Xl.toR{α:Type}{X:Nat→Prop}{lay:α→Array Value}{k:Nat}{s:Sv}{L:List α}{w:World}{l:List Lc}(h:Rd (Xl X l) lay k w s L):Rd X lay k w s L:=h.mono fun j h1 _=>h1.1
theorem Lo.rd{α:Type}{X:Nat→Prop}{lay:α→Array Value}{k:Nat}{ws w:World}{l:List Lc}{s:Sv}{L:List α}(H:Lo ws w l)(h:Rd X lay k ws s L):Rd X lay k w s L:=h.below H.bl
theorem fold_set(cs:List Value):∀(n:Nat) (base:Array Value) (m:Nat),n+cs.length≤base.size→((cs.zipIdx n).foldl (fun a (x:Value×Nat)=>a.setIfInBounds x.2 x.1) base)[m]?=if n≤m∧m<n+cs.length then cs[m-n]? else base[m]?:=by
 induction cs with
 | nil=>
  intro n base m _
  simp only[List.zipIdx_nil,List.foldl_nil,List.length_nil,Nat.add_zero]
  rw[if_neg (by omega)]
 | cons c cs ih=>
  intro n base m h
  simp only[List.length_cons]at h
  rw[List.zipIdx_cons,List.foldl_cons,ih (n+1) _ m (by simp only[Array.size_setIfInBounds];omega)]
  simp only[List.length_cons]
  by_cases e:m=n
  ·subst e
   rw[if_neg (by omega),if_pos (by omega),Array.getElem?_setIfInBounds_self_of_lt (by omega)]
   simp
  ·by_cases q:n+1≤m∧m<n+1+cs.length
   ·rw[if_pos q,if_pos (by omega)]
    rw[show m-n=(m-(n+1))+1 by omega,List.getElem?_cons_succ]
   ·rw[if_neg q,if_neg (by omega),Array.getElem?_setIfInBounds_ne (by omega)]
theorem fold_all(cs base:Array Value)(h:base.size=cs.size):cs.zipIdx.foldl (fun a (x:Value×Nat)=>a.setIfInBounds (0+x.2) x.1) base=cs:=by
 rw[← Array.foldl_toList]
 simp only[Array.toList_zipIdx,Nat.zero_add]
 have hs:∀(l:List (Value×Nat)) (b:Array Value),(l.foldl (fun a (x:Value×Nat)=>a.setIfInBounds x.2 x.1) b).size=b.size:=by
  intro l
  induction l with
  | nil=>intro b;rfl
  | cons x l ih=>intro b;rw[List.foldl_cons,ih,Array.size_setIfInBounds]
 apply Array.ext_getElem?
 intro m
 rw[fold_set cs.toList 0 base m (by simp[h])]
 by_cases q:m<cs.size
 ·rw[if_pos (by simp;exact q)];simp
 ·rw[if_neg (by simp;omega),Array.getElem?_eq_none (by omega),Array.getElem?_eq_none (by omega)]
theorem fill_one(k:Nat)(cs base:Array Value)(hk:cs.size=k)(hb:base.size=k):Instr.fill (fun i=>some (i*k,k)) base [(0,.agg cs)]=some cs:=by
 have hc:(Value.agg cs).cells=cs:=rfl
 unfold Instr.fill
 simp only[hc,Nat.zero_mul]
 rw[if_neg (by simp[hk,hb])]
 unfold Instr.fill
 exact congrArg some (fold_all cs base (by omega))
theorem run_bs{t e:TypeId}{k:Nat}(hT:SlT t e k)(h24:k≤100000)(w:World)(cs:Array Value)(hk:cs.size=k):(Instr.buildSlice t 1 #[(0,.agg cs)]).run Tryz.prog w= .ok (.slice (some ⟨w.heap.size,0,none⟩) 1 1) (w.alloc (.cells cs e)):=by
 obtain⟨i,z,hu,hi,hz,hsz,hzs,hk0,hb⟩:=info_k hT
 have hfill:=fill_one k cs ((Array.range k).map (z.cells[· % z.cells.size]!)) hk (by simp)
 have h1:¬ (16777216<k):=by omega
 have h2:k≠0:=by omega
 unfold Instr.buildSlice
 simp only[Sem.run_bind,run_underlying hu]
 simp[sizeOf,typeInfo,zeroValue,hi,hz,hsz,newRow,h1,h2,hfill]
theorem run_clip{α:Type}{lay:α→Array Value}{k:Nat}{e t ty:TypeId}{w:World}{A:Option Addr}{n:Nat}{L:List α}(hT:SlT t e k)(hk:∀ x,(lay x).size=k)(h1:∀ x,Ones (lay x))(hs:Sl lay k w A n L)(hw:Wf A n n)(hlen:L.length+1≤1000000)(x:α)(bx C:Nat)(hx:w.heap[bx]?=some (.cells (lay x) e (0,0))):
 ∃ g' C' w',(Builtin.append_ #[t,t] ty #[.slice A n n,.slice (some ⟨bx,0,none⟩) 1 C]).run Tryz.prog w= .ok (.slice (some ⟨g',0,none⟩) (n+1) C') w'∧Ow lay k w' w.heap.size e (.slice (some ⟨g',0,none⟩) (n+1) C') (L++[x])∧Below w.heap.size w w':=by
 obtain⟨v',w',hrun,g',C',rfl,how,hlt,hd⟩:=run_ap (κ:=fun _=>0) (col:=7) (B:=w.heap.size) (s:=⟨A,n,n⟩) (ty:=ty) hT hk h1 ⟨hs,hw,.inl ⟨fun _ _ _=>rfl,rfl⟩⟩ (Nat.le_refl _) hlen x bx C hx
 rcases hd with⟨h2,h3⟩|⟨_,_,h4,_⟩|⟨_,b,h3,_⟩
 ·exact⟨g',C',w',hrun,how,h3⟩
 ·cases h4
 ·cases h3
section
variable {w0 ws w:World} {g:Nat} {κs κ:Nat→Nat} {c:Co} {s:Ss} {l:List Lc} {ops:Array Oper} {rest:List Oper} {o:Oper} {a:Act} {Q:Exit→Act→World→Prop} {K:Act→World→Prop} {E:Prop} {T n:Nat}
theorem wp_Lbs{t e k:Nat}(hT:SlT t e k)(h24:k≤100000)(cs:Array Value)(H:Lo ws w l)(x:Operand)(ho:o.op= .buildSlice t 1 #[(0,x)])(hx:a.eval x= .agg cs)(hk:cs.size=k)(h:∀ w' b,w.heap.size≤b→Below w.heap.size w w'→Lo ws w' ((b,cs,e)::l)→K (a.put o.dst (.slice (some ⟨b,0,none⟩) 1 1)) w'):Oper.wp Tryz.prog o a w K Q:=by
 have hrun:=run_bs hT h24 w cs hk
 unfold Oper.wp execOp
 simp only[ho,List.map_toArray,List.map_cons,List.map_nil,hx,Sem.run_bind,Sem.run_pure,Result.andThen_ok,hrun]
 have H':=H.below ((Below.refl w.heap.size w).alloc (Nat.le_refl _) (.cells cs e))
 exact h _ _ (Nat.le_refl _) ((Below.refl w.heap.size w).alloc (Nat.le_refl _) (.cells cs e)) ⟨H'.bl,fun y hy=>by
  rcases List.mem_cons.1 hy with q|hy
  ·subst q;exact⟨heap_at _ _ _ rfl,H.bl.size⟩
  ·exact H'.lc y hy,List.pairwise_cons.2 ⟨fun y hy q=>by
   have:=(Array.getElem?_eq_some_iff.1 (H.lc y hy).1).1
   simp only at q
   omega,H.nd⟩⟩
theorem step_Lbs{t e k:Nat}(hgd:o.guard=none)(hT:SlT t e k)(h24:k≤100000)(cs:Array Value)(H:Lo ws w l)(x:Operand)(ho:o.op= .buildSlice t 1 #[(0,x)])(hx:a.eval x= .agg cs)(hk:cs.size=k)(h:∀ w' b,w.heap.size≤b→Below w.heap.size w w'→Lo ws w' ((b,cs,e)::l)→K (a.put o.dst (.slice (some ⟨b,0,none⟩) 1 1)) w'):if Region.wanted o (yielded ops a.tmps)=true then Oper.wp Tryz.prog o a w K Q else E:=
 toStep hgd (wp_Lbs hT h24 cs H x ho hx hk h)
theorem wp_Sbs{t e k:Nat}(hT:SlT t e k)(h24:k≤100000)(cs:Array Value)(H:St' w0 ws w g κs κ c s l)(x:Operand)(ho:o.op= .buildSlice t 1 #[(0,x)])(hx:a.eval x= .agg cs)(hk:cs.size=k)(h:∀ w' b κ',St' w0 ws w' g κs κ' c s ((b,cs,e)::l)→K (a.put o.dst (.slice (some ⟨b,0,none⟩) 1 1)) w'):Oper.wp Tryz.prog o a w K Q:=by
 have hrun:=run_bs hT h24 w cs hk
 unfold Oper.wp execOp
 simp only[ho,List.map_toArray,List.map_cons,List.map_nil,hx,Sem.run_bind,Sem.run_pure,Result.andThen_ok,hrun]
 have hb:=(Below.refl w.heap.size w).alloc (Nat.le_refl _) (.cells cs e)
 have H':=H.color hb w.heap.size 6 (Nat.le_refl _) (by simp[World.size_alloc]) (by decide)
 exact h _ _ _ ⟨H'.m,H'.kp,H'.sm,fun y hy=>by
  rcases List.mem_cons.1 hy with q|hy
  ·subst q;exact⟨heap_at _ _ _ rfl,upd_at _ _ _,H.kp.size⟩
  ·exact H'.lc y hy,List.pairwise_cons.2 ⟨fun y hy q=>by
   have:=(Array.getElem?_eq_some_iff.1 (H.lc y hy).1).1
   simp only at q
   omega,H.nd⟩⟩
theorem step_Sbs{t e k:Nat}(hgd:o.guard=none)(hT:SlT t e k)(h24:k≤100000)(cs:Array Value)(H:St' w0 ws w g κs κ c s l)(x:Operand)(ho:o.op= .buildSlice t 1 #[(0,x)])(hx:a.eval x= .agg cs)(hk:cs.size=k)(h:∀ w' b κ',St' w0 ws w' g κs κ' c s ((b,cs,e)::l)→K (a.put o.dst (.slice (some ⟨b,0,none⟩) 1 1)) w'):if Region.wanted o (yielded ops a.tmps)=true then Oper.wp Tryz.prog o a w K Q else E:=
 toStep hgd (wp_Sbs hT h24 cs H x ho hx hk h)
theorem wp_clip{α:Type}{lay:α→Array Value}{k:Nat}{e t:TypeId}{A:Option Addr}{n:Nat}{L:List α}(hT:SlT t e k)(hk:∀ x,(lay x).size=k)(h1:∀ x,Ones (lay x))(hs:Sl lay k w A n L)(hw:Wf A n n)(hlen:L.length+1≤1000000)(p q:Operand)(ho:o.op= .call { callee:=.builtin .append,args:=#[p,q],argTypes:=#[t,t] })
 (hp:a.eval p= .slice A n n) (x:α) (bx C:Nat) (hq:a.eval q= .slice (some ⟨bx,0,none⟩) 1 C) (hx:w.heap[bx]?=some (.cells (lay x) e (0,0)))
 (hh:∀ g' C' w',Ow lay k w' w.heap.size e (.slice (some ⟨g',0,none⟩) (n+1) C') (L++[x])→Below w.heap.size w w'→K (a.put o.dst (.slice (some ⟨g',0,none⟩) (n+1) C')) w'):Oper.wp Tryz.prog o a w K Q:=by
 obtain⟨g',C',w',hrun,r1,r2⟩:=run_clip (ty:=o.type) hT hk h1 hs hw hlen x bx C hx
 unfold Oper.wp execOp
 simp only[ho,resolve,invoke,builtin,Sem.run_bind,Sem.run_pure,Result.andThen_ok,List.map_toArray,List.map_cons,List.map_nil,hp,hq,hrun]
 exact hh g' C' w' r1 r2
theorem step_clip{α:Type}{lay:α→Array Value}{k:Nat}{e t:TypeId}{A:Option Addr}{n:Nat}{L:List α}(hgd:o.guard=none)(hT:SlT t e k)(hk:∀ x,(lay x).size=k)(h1:∀ x,Ones (lay x))(hs:Sl lay k w A n L)(hw:Wf A n n)(hlen:L.length+1≤1000000)(p q:Operand)(ho:o.op= .call { callee:=.builtin .append,args:=#[p,q],argTypes:=#[t,t] })
 (hp:a.eval p= .slice A n n) (x:α) (bx C:Nat) (hq:a.eval q= .slice (some ⟨bx,0,none⟩) 1 C) (hx:w.heap[bx]?=some (.cells (lay x) e (0,0)))
 (hh:∀ g' C' w',Ow lay k w' w.heap.size e (.slice (some ⟨g',0,none⟩) (n+1) C') (L++[x])→Below w.heap.size w w'→K (a.put o.dst (.slice (some ⟨g',0,none⟩) (n+1) C')) w'):if Region.wanted o (yielded ops a.tmps)=true then Oper.wp Tryz.prog o a w K Q else E:=
 toStep hgd (wp_clip hT hk h1 hs hw hlen p q ho hp x bx C hq hx hh)
end
theorem Ow.lower{α:Type}{lay:α→Array Value}{k:Nat}{w:World}{base b:Nat}{e:TypeId}{v:Value}{L:List α}(h:Ow lay k w base e v L)(hb:b≤base):Ow lay k w b e v L:=by
 obtain⟨⟨h1,h2⟩,h3⟩:=h
 refine⟨⟨h1,?_⟩,h3⟩
 rcases h2 with q|⟨gg,cap,cur,q1,q2,q3⟩
 ·exact .inl q
 ·exact .inr ⟨gg,cap,cur,q1,by omega,q3⟩
section
variable {ops:Array Oper} {C:World→Prop} {oi:Oper} {a:Act} {T n:Nat}
theorem yieldsG_one(hw:Region.wanted oi (yielded ops a.tmps)=true)(hT:OneT T)(x:Operand)(ho:oi.op= .load T x)(ad:Addr)(hx:a.eval x= .pointer (some ad))(v:Value)(hc:∀ w,C w→w.cell? ad=some v):YieldsIf Tryz.prog ops C oi v a:=by
 refine .inl ⟨hw,fun w hw=>?_⟩
 unfold execOp
 simp only[ho,hx,Instr.loadAt,Instr.sureAddr,Sem.run_bind,Sem.run_pure,Result.andThen_ok,load_one hT w ad v (hc w hw)]
theorem yieldsG_row(hw:Region.wanted oi (yielded ops a.tmps)=true)(hT:IsRow T n)(x:Operand)(ho:oi.op= .load T x)(g off:Nat)(hx:a.eval x= .pointer (some ⟨g,off,none⟩))(cs:Array Value)(hs:cs.size=n)(hc:∀ w,C w→∀ j v,cs[j]?=some v→w.cell? ⟨g,off+j,none⟩=some v):YieldsIf Tryz.prog ops C oi (.agg cs) a:=by
 refine .inl ⟨hw,fun w hw=>?_⟩
 unfold execOp
 simp only[ho,hx,Instr.loadAt,Instr.sureAddr,Sem.run_bind,Sem.run_pure,Result.andThen_ok,load_at hT g off cs hs (hc w hw)]
variable {o:Oper} {w:World} {Q:Exit→Act→World→Prop} {K:Act→World→Prop} {E:Prop}
theorem openG(hw:Region.wanted o (yielded ops a.tmps)=true)(h:Oper.wp Tryz.prog o a w K Q):if Region.wanted o (yielded ops a.tmps)=true then Oper.wp Tryz.prog o a w K Q else E:=by
 rw[if_pos hw];exact h
theorem shutG(hw:Region.wanted o (yielded ops a.tmps)=false)(h:E):if Region.wanted o (yielded ops a.tmps)=true then Oper.wp Tryz.prog o a w K Q else E:=by
 rw[if_neg (by rw[hw];exact Bool.noConfusion)];exact h
end
section
variable {F:Fence} {n:Nat} {ops:Array Oper} {Q:Exit→Act→World→Prop} {md:Region.Mode} {i j:Nat} {o:Oper} {a:Act} {w:World} {K:Act→World→Prop} {l:Array Bool} {fuel:Nat}
theorem semAt_nd(nd:∀ c,o.op≠ .defer c)(a:Act):o.semAt F.round a.eval=execOp a.eval o:=by
 cases hr:F.round with
 | none=>rfl
 | some l=>exact Oper.semAt_some l a.eval o nd
theorem opIn_v{v:Value}(ho:ops[i]?=some o)(hF:∀ f,F.fn f)(hgd:o.guard=none)(nd:∀ c,o.op≠ .defer c)(hrun:(execOp a.eval o).run Tryz.prog w= .ok (.value v) w)(h:K (a.put o.dst v) w):wpOpIn F n Tryz.prog ops Q i K a w:=by
 unfold wpOpIn
 rw[ho]
 have hw:Region.wanted o (yielded ops a.tmps)=true:=by simp[Region.wanted,hgd]
 simp only[hw,if_true]
 refine⟨fun f _=>hF f,?_⟩
 rw[semAt_nd nd,hrun]
 exact h
theorem opIn_c{f:FuncId}{args:Array Value}{R:Ending→World→Prop}(ho:ops[i]?=some o)(hF:∀ f,F.fn f)(hgd:o.guard=none)(nd:∀ c,o.op≠ .defer c)(hd:F.depth=none)(hc:CallsIn F (n-1) Tryz.prog f args w R)(hrun:(execOp a.eval o).run Tryz.prog w= .ok (.enter f args) w)
 (h:∀ e w',R e w'→∃ v,e= .returned v∧K (a.put o.dst v) w'):wpOpIn F n Tryz.prog ops Q i K a w:=by
 unfold wpOpIn
 rw[ho]
 have hw:Region.wanted o (yielded ops a.tmps)=true:=by simp[Region.wanted,hgd]
 simp only[hw,if_true]
 refine⟨fun f _=>hF f,?_⟩
 rw[semAt_nd nd,hrun]
 refine⟨(fun h=>by rw[hd]at h;cases h),hc.mono ?_⟩
 intro e w' he
 obtain⟨v,rfl,hk⟩:=h e w' he
 exact hk
theorem any2(hr:Region.ready md ops l=[i,j])(h1:wpOpIn F n Tryz.prog ops Q i (wpAnyIn F n Tryz.prog md ops Q fuel (l.setIfInBounds i true)) a w)(h2:wpOpIn F n Tryz.prog ops Q j (wpAnyIn F n Tryz.prog md ops Q fuel (l.setIfInBounds j true)) a w):wpAnyIn F n Tryz.prog md ops Q (fuel+1) l a w:=
 wpAnyIn_all hr (by simp) fun k hk=>by
  rcases List.mem_cons.1 hk with e|hk
  ·subst e;exact h1
  ·have:k=j:=by simpa using hk
   subst this;exact h2
theorem any1(hr:Region.ready md ops l=[i])(h1:wpOpIn F n Tryz.prog ops Q i (wpAnyIn F n Tryz.prog md ops Q fuel (l.setIfInBounds i true)) a w):wpAnyIn F n Tryz.prog md ops Q (fuel+1) l a w:=
 wpAnyIn_all hr (by simp) fun k hk=>by
  have:k=i:=by simpa using hk
  subst this;exact h1
end
end Go.Proofs.YtdmhfogegfmnfaaGreatDoor
