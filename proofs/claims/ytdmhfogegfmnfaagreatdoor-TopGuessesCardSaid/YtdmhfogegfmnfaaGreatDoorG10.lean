/- Contracts: slices cloned, clipped. Conditions: they read as lists. Contracts: the machine's lists become its own. Conditions: the box has a core that is read outside of it. The walk's laws on a machine: a local made, what it leaves told; a slice of one number. No conditions. Contracts: a cache with another set. Conditions: the cache reads as one. Contracts: addresses, .. -/
import Derived.Test.YtdmhfogegfmnfaaGreatDoorG00
import Derived.Test.YtdmhfogegfmnfaaGreatDoorG01
import Derived.Test.YtdmhfogegfmnfaaGreatDoorG02
import Derived.Test.YtdmhfogegfmnfaaGreatDoorG03
import Derived.Test.YtdmhfogegfmnfaaGreatDoorG07
import Derived.Test.YtdmhfogegfmnfaaGreatDoorG09
import Derived.Lib.SliceRun
import Derived.BigQuiet
set_option maxRecDepth 100000
set_option maxHeartbeats 4000000
set_option linter.unusedVariables false
set_option linter.unusedSimpArgs false
namespace Go.Proofs.YtdmhfogegfmnfaaGreatDoor
open Go.RowKit
def ClipP(A:Option Addr)(n:Nat)(w:World)(e:Ending)(w':World):Prop:=e= .returned (.slice A n n)∧Below w.heap.size w w'
theorem u32C_size(x:U):(u32C x).size=1:=(rfl)
theorem u32C_ones(x:U):Ones (u32C x):=(rfl)
theorem i64C_size(x:Int):(i64C x).size=1:=(rfl)
theorem i64C_ones(x:Int):Ones (i64C x):=(rfl)
theorem run_bs0{t e:TypeId}{k:Nat}(hT:SlT t e k)(w:World):(Instr.buildSlice t 0 #[]).run Tryz.prog w= .ok (.slice (some ⟨w.heap.size,0,none⟩) 0 0) (w.alloc (.cells #[] e)):=by
 obtain⟨i,z,hu,hi,hz,hsz,hzs,hk0,hb⟩:=info_k hT
 unfold Instr.buildSlice
 simp only[Sem.run_bind,run_underlying hu]
 simp[sizeOf,typeInfo,zeroValue,hi,hz,hsz,newRow,Instr.fill]
 all_goals(have e:∀ f:Nat→Value,Array.map f (Array.range 0)=#[]:=(fun f=>Array.eq_empty_of_size_eq_zero (by simp));rw[e])
theorem ow_bs0{α:Type}{lay:α→Array Value}{e:TypeId}{k:Nat}(w:World):Ow lay k (w.alloc (.cells #[] e)) w.heap.size e (.slice (some ⟨w.heap.size,0,none⟩) 0 0) ([]:List α):=
 ⟨⟨by simp[flat],.inr ⟨w.heap.size,0,#[],rfl,Nat.le_refl _,heap_at _ _ _ rfl,Nat.le_refl _,by decide,by simp,by simp[flat]⟩⟩,by simp⟩
theorem st_bs0{w:World}{ops:Array Oper}{rest:List Oper}{o:Oper}{a:Act}{Q:Exit→Act→World→Prop}{t e:TypeId}{k:Nat}(hgd:o.guard=none)(hT:SlT t e k)(ho:o.op= .buildSlice t 0 #[])(h:wpList Tryz.prog ops Q rest (a.put o.dst (.slice (some ⟨w.heap.size,0,none⟩) 0 0)) (w.alloc (.cells #[] e))):wpList Tryz.prog ops Q (o::rest) a w:=by
 refine wpList_plain hgd fun K hK=>?_
 unfold Oper.wp execOp
 simp only[ho,Sem.run_bind,Sem.run_pure,Result.andThen_ok,List.map_toArray,List.map_nil,run_bs0 hT w]
 exact hK _ _ h
theorem clip_fetched(A:Option Addr)(n C:Nat)(w:World)(hW:Wf A n C):Calls Tryz.prog 41 #[.slice A n C] w (ClipP A n w):=by
 have h1:=hW.le
 have h2:=hW.few
 have h3:=hW.nil
 cases A with
 | none=>
  have h4:=h3 rfl
  subst h4
  have h5:n=0:=by omega
  subst h5
  clear h1 h2 h3 hW
  go_enter Tryz.func41,Tryz.ntmps41
  go_wp2
  go_ret
  exact⟨rfl,Below.refl _ _⟩
 | some p=>
  have b1:(n:Int)≤(C:Int):=by omega
  clear h3 hW
  go_enter Tryz.func41,Tryz.ntmps41
  go_wp2
  go_ret
  exact⟨rfl,Below.refl _ _⟩
theorem clip_stores(A:Option Addr)(n C:Nat)(w:World)(hW:Wf A n C):Calls Tryz.prog 42 #[.slice A n C] w (ClipP A n w):=by
 have h1:=hW.le
 have h2:=hW.few
 have h3:=hW.nil
 cases A with
 | none=>
  have h4:=h3 rfl
  subst h4
  have h5:n=0:=by omega
  subst h5
  clear h1 h2 h3 hW
  go_enter Tryz.func42,Tryz.ntmps42
  go_wp2
  go_ret
  exact⟨rfl,Below.refl _ _⟩
 | some p=>
  have b1:(n:Int)≤(C:Int):=by omega
  clear h3 hW
  go_enter Tryz.func42,Tryz.ntmps42
  go_wp2
  go_ret
  exact⟨rfl,Below.refl _ _⟩
theorem clip_bus(A:Option Addr)(n C:Nat)(w:World)(hW:Wf A n C):Calls Tryz.prog 43 #[.slice A n C] w (ClipP A n w):=by
 have h1:=hW.le
 have h2:=hW.few
 have h3:=hW.nil
 cases A with
 | none=>
  have h4:=h3 rfl
  subst h4
  have h5:n=0:=by omega
  subst h5
  clear h1 h2 h3 hW
  go_enter Tryz.func43,Tryz.ntmps43
  go_wp2
  go_ret
  exact⟨rfl,Below.refl _ _⟩
 | some p=>
  have b1:(n:Int)≤(C:Int):=by omega
  clear h3 hW
  go_enter Tryz.func43,Tryz.ntmps43
  go_wp2
  go_ret
  exact⟨rfl,Below.refl _ _⟩
theorem clip_retired(A:Option Addr)(n C:Nat)(w:World)(hW:Wf A n C):Calls Tryz.prog 44 #[.slice A n C] w (ClipP A n w):=by
 have h1:=hW.le
 have h2:=hW.few
 have h3:=hW.nil
 cases A with
 | none=>
  have h4:=h3 rfl
  subst h4
  have h5:n=0:=by omega
  subst h5
  clear h1 h2 h3 hW
  go_enter Tryz.func44,Tryz.ntmps44
  go_wp2
  go_ret
  exact⟨rfl,Below.refl _ _⟩
 | some p=>
  have b1:(n:Int)≤(C:Int):=by omega
  clear h3 hW
  go_enter Tryz.func44,Tryz.ntmps44
  go_wp2
  go_ret
  exact⟨rfl,Below.refl _ _⟩
theorem clone_prog(A:Option Addr)(n C:Nat)(L:List U)(w:World)(hL:Sl u32C 1 w A n L)(hW:Wf A n C):Calls Tryz.prog 15 #[.slice A n C] w (OwP u32C 1 28 L w):=by
 have h3:=hW.nil
 have h1:=hW.le
 have hl:=hL.len
 have hf:=hL.few
 cases A with
 | none=>
  have h4:=h3 rfl
  subst h4
  have h5:n=0:=by omega
  subst h5
  have h6:L=[]:=List.eq_nil_of_length_eq_zero hl
  subst h6
  clear h1 h3 hW hL
  have qn:∀(w:World) (a:Option Addr) (n c n' c':Nat),(binOp .eql 23 (.slice a n c) (.slice none n' c')).run Tryz.prog w= .ok (.bool a.isNone) w:=fun w a n c n' c'=>Lib.run_eql_slice_nil w _ _ a n c n' c' Tryz.underlying23
  go_enter Tryz.func15,Tryz.ntmps15
  go_wp2
  go_ret
  exact⟨_,rfl,Ow.nil _ _ _,Below.refl _ _⟩
 | some p=>
  have HL:=Lib.hid hL
  clear h3 hW hL
  have qn:∀(w:World) (a:Option Addr) (n c n' c':Nat),(binOp .eql 23 (.slice a n c) (.slice none n' c')).run Tryz.prog w= .ok (.bool a.isNone) w:=fun w a n c n' c'=>Lib.run_eql_slice_nil w _ _ a n c n' c' Tryz.underlying23
  go_enter Tryz.func15,Tryz.ntmps15
  go_wp2_with (first|((with_reducible refine gD (Op.buildSlice 23 _ _) ?_);refine st_bs0 rfl slT23 rfl ?_;try simp only[Act.put,xA,xB,xC,fR])|(at_builtin;(refine app_sl slT23 u32C_size u32C_ones rfl _ _ rfl w.heap.size _ [] rfl (ow_bs0 w) (some p) n C L rfl (HL.out.below ((Below.refl _ w).alloc (Nat.le_refl _) _)) (fun h=>by cases h) (by simp;omega) (by simp) ?_);intro v2 w2 h2 g2;(have HB2:=Lib.hid (bl_own ((Below.refl _ w).alloc (Nat.le_refl _) (.cells #[] 28)) g2 (by simp only[World.size_alloc];omega) (fun q hq=>by cases hq;exact Nat.le_refl _)));have HO2:=Lib.hid h2;clear h2 g2;try simp only[Act.put,xA,xB,xC,fR]))
  go_ret
  exact⟨_,rfl,by have h9:=HO2.out;rw[List.nil_append]at h9;exact h9,HB2.out⟩
theorem clone_rob(A:Option Addr)(n C:Nat)(L:List En)(w:World)(hL:Sl enC 17 w A n L)(hW:Wf A n C):Calls Tryz.prog 40 #[.slice A n C] w (OwP enC 17 85 L w):=by
 have h3:=hW.nil
 have h1:=hW.le
 have hl:=hL.len
 have hf:=hL.few
 cases A with
 | none=>
  have h4:=h3 rfl
  subst h4
  have h5:n=0:=by omega
  subst h5
  have h6:L=[]:=List.eq_nil_of_length_eq_zero hl
  subst h6
  clear h1 h3 hW hL
  have qn:∀(w:World) (a:Option Addr) (n c n' c':Nat),(binOp .eql 31 (.slice a n c) (.slice none n' c')).run Tryz.prog w= .ok (.bool a.isNone) w:=fun w a n c n' c'=>Lib.run_eql_slice_nil w _ _ a n c n' c' Tryz.underlying31
  go_enter Tryz.func40,Tryz.ntmps40
  go_wp2
  go_ret
  exact⟨_,rfl,Ow.nil _ _ _,Below.refl _ _⟩
 | some p=>
  have HL:=Lib.hid hL
  clear h3 hW hL
  have qn:∀(w:World) (a:Option Addr) (n c n' c':Nat),(binOp .eql 31 (.slice a n c) (.slice none n' c')).run Tryz.prog w= .ok (.bool a.isNone) w:=fun w a n c n' c'=>Lib.run_eql_slice_nil w _ _ a n c n' c' Tryz.underlying31
  go_enter Tryz.func40,Tryz.ntmps40
  go_wp2_with (first|((with_reducible refine gD (Op.buildSlice 31 _ _) ?_);refine st_bs0 rfl slT31 rfl ?_;try simp only[Act.put,xA,xB,xC,fR])|(at_builtin;(refine app_sl slT31 enC_size enC_ones rfl _ _ rfl w.heap.size _ [] rfl (ow_bs0 w) (some p) n C L rfl (HL.out.below ((Below.refl _ w).alloc (Nat.le_refl _) _)) (fun h=>by cases h) (by simp;omega) (by simp) ?_);intro v2 w2 h2 g2;have HB2:=Lib.hid (bl_own ((Below.refl _ w).alloc (Nat.le_refl _) (.cells #[] 85)) g2 (by simp only[World.size_alloc];omega) (fun q hq=>by cases hq;exact Nat.le_refl _));have HO2:=Lib.hid h2;clear h2 g2;try simp only[Act.put,xA,xB,xC,fR]))
  go_ret
  exact⟨_,rfl,by have h9:=HO2.out;rw[List.nil_append]at h9;exact h9,HB2.out⟩
structure PM(w0 w:World)(g:Nat)(κ:Nat→Nat)(c:Co)(s:Ss):Prop where
 bl:Below w0.heap.size w0 w
 gcol:κ g=1
 g1:∀ j,κ j=1→j=g
 new:∀ j,κ j≠0→w0.heap.size≤j∧j<w.heap.size
 rd:CoR (fun j=>κ j=0) w c s
 box:w.heap[g]?=some (.cells (coC c s) 67 (0,0))
structure PO(w0 ws w:World)(g:Nat)(κs κ:Nat→Nat)(c:Co)(s:Ss):Prop where
 bl:Below w0.heap.size w0 w
 gcol:κ g=1
 g1:∀ j,κ j=1→j=g
 new:∀ j,κ j≠0→w0.heap.size≤j∧j<w.heap.size
 rd:CoR (fun j=>κ j=0) w { c with rob:=[] } { s with rob:=⟨none,0,0⟩ }
 rob:Rw κ 2 enC 17 85 w s.rob c.rob
 box:w.heap[g]?=some (.cells (coC c s) 67 (0,0))
 kp:Kp κs ws w
 sm:Same κs κ ws
section
variable {w0 ws w w':World} {g:Nat} {κs κ:Nat→Nat} {c:Co} {s s':Ss} {ops:Array Oper} {rest:List Oper} {o:Oper} {a:Act} {Q:Exit→Act→World→Prop} {T n:Nat}
theorem PM.below(h:PM w0 w g κ c s)(hb:Below w.heap.size w w'):PM w0 w' g κ c s:=
 ⟨h.bl.trans (hb.mono h.bl.size),h.gcol,h.g1,fun j hj=>⟨(h.new j hj).1,Nat.lt_of_lt_of_le (h.new j hj).2 hb.size⟩,h.rd.below hb,(hb.block g (h.new g (by rw[h.gcol];decide)).2).trans h.box⟩
theorem PM.cell(h:PM w0 w g κ c s):∀ j,w.cell? ⟨g,j,none⟩=(coC c s)[j]?:=fun j=>cell_of_row w g j _ _ _ h.box
theorem PO.cell(h:PO w0 ws w g κs κ c s):∀ j,w.cell? ⟨g,j,none⟩=(coC c s)[j]?:=fun j=>cell_of_row w g j _ _ _ h.box
theorem PO.gB(h:PO w0 ws w g κs κ c s):g<w.heap.size:=(Array.getElem?_eq_some_iff.1 h.box).1
theorem PO.below(h:PO w0 ws w g κs κ c s)(hb:Below w.heap.size w w'):PO w0 ws w' g κs κ c s:=
 ⟨h.bl.trans (hb.mono h.bl.size),h.gcol,h.g1,fun j hj=>⟨(h.new j hj).1,Nat.lt_of_lt_of_le (h.new j hj).2 hb.size⟩,h.rd.below hb,h.rob.below hb,(hb.block g h.gB).trans h.box,⟨Nat.le_trans h.kp.size hb.size,fun j hj hk=>(hb.block j (Nat.lt_of_lt_of_le hj h.kp.size)).trans (h.kp.heap j hj hk)⟩,h.sm⟩
theorem CoR.noRob{X:Nat→Prop}(h:CoR X w c s):CoR X w { c with rob:=[] } { s with rob:=⟨none,0,0⟩ } :=
 ⟨h.regs,h.lat,h.tape,h.prog,h.fetched,⟨Sl.none_ _,Wf.zero,fun h=>absurd h (Nat.lt_irrefl 0)⟩,h.stores,h.data,h.words,h.bus,h.slots,h.returns,h.retired⟩
theorem rd_clip{α:Type}{X:Nat→Prop}{lay:α→Array Value}{k:Nat}{s:Sv}{L:List α}(h:Rd X lay k w s L):Rd X lay k w ⟨s.a,s.n,s.n⟩ L:=
 ⟨h.sl,⟨fun e=>by have:=h.wf.nil e;have:=h.wf.le;show s.n=0;omega,Nat.le_refl _,Nat.le_trans h.wf.le h.wf.few⟩,h.av⟩
theorem CoR.off{X:Nat→Prop}{g:Nat}(h:CoR X w c s)(ho:Off g w w')(hg:¬ X g):CoR X w' c s:=
 h.same (by rw[ho.size];exact Nat.le_refl _) (fun j hj=>ho.heap j (fun e=>hg (e▸hj)))
theorem st_po1(hgd:o.guard=none)(h0:PM w0 ws g κs c s){v:Value}(hb:Below ws.heap.size ws w)(how:Ow enC 17 w ws.heap.size 85 v c.rob)(x y:Operand)(ho:o.op= .store 31 x y)(hx:a.eval x= .pointer (some ⟨g,48,none⟩))(hy:a.eval y=v)
 (h:∀ w' κ' s',PO w0 ws w' g κs κ' c s'→(s'.fetched=s.fetched∧s'.stores=s.stores∧s'.bus=s.bus∧s'.retired=s.retired)→wpList Tryz.prog ops Q rest (a.put o.dst undef) w'):wpList Tryz.prog ops Q (o::rest) a w:=by
 refine wpList_plain hgd fun K hK=>?_
 have hg0:=h0.new g (by rw[h0.gcol];decide)
 have hbox:=(hb.block g hg0.2).trans h0.box
 have hz:∀ j,κs j≠0→j<ws.heap.size:=fun j hj=>(h0.new j hj).2
 obtain⟨A,C,rfl,f1,f2,f3⟩:=how.sl2 enC_size
 refine wp_put cel31 x y ho g 48 hx _ hy rfl rfl 67 _ hbox (by rw[coC_size];decide) (hK _ _ ?_)
 rw[show(Value.slice A c.rob.length C).cells=#[.slice A c.rob.length C]from rfl,coU_rob c s c.rob A c.rob.length C]
 have of':=Off.row (g:=g) (w:=w) (coC c { s with rob:=⟨A,c.rob.length,C⟩ })
 have key:∀ κ',(∀ j,j<ws.heap.size→κ' j=κs j)→(∀ j,ws.heap.size≤j→κ' j≠0→j<w.heap.size∧κ' j=2)→Rw κ' 2 enC 17 85 w ⟨A,c.rob.length,C⟩ c.rob→wpList Tryz.prog ops Q rest (a.put o.dst undef) (w.setRow g (coC c { s with rob:=⟨A,c.rob.length,C⟩ })):=fun κ' k1 k2 hr=>by
  have hgc:κ' g=1:=(k1 g hg0.2).trans h0.gcol
  have hnew:∀ j,κ' j≠0→w0.heap.size≤j∧j<w.heap.size:=fun j hj=>by
   rcases Nat.lt_or_ge j ws.heap.size with q|q
   ·have:=h0.new j (by rw[← k1 j q];exact hj)
    exact⟨this.1,Nat.lt_of_lt_of_le q hb.size⟩
   ·exact⟨Nat.le_trans h0.bl.size q,(k2 j q hj).1⟩
  have hrd:CoR (fun j=>κ' j=0) w { c with rob:=[] } { s with rob:=⟨none,0,0⟩ } :=
   ((h0.rd.noRob).mono (Y:=fun j=>κ' j=0) fun j h1 h2=>(k1 j h2).trans h1).below hb
  refine h _ κ' { s with rob:=⟨A,c.rob.length,C⟩ } ⟨of'.below (h0.bl.trans (hb.mono h0.bl.size)) hg0.1,hgc,fun j hj=>?_,fun j hj=>by rw[of'.size];exact hnew j hj,hrd.off of' (by rw[hgc];decide),hr.off of' (by rw[hgc];decide),setRow_heap w g _ _ _ _ hbox,⟨by rw[of'.size];exact hb.size,fun j hj hk=>(of'.heap j (fun e=>by subst e;rw[h0.gcol]at hk;omega)).trans (hb.block j hj)⟩,k1⟩ ⟨rfl,rfl,rfl,rfl⟩
  rcases Nat.lt_or_ge j ws.heap.size with q|q
  ·exact h0.g1 j (by rw[← k1 j q];exact hj)
  ·have:=(k2 j q (by omega)).2;omega
 rcases Nat.eq_zero_or_pos c.rob.length with e|e
 ·exact key κs (fun _ _=>rfl) (fun j hj hh=>absurd (hz j hh) (by omega)) ⟨f1,f2,fun h=>absurd h (by simp only;omega)⟩
 ·obtain⟨g',C',cur,q0,q1,q2,q3,q4,q5⟩:=how.lies e
  cases q0
  have hlt:=(Array.getElem?_eq_some_iff.1 q2).1
  refine key (upd κs g' 2) (Same.upd κs ws q1) (fun j hj hh=>?_) ⟨f1,f2,fun _=>⟨g',0,cur,rfl,upd_at _ _ _,q2,by simp only;omega⟩⟩
  unfold upd at hh ⊢
  by_cases e:j=g'
  ·rw[if_pos e];subst e;exact⟨hlt,rfl⟩
  ·rw[if_neg e]at hh;exact absurd (hz j hh) (by omega)
theorem st_po2(hgd:o.guard=none)(hT:Cel T 1)(H:PO w0 ws w g κs κ c s)(x y:Operand)(ho:o.op= .store T x y)(k:Nat)(hx:a.eval x= .pointer (some ⟨g,k,none⟩))(A:Option Addr)(n C:Nat)(hy:a.eval y= .slice A n C)(hk:k+1≤64)(hset:putA (coC c s) k #[.slice A n C]=coC c s')(hrob:s'.rob=s.rob)
 (hrd:CoR (fun j=>κ j=0) w { c with rob:=[] } { s' with rob:=⟨none,0,0⟩ }) (h:∀ w',PO w0 ws w' g κs κ c s'→wpList Tryz.prog ops Q rest (a.put o.dst undef) w'):wpList Tryz.prog ops Q (o::rest) a w:=by
 refine wpList_plain hgd fun K hK=>?_
 refine wp_put hT x y ho g k hx _ hy rfl rfl 67 _ H.box (by rw[coC_size];exact hk) (hK _ _ ?_)
 rw[show(Value.slice A n C).cells=#[.slice A n C]from rfl,hset]
 have of':=Off.row (g:=g) (w:=w) (coC c s')
 have hg0:=H.new g (by rw[H.gcol];decide)
 exact h _ ⟨of'.below H.bl hg0.1,H.gcol,H.g1,fun j hj=>by rw[of'.size];exact H.new j hj,hrd.off of' (by rw[H.gcol];decide),by rw[hrob];exact H.rob.off of' (by rw[H.gcol];decide),setRow_heap w g _ _ _ _ H.box,⟨by rw[of'.size];exact H.kp.size,fun j hj hk=>(of'.heap j (fun e=>by subst e;have:=H.sm _ hj;rw[H.gcol]at this;rw[← this]at hk;omega)).trans (H.kp.heap j hj hk)⟩,H.sm⟩
end
theorem own_m(w0 w:World)(g:Nat)(κ:Nat→Nat)(c:Co)(s:Ss)(M:PM w0 w g κ c s):Calls Tryz.prog 20 #[.pointer (some ⟨g,0,none⟩)] w fun e w'=>e= .returned (.tuple #[])∧MP w0 w g κ { c with ph:=0 } w':=by
 have H0:=Lib.hid M
 have c48:=(M.cell 48).trans (coC_48 c s)
 clear M
 go_enter Tryz.func20,Tryz.ntmps20
 go_wp2_with (first|((with_reducible refine gL 31 6 ?_);refine st_lone rfl one31 _ rfl ⟨g,48,none⟩ rfl _ c48 ?_;try simp only[Act.put,xA,xB,xC,fR])|(go_at_call 40;refine(clone_rob s.rob.a s.rob.n s.rob.c c.rob _ H0.out.rd.rob.sl H0.out.rd.rob.wf).mono ?_;rintro r w1 ⟨v,rfl,how,hb⟩)|((with_reducible refine gS 31 11 ?_);refine st_po1 rfl H0.out hb how _ _ rfl rfl rfl ?_;intro w1 κ1 s1 H he;have HE:=Lib.hid he;clear how hb he;try simp only[Act.put,xA,xB,xC,fR])|((with_reducible refine gL 30 16 ?_);refine st_lone rfl one30 _ rfl ⟨g,47,none⟩ rfl _ ((H.cell 47).trans (coC_47 _ _)) ?_;try simp only[Act.put,xA,xB,xC,fR])|(go_at_call 41;refine(clip_fetched _ _ _ _ H.rd.fetched.wf).mono ?_;unfold ClipP;rintro r w1 ⟨rfl,hb⟩;have H1:=H.below hb;clear H hb;have H:=H1;clear H1)|((with_reducible refine gS 30 21 ?_);refine st_po2 rfl cel30 H _ _ rfl 47 rfl _ _ _ rfl (by decide) (coU_fetched c s1 c.fetched s1.fetched.a s1.fetched.n s1.fetched.n) rfl ⟨H.rd.regs,H.rd.lat,H.rd.tape,H.rd.prog,rd_clip H.rd.fetched,H.rd.rob,H.rd.stores,H.rd.data,H.rd.words,H.rd.bus,H.rd.slots,H.rd.returns,H.rd.retired⟩ ?_;clear H;intro w2 H;try simp only[Act.put,xA,xB,xC,fR])|((with_reducible refine gL 32 26 ?_);refine st_lone rfl one32 _ rfl ⟨g,50,none⟩ rfl _ ((H.cell 50).trans (coC_50 _ _)) ?_;try simp only[Act.put,xA,xB,xC,fR])|(go_at_call 42;refine(clip_stores _ _ _ _ H.rd.stores.wf).mono ?_;unfold ClipP;rintro r w1 ⟨rfl,hb⟩;have H1:=H.below hb;clear H hb;have H:=H1;clear H1)|((with_reducible refine gS 32 31 ?_);refine st_po2 rfl cel32 H _ _ rfl 50 rfl _ _ _ rfl (by decide) (coU_stores c _ c.stores s1.stores.a s1.stores.n s1.stores.n) rfl ⟨H.rd.regs,H.rd.lat,H.rd.tape,H.rd.prog,H.rd.fetched,H.rd.rob,rd_clip H.rd.stores,H.rd.data,H.rd.words,H.rd.bus,H.rd.slots,H.rd.returns,H.rd.retired⟩ ?_;clear H;intro w2 H;try simp only[Act.put,xA,xB,xC,fR])|((with_reducible refine gL 36 36 ?_);refine st_lone rfl one36 _ rfl ⟨g,55,none⟩ rfl _ ((H.cell 55).trans (coC_55 _ _)) ?_;try simp only[Act.put,xA,xB,xC,fR])|(go_at_call 43;refine(clip_bus _ _ _ _ H.rd.bus.wf).mono ?_;unfold ClipP;rintro r w1 ⟨rfl,hb⟩;have H1:=H.below hb;clear H hb;have H:=H1;clear H1)|((with_reducible refine gS 36 41 ?_);refine st_po2 rfl cel36 H _ _ rfl 55 rfl _ _ _ rfl (by decide) (coU_bus c _ c.bus s1.bus.a s1.bus.n s1.bus.n) rfl ⟨H.rd.regs,H.rd.lat,H.rd.tape,H.rd.prog,H.rd.fetched,H.rd.rob,H.rd.stores,H.rd.data,H.rd.words,rd_clip H.rd.bus,H.rd.slots,H.rd.returns,H.rd.retired⟩ ?_;clear H;intro w2 H;try simp only[Act.put,xA,xB,xC,fR])|((with_reducible refine gL 40 46 ?_);refine st_lone rfl one40 _ rfl ⟨g,63,none⟩ rfl _ ((H.cell 63).trans (coC_63 _ _)) ?_;try simp only[Act.put,xA,xB,xC,fR])|(go_at_call 44;refine(clip_retired _ _ _ _ H.rd.retired.wf).mono ?_;unfold ClipP;rintro r w1 ⟨rfl,hb⟩;have H1:=H.below hb;clear H hb;have H:=H1;clear H1)|((with_reducible refine gS 40 51 ?_);refine st_po2 rfl cel40 H _ _ rfl 63 rfl _ _ _ rfl (by decide) (coU_retired c _ c.retired s1.retired.a s1.retired.n s1.retired.n) rfl ⟨H.rd.regs,H.rd.lat,H.rd.tape,H.rd.prog,H.rd.fetched,H.rd.rob,H.rd.stores,H.rd.data,H.rd.words,H.rd.bus,H.rd.slots,H.rd.returns,rd_clip H.rd.retired⟩ ?_;clear H;intro w2 H;try simp only[Act.put,xA,xB,xC,fR]))
 go_end0
 refine⟨rfl,κ1,_,⟨?_,H.box⟩,H.kp,H.sm⟩
 exact⟨H.bl,H.gcol,H.g1,H.new,H.rd.regs,H.rd.lat,H.rd.tape,H.rd.prog,⟨⟨H.rd.fetched.sl,H.rd.fetched.wf,.inl ⟨H.rd.fetched.av,rfl⟩⟩,fun _=>⟨H.rd.fetched.av,rfl⟩⟩,H.rob,Ap.sto ⟨H.rd.stores.sl,H.rd.stores.wf,.inl ⟨H.rd.stores.av,rfl⟩⟩,H.rd.data,H.rd.words,H.rd.bus,H.rd.slots,H.rd.returns,⟨H.rd.retired.sl,H.rd.retired.wf,.inl ⟨H.rd.retired.av,rfl⟩⟩⟩
theorem cfC_6(f:Cf)(l t:Sv):(cfC f l t)[6]?=some (.int .i64 f.sets):=(rfl)
theorem cfC_7(f:Cf)(l t:Sv):(cfC f l t)[7]?=some (.int .i64 f.ways):=(rfl)
theorem meet5{G:Prop}{A B C D F:Sort _}{M Hy:A→B→C→D→F→Prop}(br:(∀ a b c d f,Hy a b c d f→M a b c d f)→G)(rest:∀ a b c d f,Hy a b c d f→M a b c d f):G:=br rest
theorem one33:OneT 33:=⟨_,Tryz.underlying33,rfl⟩
theorem slT22':SlT 22 3 1:=⟨Tryz.underlying22,.int .i64 0,by kernel_rfl,by kernel_rfl,by decide⟩
theorem fill_one1(v:Value)(k:Nat)(base:Array Value)(hk:v.cells.size=k)(hb:base.size=k):Instr.fill (fun i=>some (i*k,k)) base [(0,v)]=some v.cells:=by
 unfold Instr.fill
 simp only[Nat.zero_mul]
 rw[if_neg (by simp[hk,hb])]
 unfold Instr.fill
 exact congrArg some (fold_all v.cells base (by omega))
theorem run_bs1{t e:TypeId}{k:Nat}(hT:SlT t e k)(h24:k≤100000)(w:World)(v:Value)(hk:v.cells.size=k):(Instr.buildSlice t 1 #[(0,v)]).run Tryz.prog w= .ok (.slice (some ⟨w.heap.size,0,none⟩) 1 1) (w.alloc (.cells v.cells e)):=by
 obtain⟨i,z,hu,hi,hz,hsz,hzs,hk0,hb⟩:=info_k hT
 have hfill:=fill_one1 v k ((Array.range k).map (z.cells[· % z.cells.size]!)) hk (by simp)
 have h1:¬ (16777216<k):=by omega
 have h2:k≠0:=by omega
 unfold Instr.buildSlice
 simp only[Sem.run_bind,run_underlying hu]
 simp[sizeOf,typeInfo,zeroValue,hi,hz,hsz,newRow,h1,h2,hfill]
theorem map_step{α:Type}{f:α→α}{L:List α}{k:Nat}{e:α}(h:L[k]?=some e):((L.take k).map f++L.drop k).set k (f e)=(L.take (k+1)).map f++L.drop (k+1):=by
 obtain⟨hk,he⟩:=List.getElem?_eq_some_iff.1 h
 have h1:((L.take k).map f).length=k:=by simp;omega
 rw[List.set_append_right _ _ (by omega),h1,Nat.sub_self,List.drop_eq_getElem_cons hk,List.set_cons_zero,List.take_succ_eq_append_getElem hk,List.map_append,List.append_assoc,he]
 rfl
theorem map_at{α:Type}{f:α→α}{L:List α}{k:Nat}{e:α}(h:L[k]?=some e):((L.take k).map f++L.drop k)[k]?=some e:=by
 obtain⟨hk,he⟩:=List.getElem?_eq_some_iff.1 h
 have h1:((L.take k).map f).length=k:=by simp;omega
 rw[List.getElem?_append_right (by omega),h1,Nat.sub_self,List.drop_eq_getElem_cons hk,List.getElem?_cons_zero,he]
section
variable {w0 ws w w':World} {g:Nat} {κs κ κ':Nat→Nat} {c c':Co} {s s':Ss} {l l':List Lc} {ops:Array Oper} {rest:List Oper} {o:Oper} {a:Act} {Q:Exit→Act→World→Prop} {K:Act→World→Prop} {E:Prop} {T n:Nat}
theorem St'.more(H:St' w0 ws w g κs κ c s l)(z:Array Value)(T:TypeId):St' w0 ws (w.alloc (.cells z T)) g κs (upd κ w.heap.size 6) c s ((w.heap.size,z,T)::l):=by
 have hb:=(Below.refl w.heap.size w).alloc (Nat.le_refl _) (.cells z T)
 have H':=H.color hb w.heap.size 6 (Nat.le_refl _) (by simp[World.size_alloc]) (by decide)
 exact⟨H'.m,H'.kp,H'.sm,fun y hy=>by
  rcases List.mem_cons.1 hy with q|hy
  ·subst q;exact⟨heap_at _ _ _ rfl,upd_at _ _ _,H.kp.size⟩
  ·exact H'.lc y hy,List.pairwise_cons.2 ⟨fun y hy q=>by
   have:=(Array.getElem?_eq_some_iff.1 (H.lc y hy).1).1
   simp only at q
   omega,H.nd⟩⟩
theorem wp_alb(z:Array Value)(hz:∀ W:World,(zeroValue T).run Tryz.prog W= .ok (.agg z) W)(H:St' w0 ws w g κs κ c s l)(ho:o.op= .alloc T)(h:∀ w' b κ',w.heap.size≤b→Below w.heap.size w w'→Same κ κ' w→St' w0 ws w' g κs κ' c s ((b,z,T)::l)→K (a.put o.dst (.pointer (some ⟨b,0,none⟩))) w'):Oper.wp Tryz.prog o a w K Q:=by
 have hrun:(Instr.alloc T true (.tuple #[])).run Tryz.prog w= .ok (.pointer (some ⟨w.heap.size,0,none⟩)) (w.alloc (.cells z T)):=by
  unfold Instr.alloc newVar newRow
  simp[Sem.run_bind,hz,Value.cells]
 unfold Oper.wp execOp
 simp only[ho,Sem.run_bind,Sem.run_pure,Result.andThen_ok,hrun]
 exact h _ _ _ (Nat.le_refl _) ((Below.refl w.heap.size w).alloc (Nat.le_refl _) (.cells z T)) (Same.upd κ w (Nat.le_refl _)) (H.more z T)
theorem step_alb(hgd:o.guard=none)(z:Array Value)(hz:∀ W:World,(zeroValue T).run Tryz.prog W= .ok (.agg z) W)(H:St' w0 ws w g κs κ c s l)(ho:o.op= .alloc T)(h:∀ w' b κ',w.heap.size≤b→Below w.heap.size w w'→Same κ κ' w→St' w0 ws w' g κs κ' c s ((b,z,T)::l)→K (a.put o.dst (.pointer (some ⟨b,0,none⟩))) w'):if Region.wanted o (yielded ops a.tmps)=true then Oper.wp Tryz.prog o a w K Q else E:=toStep hgd (wp_alb z hz H ho h)
theorem st_alb(hgd:o.guard=none)(z:Array Value)(hz:∀ W:World,(zeroValue T).run Tryz.prog W= .ok (.agg z) W)(H:St' w0 ws w g κs κ c s l)(ho:o.op= .alloc T)(h:∀ w' b κ',w.heap.size≤b→Below w.heap.size w w'→Same κ κ' w→St' w0 ws w' g κs κ' c s ((b,z,T)::l)→wpList Tryz.prog ops Q rest (a.put o.dst (.pointer (some ⟨b,0,none⟩))) w'):wpList Tryz.prog ops Q (o::rest) a w:=
 wpList_plain hgd fun K hK=>wp_alb z hz H ho fun w' b κ' h1 h2 h3 h4=>hK _ _ (h w' b κ' h1 h2 h3 h4)
def CE(w0 ws:World)(g:Nat)(κs:Nat→Nat)(c:Co)(s:Ss)(l:List Lc)(w:World):Prop:=∃ κ,St' w0 ws w g κs κ c s l
theorem CE.cell(h:CE w0 ws g κs c s l w)(j:Nat):w.cell? ⟨g,j,none⟩=(coC c s)[j]?:=by obtain⟨κ,h⟩:=h;exact h.cell j
theorem CE.lcell(h:CE w0 ws g κs c s l w){b:Nat}{cs:Array Value}{T:TypeId}(hx:(b,cs,T)∈l)(j:Nat):w.cell? ⟨b,j,none⟩=cs[j]?:=by obtain⟨κ,h⟩:=h;exact h.lcell hx j
theorem beginE(gate:Nat){l0:Array Bool}(H:St' w0 ws w g κs κ c s l)(hm:Tryz.prog.follows .mixedOrders=true){id:Nat}(h:St' w0 ws w.drew g κs κ c s l→wpAnyC Tryz.prog .any ops Q gate (CE w0 ws g κs c s l) ops.size l0 a w.drew)(hl:Array.replicate ops.size false=l0):(Code.region id ops true).wp Tryz.prog Q a w:=
 beginC gate _ hm (hl▸h H.drew)
def CL(w0 ws:World)(g:Nat)(κs:Nat→Nat)(l:List Lc)(w:World):Prop:=∃ κ c s,St' w0 ws w g κs κ c s l
theorem CL.lcell(h:CL w0 ws g κs l w){b:Nat}{cs:Array Value}{T:TypeId}(hx:(b,cs,T)∈l)(j:Nat):w.cell? ⟨b,j,none⟩=cs[j]?:=by obtain⟨κ,c,s,h⟩:=h;exact h.lcell hx j
theorem beginF(gate:Nat){l0:Array Bool}(H:St' w0 ws w g κs κ c s l)(hm:Tryz.prog.follows .mixedOrders=true){id:Nat}(h:St' w0 ws w.drew g κs κ c s l→wpAnyC Tryz.prog .any ops Q gate (CL w0 ws g κs l) ops.size l0 a w.drew)(hl:Array.replicate ops.size false=l0):(Code.region id ops true).wp Tryz.prog Q a w:=
 beginC gate _ hm (hl▸h H.drew)
theorem step_v{v:Value}(hgd:o.guard=none)(hrun:(execOp a.eval o).run Tryz.prog w= .ok (.value v) w)(h:K (a.put o.dst v) w):if Region.wanted o (yielded ops a.tmps)=true then Oper.wp Tryz.prog o a w K Q else E:=by
 refine toStep hgd ?_
 unfold Oper.wp
 rw[hrun]
 exact h
theorem wp_Sbi(v:Value)(hv:v.cells=#[v])(H:St' w0 ws w g κs κ c s l)(x:Operand){t e:TypeId}(hT:SlT t e 1)(ho:o.op= .buildSlice t 1 #[(0,x)])(hx:a.eval x=v)(h:∀ w' b κ',w.heap.size≤b→Below w.heap.size w w'→Same κ κ' w→St' w0 ws w' g κs κ' c s ((b,#[v],e)::l)→K (a.put o.dst (.slice (some ⟨b,0,none⟩) 1 1)) w'):Oper.wp Tryz.prog o a w K Q:=by
 have hrun:=run_bs1 hT (by decide) w v (by rw[hv];rfl)
 rw[hv]at hrun
 unfold Oper.wp execOp
 simp only[ho,List.map_toArray,List.map_cons,List.map_nil,hx,Sem.run_bind,Sem.run_pure,Result.andThen_ok,hrun]
 exact h _ _ _ (Nat.le_refl _) ((Below.refl w.heap.size w).alloc (Nat.le_refl _) (.cells #[v] e)) (Same.upd κ w (Nat.le_refl _)) (H.more _ e)
theorem st_Sbi(hgd:o.guard=none)(v:Value)(hv:v.cells=#[v])(H:St' w0 ws w g κs κ c s l)(x:Operand){t e:TypeId}(hT:SlT t e 1)(ho:o.op= .buildSlice t 1 #[(0,x)])(hx:a.eval x=v)(h:∀ w' b κ',w.heap.size≤b→Below w.heap.size w w'→Same κ κ' w→St' w0 ws w' g κs κ' c s ((b,#[v],e)::l)→wpList Tryz.prog ops Q rest (a.put o.dst (.slice (some ⟨b,0,none⟩) 1 1)) w'):wpList Tryz.prog ops Q (o::rest) a w:=
 wpList_plain hgd fun K hK=>wp_Sbi v hv H x hT ho hx fun w' b κ' h1 h2 h3 h4=>hK _ _ (h w' b κ' h1 h2 h3 h4)
theorem St'.llt{b:Nat}{cs:Array Value}{T:TypeId}(H:St' w0 ws w g κs κ c s l)(hx:(b,cs,T)∈l):b<w.heap.size:=(Array.getElem?_eq_some_iff.1 (H.lc _ hx).1).1
theorem St'.robat(H:St' w0 ws w g κs κ c s l)(hn:0<s.rob.n):∃ r off,s={ s with rob:=⟨some ⟨r,off,none⟩,s.rob.n,s.rob.c⟩ }:=by
 obtain⟨r,off,cur,e,_⟩:=H.m.r.rob.own hn
 refine⟨r,off,?_⟩
 rw[← e]
theorem St'.k6{b:Nat}{cs:Array Value}{T:TypeId}(H:St' w0 ws w g κs κ c s l)(hx:(b,cs,T)∈l):κ b≠0:=by
 have:=(H.lc _ hx).2.1
 simp only at this
 omega
theorem Sl.one{α:Type}{lay:α→Array Value}{k b:Nat}{x:α}{t:TypeId}{fr:Nat×Nat}(hg:w.heap[b]?=some (.cells (lay x) t fr)):Sl lay k w (some ⟨b,0,none⟩) 1 [x]:=
 ⟨rfl,by decide,fun _=>⟨b,0,rfl,(Array.getElem?_eq_some_iff.1 hg).1,fun i y j v hy hv=>by
  cases i with
  | zero=>
   simp only[List.getElem?_cons_zero,Option.some.injEq]at hy
   subst hy
   simp only[Nat.zero_mul,Nat.zero_add]
   exact(cell_of_row w b j _ _ _ hg).trans hv
  | succ i=>simp at hy⟩⟩
theorem Rd.up{α:Type}{lay:α→Array Value}{k:Nat}{t:Sv}{L:List α}(h:Rd (fun j=>κ j=0) lay k w t L)(hs:Same κ κ' w)(hb:Below w.heap.size w w'):Rd (fun j=>κ' j=0) lay k w' t L:=(h.mono (Y:=fun j=>κ' j=0) fun j h1 h2=>(hs j h2).trans h1).below hb
theorem caUp{t:Sv}{x:Ca}(h:CaX (fun j=>κ j=0) w t x)(hs:Same κ κ' w)(hb:Below w.heap.size w w'):CaX (fun j=>κ' j=0) w' t x:=(h.mono (Y:=fun j=>κ' j=0) fun j h1 h2=>(hs j h2).trans h1).below hb
end
theorem Sets.set{w:World}{T:List Sv}{S:List (List Wy)}(h:Sets w T S){k:Nat}{t:Sv}{L:List Wy}(h1:Sl wyC 3 w t.a t.n L)(h2:Wf t.a t.n t.c):Sets w (T.set k t) (S.set k L):=by
 refine⟨by simp[h.1],fun i t' L' ht hL=>?_⟩
 rw[List.getElem?_set]at ht hL
 by_cases q:k=i
 ·subst q
  simp only[if_true]at ht hL
  split at ht
  ·split at hL
   ·cases ht;cases hL;exact⟨h1,h2⟩
   ·cases hL
  ·cases ht
 ·rw[if_neg q]at ht hL
  exact h.2 i t' L' ht hL
def WithP(X:Nat→Prop)(c:Ca)(k:Nat)(L:List Wy)(w:World)(e:Ending)(w':World):Prop:=∃ s',e= .returned (caV c.ways s')∧CaX X w' s' (withC c k L)∧Below w.heap.size w w'
theorem with_any(X:Nat→Prop)(s:Sv)(c:Ca)(k:Nat)(t:Sv)(L:List Wy)(w:World)(hX:∀ j,w.heap.size≤j→X j)(hc:CaX X w s c)(hk:k<s.n)(hL:Sl wyC 3 w t.a t.n L)(hW:Wf t.a t.n t.c)(hA:Av X t.a t.n):Calls Tryz.prog 84 #[caV c.ways s,.int .i64 k,.slice t.a t.n t.c] w (WithP X c k L w):=by
 have hz:(Tryz.prog.info? 51).map (fun i=>i.zero.map (·.cells))=some (some (svC ⟨none,0,0⟩)):=by kernel_rfl
 have hn:=hc.toR.few
 obtain⟨T,hT,hS,hSets,hA1,hA2⟩:=hc
 have HA:=Lib.hid hA
 have HA2:=Lib.hid hA2
 have HX:=Lib.hid hX
 clear hA hA1 hA2 hX
 have HT:=Lib.hid hT
 have HS:=Lib.hid hS
 have HSets:=Lib.hid hSets
 have HL:=Lib.hid hL
 have HW:=Lib.hid hW
 have hTn:=hT.len
 clear hT hS hSets hL hW
 go_enter Tryz.func84,Tryz.ntmps84
 go_wp2_with (first|((with_reducible refine gS 35 6 ?_);refine store_row row35 rfl _ _ rfl (w.heap.size+1) (ccC ⟨c.ways,⟨some ⟨w.heap.size+1+1,0,none⟩,s.n,s.n⟩⟩) rfl rfl (ccC_size _) (ccC_ones _) (t:=35) (old:=ccC ccZ) ((Below.heap_setCell _ _ _ _ (by simp)).trans B1.out) (ccC_size _) ?_;try simp only[Act.put,xA,xB,xC,fR])|((with_reducible refine gAl 35 ?_);refine alloc_row (ccC ccZ) zero35 rfl rfl ?_;try simp only[Act.put,xA,xB,xC,fR])|((with_reducible refine gD (Op.makeSlice 33 _ _) ?_);(refine full_sl (α:=Sv) (lay:=svC) slT33 ⟨none,0,0⟩ hz svC_size rfl _ _ rfl w.heap.size .i64 .i64 s.n s.n s.n rfl rfl rfl rfl hn (by simp only[World.size_alloc];omega) ?_);intro v1 w1 h1 e1 g1;subst e1;obtain⟨oF,kF,rfl⟩:=more_of (bl_own (Below.refl _ _) g1 (Nat.le_refl _) (fun k h=>by cases h));clear g1;(try simp only[World.size_alloc]at h1);have HO:=Lib.hid h1;clear h1;try simp only[Act.put,xA,xB,xC,fR])|((with_reducible refine gD (Op.call { callee:=Callee.builtin Builtin.copy,args:=_,argTypes:=_ }) ?_);(refine copy_sl (α:=Sv) (lay:=svC) slT33 svC_size svC_ones rfl _ _ rfl w.heap.size (.slice (some ⟨w.heap.size+1+1,0,none⟩) s.n s.n) _ rfl HO.out s.a s.n s.c T rfl (HT.out.below (by(repeat(first|exact Below.refl _ _|(refine Below.alloc ?_ ?_ _;rotate_left;(first|omega|(simp only[sZ]<;>omega)))|(refine bl_more ?_ ?_ _ _;rotate_left;(simp only[sZ]<;>omega)))))) (by simp) ?_);intro w2 h2 g2;(have hs2:=g2.size;simp only[more_size,World.size_alloc]at hs2;have b0:w2.heap[w.heap.size]?=some (.cells (ccC ⟨c.ways,s⟩) 35 (0,0)):=(by rw[g2.block _ (by simp only[more_size,World.size_alloc];omega) (by simp[Value.ownBlock];try omega)];(repeat(first|(refine heap_at _ _ _ ?_;(with_reducible rfl))|(refine(more_heap' _ _ _ _ ?_).trans ?_;(simp only[sZ]<;>omega))|(refine(heap_past _ _ _ ?_).trans ?_;(simp only[sZ]<;>omega)))));have b1:w2.heap[w.heap.size+1]?=some (.cells (ccC ccZ) 35 (0,0)):=(by rw[g2.block _ (by simp only[more_size,World.size_alloc];omega) (by simp[Value.ownBlock];try omega)];(repeat(first|(refine heap_at _ _ _ ?_;(simp only[sZ]<;>omega))|(refine(more_heap' _ _ _ _ ?_).trans ?_;(simp only[sZ]<;>omega)))));have hB2:Below w.heap.size w w2:=bl_own (by(repeat(first|exact Below.refl _ _|(refine Below.alloc ?_ ?_ _;rotate_left;(first|omega|(simp only[sZ]<;>omega)))|(refine bl_more ?_ ?_ _ _;rotate_left;(simp only[sZ]<;>omega))))) g2 (by simp only[more_size,World.size_alloc];omega) (fun b h=>by simp[Value.ownBlock]at h;omega);obtain⟨g,c',cur,e1,e2,e3,e4,e5,e6⟩:=h2.lies (by omega);simp only[Value.slice.injEq,Option.some.injEq,Addr.mk.injEq]at e1;obtain⟨⟨e7,ez⟩,e8,e9⟩:=e1;clear ez;subst e7;have hT2:=HT.out.below hB2;obtain⟨A',C',e1,f1,f2,f3,f4⟩:=h2.sl svC_size;simp only[Value.slice.injEq]at e1;obtain⟨e10,ea,eb⟩:=e1;clear ea eb;subst e10;obtain⟨g',off',x,e11,e12,e13,e14⟩:=f1.at_ (i:=k) (by omega);simp only[Option.some.injEq,Addr.mk.injEq]at e11;obtain⟨e15,e16,ey⟩:=e11;clear ey;subst e15 e16;have c0:∀ j,w2.cell? ⟨w.heap.size,j,none⟩=(ccC ⟨c.ways,s⟩)[j]?:=fun j=>cell_of_row w2 _ j _ _ _ b0;have ck:w2.cell? ⟨w.heap.size+1+1,k,none⟩=some (.slice x.a x.n x.c):=(by have:=e14 0 (.slice x.a x.n x.c) rfl;simpa using this);have fk:w2.frozen? ⟨w.heap.size+1+1,k,none⟩=false:=frozen_row e3;have H2:=Lib.hid h2;have HB2:=Lib.hid hB2;have B1:=Lib.hid b1;have E13:=Lib.hid e13;clear h2 hB2 b0 b1 f1 f2 f3 f4 e2 e3 e4 e5 e6 e8 e9 e12 e13 e14 hT2 g2);try simp only[Act.put,xA,xB,xC,fR]))
 apply ret_row row35 rfl (w.heap.size+1) (ccC ⟨c.ways,⟨some ⟨w.heap.size+1+1,0,none⟩,s.n,s.n⟩⟩) rfl (ccC_size _) (t:=35) (fr:=(0,0)) (hd:=rfl)
 ·exact setRow_heap _ _ (ccC ccZ) _ 35 (0,0) ((Below.heap_setCell _ _ _ _ (by simp)).trans B1.out)
 have hO:=H2.out.set svC_size (x':=t) (u:=.slice t.a t.n t.c) E13.out (j:=0) (by decide) rfl
 simp only[Nat.mul_one,Nat.add_zero]at hO
 have hB:Below w.heap.size w ((w2.setCell ⟨w.heap.size+1+1,k,none⟩ (.slice t.a t.n t.c)).setRow (w.heap.size+1) (ccC ⟨c.ways,⟨some ⟨w.heap.size+1+1,0,none⟩,s.n,s.n⟩⟩)):=by
  refine bl_row ?_ (by omega) _
  exact HB2.out.setCell (by show _≤w.heap.size+1+1;omega) _
 have hO2:=hO.same (w':=(w2.setCell ⟨w.heap.size+1+1,k,none⟩ (.slice t.a t.n t.c)).setRow (w.heap.size+1) (ccC ⟨c.ways,⟨some ⟨w.heap.size+1+1,0,none⟩,s.n,s.n⟩⟩)) (fun b hb=>by
  simp only[Value.ownBlock,Option.some.injEq]at hb
  subst hb
  exact row_other _ _ _ _ (by omega))
 obtain⟨A,C,e1,f1,f2,f3,f4⟩:=hO2.sl svC_size
 simp only[Value.slice.injEq]at e1
 obtain⟨e10,ea,eb⟩:=e1
 subst e10
 rw[← ea]at f1
 refine⟨⟨some ⟨w.heap.size+1+1,0,none⟩,s.n,s.n⟩,rfl,⟨T.set k t,f1,⟨(fun h=>by cases h),Nat.le_refl _,by show s.n≤_;omega⟩,?_,?_,?_⟩,hB⟩
 ·exact(HSets.out.below hB).set (HL.out.below hB) HW.out
 ·intro _ p hp
  cases hp
  exact HX.out _ (by show _≤w.heap.size+1+1;omega)
 ·intro u hu
  rcases List.mem_or_eq_of_mem_set hu with hu|rfl
  ·exact HA2.out u hu
  ·exact HA.out
theorem bytesS_len(x:U)(s:Int):(bytesS x s).1.length≤4:=by
 unfold bytesS
 split
 ·simp
 ·simp[bytesL,byOf];omega
theorem lowest_any(x:U)(s:Int)(w:World):Calls Tryz.prog 88 #[.int .u32 x.v,.int .i64 s] w fun e w'=>e= .returned (.int .u32 (lowU x s).v)∧Below w.heap.size w w':=by
 obtain⟨l,z,hl⟩:∃ l z,bytesS x s=(l,z):=⟨_,_,rfl⟩
 have hlen:=bytesS_len x s
 have HE:=Lib.hid (show lowU x s=(joinS l).1 by unfold lowU;rw[hl])
 rw[hl]at hlen
 have BY:=Lib.hid (fun W=>bytes_any x s W)
 have HL:=Lib.hid hl
 have JO:=Lib.hid (fun W=>join_any l (by simp only at hlen;omega) W)
 clear hlen hl
 go_enter Tryz.func88,Tryz.ntmps88
 go_wp2_with (first|(go_at_call 89;refine(BY.out _).mono ?_;unfold BytP;rw[HL.out];rintro r w1 ⟨rfl,hb⟩;obtain⟨ow,kw,rfl⟩:=more_of hb;clear hb)|(go_at_call 108;refine(JO.out _).mono ?_;unfold JoiP;rintro r w1 ⟨rfl,rfl⟩))
 go_ret
 exact⟨by rw[HE.out];rfl,by(repeat(first|exact Below.refl _ _|(refine bl_more ?_ ?_ _ _;rotate_left;(omega))))⟩
theorem okAt_no{size:Int}{a:U}{many:Int}(h:¬ ((many=1∨many=2∨many=4)∧0≤size)):okAt size a many=false:=by
 unfold okAt;apply decide_eq_false;intro h';exact h ⟨h'.1,h'.2.1⟩
theorem mright_any(size:Int)(a:U)(many:Int)(h1:size≤1000000)(w:World):Calls Tryz.prog 39 #[.int .i64 size,.int .u32 a.v,.int .i64 many] w fun e w'=>e= .returned (.bool (okAt size a many))∧w=w':=by
 have x0:=a.lo
 have x1:=a.hi
 by_cases c:(many=1∨many=2∨many=4)∧0≤size
 ·obtain⟨c,s0⟩:=c
  have E0:okAt size a many=decide (a.v % many=0∧a.v+many≤size):=by
   unfold okAt;rw[decide_eq_decide];exact⟨fun h=>h.2.2,fun h=>⟨c,s0,h⟩⟩
  have E:=Lib.hid E0
  clear E0
  rcases c with rfl|rfl|rfl
  all_goals
   go_enter Tryz.func39,Tryz.ntmps39
   go_wp2
   all_goals
    go_ret
    refine⟨ret_b ?_,rfl⟩
    rw[E.out]
    first|(symm;apply decide_eq_false;omega)|(rw[Bool.eq_iff_iff];simp only[decide_eq_true_eq];omega)
 ·have E:=Lib.hid (okAt_no (a:=a) c)
  by_cases c2:many=1∨many=2∨many=4
  ·have s0:size<0:=by omega
   clear c
   rcases c2 with rfl|rfl|rfl
   all_goals
    go_enter Tryz.func39,Tryz.ntmps39
    go_wp2
    go_ret
    exact⟨by rw[E.out];rfl,rfl⟩
  ·have d1:(many != 1)=true:=by rw[bne_iff_ne];omega
   have d2:(many != 2)=true:=by rw[bne_iff_ne];omega
   have d4:(many != 4)=true:=by rw[bne_iff_ne];omega
   clear c c2
   go_enter Tryz.func39,Tryz.ntmps39
   go_wp2
   go_ret
   exact⟨by rw[E.out];rfl,rfl⟩
def RdP(m:By)(a:U)(many:Int)(w:World)(e:Ending)(w':World):Prop:=e= .returned (.tuple #[.string (bs (readM m a many).1),.int .i64 (readM m a many).2])∧w=w'
theorem ret_rd{m:By}{a:U}{many:Int}{l:By}{z:Int}(h:readM m a many=(l,z)):Ending.returned (.tuple #[.string (bs l),.int .i64 z])= .returned (.tuple #[.string (bs (readM m a many).1),.int .i64 (readM m a many).2]):=by rw[h]
theorem okAt_yes{size:Int}{a:U}{many:Int}(h:okAt size a many=true):(many=1∨many=2∨many=4)∧0≤size∧a.v % many=0∧a.v+many≤size:=of_decide_eq_true h
theorem mread_any(m:By)(a:U)(many:Int)(hm:m.length≤1000000)(w:World):Calls Tryz.prog 80 #[.string (bs m),.int .u32 a.v,.int .i64 many] w (RdP m a many w):=by
 have x0:=a.lo
 have x1:=a.hi
 have R:=Lib.hid (fun W=>mright_any (m.length:Int) a many (by omega) W)
 cases c:okAt m.length a many with
 | false=>
  have E:=Lib.hid (show readM m a many=([],1) by unfold readM;rw[c];rfl)
  have C:=Lib.hid c
  clear c
  go_enter Tryz.func80,Tryz.ntmps80
  go_wp2_with (go_at_call 39;refine(R.out _).mono ?_;rw[C.out];rintro r w1 ⟨rfl,rfl⟩)
  go_ret2
  exact⟨ret_rd E.out,rfl⟩
 | true=>
  obtain⟨y0,y1,y2,y3⟩:=okAt_yes c
  have E:=Lib.hid (show readM m a many=(cutB m a.v.toNat many.toNat,0) by unfold readM;rw[c];rfl)
  have C:=Lib.hid c
  have z3:a.v≤m.length:=by omega
  clear c y2
  have z0:0≤many:=by omega
  have z1:many≤4:=by omega
  clear y0
  go_enter Tryz.func80,Tryz.ntmps80
  go_wp2_with (first|(go_at_call 39;refine(R.out _).mono ?_;rw[C.out];rintro r w1 ⟨rfl,rfl⟩)|((with_reducible refine gD (Op.slice 9 _ _ _ _) ?_);refine slice_str rfl _ _ _ rfl m a.v (a.v+many) _ _ rfl rfl rfl (by omega) (by omega) (by omega) ?_;try simp only[Act.put,xA,xB,xC,fR]))
  go_ret2
  exact⟨ret_rd (by rw[E.out,show(a.v+many-a.v).toNat=many.toNat by omega]),rfl⟩
theorem line_any'(a:U)(w:World):Calls Tryz.prog 28 #[.int .u32 a.v] w fun e w'=>e= .returned (.int .u32 (lineU a).v)∧w=w':=by
 have e:ln a.v=(lineU a).v:=by
  have:=a.lo
  have:=a.hi
  show a.v-a.v % 16=(a.v-a.v % 16) % 4294967296
  omega
 rw[← e]
 exact line_any a.v a.lo a.hi w
def FetP(prog:List U)(pc:U)(w:World)(e:Ending)(w':World):Prop:=e= .returned (.tuple #[.int .u32 (fetchM prog pc).1.v,.bool (fetchM prog pc).2])∧w=w'
theorem ret_fet{prog:List U}{pc x:U}{z:Bool}(h:fetchM prog pc=(x,z)):Ending.returned (.tuple #[.int .u32 x.v,.bool z])= .returned (.tuple #[.int .u32 (fetchM prog pc).1.v,.bool (fetchM prog pc).2]):=by rw[h]
theorem fetch_any(prog:List U)(A:Option Addr)(n C:Nat)(pc:U)(w:World)(hL:Sl u32C 1 w A n prog):Calls Tryz.prog 66 #[.slice A n C,.int .u32 pc.v] w (FetP prog pc w):=by
 have x0:=pc.lo
 have x1:=pc.hi
 have hn:=hL.few
 have hl:=hL.len
 by_cases c1:pc.v % 4=0
 ·by_cases c2:pc.v / 4<n
  ·obtain⟨g,off,x,rfl,hg,hx,hc⟩:=hL.at_ (i:=(pc.v / 4).toNat) (by omega)
   have hcell:=hc 0 (.int .u32 x.v) rfl
   simp only[Nat.mul_one,Nat.add_zero]at hcell
   have E:=Lib.hid (show fetchM prog pc=(x,true) by
    unfold fetchM
    rw[if_neg (by omega),List.getD_eq_getElem?_getD,hx];rfl)
   have d2:decide ((n:Int)≤pc.v / 4)=false:=by apply decide_eq_false;omega
   clear hL hl hc hx
   go_enter Tryz.func66,Tryz.ntmps66
   go_wp2
   go_ret2
   exact⟨ret_fet E.out,rfl⟩
  ·have E:=Lib.hid (show fetchM prog pc=(U.of 0,false) by unfold fetchM;rw[if_pos (by omega)])
   have d2:decide ((n:Int)≤pc.v / 4)=true:=by apply decide_eq_true;omega
   clear hL hl
   go_enter Tryz.func66,Tryz.ntmps66
   go_wp2
   go_ret2
   exact⟨ret_fet E.out,rfl⟩
 ·have E:=Lib.hid (show fetchM prog pc=(U.of 0,false) by unfold fetchM;rw[if_pos (by omega)])
  have d1:(pc.v % 4 != 0)=true:=by rw[bne_iff_ne];exact c1
  clear hL hl
  go_enter Tryz.func66,Tryz.ntmps66
  go_wp2
  go_ret2
  exact⟨ret_fet E.out,rfl⟩
def PlP(L:List Wy)(line:U)(w:World)(e:Ending)(w':World):Prop:=e= .returned (.tuple #[.int .i64 ((placeW L line).1:Int),.bool (placeW L line).2])∧Below w.heap.size w w'
theorem ret_pl{L:List Wy}{line:U}{k:Nat}{b:Bool}(h:placeW L line=(k,b)):Ending.returned (.tuple #[.int .i64 (k:Int),.bool b])= .returned (.tuple #[.int .i64 ((placeW L line).1:Int),.bool (placeW L line).2]):=by rw[h]
theorem ueq{a b:U}(h:a=b):(a.v== b.v)=true:=by rw[h];simp
theorem une{a b:U}(h:¬ a=b):(a.v== b.v)=false:=by rw[beq_eq_false_iff_ne];exact fun e=>h (U.eq_of e)
theorem place_any(A:Option Addr)(n C:Nat)(L:List Wy)(line:U)(w:World)(hL:Sl wyC 3 w A n L):Calls Tryz.prog 30 #[.slice A n C,.int .u32 line.v] w (PlP L line w):=by
 have hn:=hL.few
 have HL:=Lib.hid hL
 have x0:=line.lo
 have x1:=line.hi
 clear hL
 go_enter Tryz.func30,Tryz.ntmps30
 go_wp2
 go_loopw [10] (fun i wr=>∃(k:Nat),k≤n∧i= .int .i64 k∧Hid (∀ z∈L.take k,z.line≠line)∧Below w.heap.size w wr) (fun i _=>n-(intOf i).toNat)
 case atStart=>exact⟨0,by omega,rfl,Lib.hid (by simp),Below.refl _ _⟩
 case round=>
  obtain⟨k,hk,rfl,HG,HB⟩:=hrel
  have hBs:=HB.size
  by_cases hlt:k<n
  ·obtain⟨g,off,y,rfl,hg,hy,hc⟩:=(HL.out.below HB).at_ hlt
   have HY:=Lib.hid hy
   have HC:=Lib.hid hc
   clear hy hc
   by_cases hq:y.line=line
   ·have hb:=ueq hq
    have HQ:=Lib.hid hq
    clear hq
    go_wp2_with (first|((with_reducible refine gAl 46 ?_);refine alloc_row (wyC wyZ) zero46 rfl rfl ?_;try simp only[Act.put,xA,xB,xC,fR])|((with_reducible refine gD (Op.store 46 _ _) ?_);apply store_row row46 rfl _ _ rfl _ (wyC _) rfl rfl (wyC_size _) (wyC_ones _) (t:=46) (old:=wyC _) (h2:=wyC_size _);(·(repeat((refine heap_at _ _ _ ?_;(with_reducible rfl)))));try simp only[Act.put,xA,xB,xC,fR];try simp (disch:=(first|with_reducible rfl|fail)) only[more_row,alloc_row_past,alloc_row_at,drew_row,drewN_row])|((with_reducible refine gD (Op.load 46 _) ?_);refine take_el row46 rfl _ rfl g (off+k*3) rfl y (wyC_size y) HC.out ?_;try simp only[Act.put,xA,xB,xC,fR]))
    go_ret2
    exact⟨ret_pl (place_hit L k y HY.out HQ.out HG.out),by(repeat(first|assumption|(refine Below.alloc ?_ ?_ _;rotate_left;(omega))))⟩
   ·have hb:=une hq
    have HQ:=Lib.hid hq
    clear hq
    go_wp2_with (first|((with_reducible refine gAl 46 ?_);refine alloc_row (wyC wyZ) zero46 rfl rfl ?_;try simp only[Act.put,xA,xB,xC,fR])|((with_reducible refine gD (Op.store 46 _ _) ?_);apply store_row row46 rfl _ _ rfl _ (wyC _) rfl rfl (wyC_size _) (wyC_ones _) (t:=46) (old:=wyC _) (h2:=wyC_size _);(·(repeat((refine heap_at _ _ _ ?_;(with_reducible rfl)))));try simp only[Act.put,xA,xB,xC,fR];try simp (disch:=(first|with_reducible rfl|fail)) only[more_row,alloc_row_past,alloc_row_at,drew_row,drewN_row])|((with_reducible refine gD (Op.load 46 _) ?_);refine take_el row46 rfl _ rfl g (off+k*3) rfl y (wyC_size y) HC.out ?_;try simp only[Act.put,xA,xB,xC,fR]))
    go_roundw
    case rel=>exact⟨k+1,by omega,by go_num,Lib.hid (take_more HY.out HG.out HQ.out),by(repeat(first|assumption|(refine Below.alloc ?_ ?_ _;rotate_left;(omega))))⟩
    case measure=>simp[intOf];omega
  ·have hkn:k=n:=by omega
   subst hkn
   go_wp2
   go_ret2
   exact⟨ret_pl (place_none L (take_full HL.out.len HG.out)),HB⟩
theorem setOf_any(ways:Int)(s:Sv)(line:U)(w:World)(h1:1≤s.n)(h2:s.n≤1000000):Calls Tryz.prog 29 #[caV ways s,.int .u32 line.v] w fun e w'=>e= .returned (.int .i64 (line.v / 16 % (s.n:Int)))∧Below w.heap.size w w':=by
 have x0:=line.lo
 have x1:=line.hi
 have d1:((s.n:Int)== 0)=false:=by rw[beq_eq_false_iff_ne];omega
 have q0:0≤line.v / 16 % (s.n:Int):=Int.emod_nonneg _ (by omega)
 have q1:line.v / 16 % (s.n:Int)<s.n:=Int.emod_lt_of_pos _ (by omega)
 go_enter Tryz.func29,Tryz.ntmps29
 go_wp2
 go_ret
 exact⟨by first|rfl,by(repeat(first|exact Below.refl _ _|(refine Below.alloc ?_ ?_ _;rotate_left;(omega))))⟩
def NewP(sets ways:Int)(w:World)(e:Ending)(w':World):Prop:=∃ s,e= .returned (caV (newC sets ways).ways s)∧(∀ X:Nat→Prop,(∀ j,w.heap.size≤j→X j)→CaX X w' s (newC sets ways))∧Below w.heap.size w w'
theorem newC_of{sets ways:Int}(k:Nat)(wy:Int)(hk:(sets≤1∧k=1)∨((sets=2∨sets=3)∧k=2)∨(4≤sets∧k=4))(hw:(ways≤1∧wy=1)∨(2≤ways∧wy=2)):newC sets ways=⟨wy,List.replicate k []⟩:=by
 unfold newC
 simp only[Ca.mk.injEq]
 refine⟨?_,?_⟩
 ·split
  ·omega
  ·split<;>omega
 ·congr 1
  (repeat' split)<;>omega
theorem new_end{w w':World}{sets ways wy:Int}{g k:Nat}(h:Ow svC 1 w' w.heap.size 51 (.slice (some ⟨g,0,none⟩) k k) (List.replicate k ⟨none,0,0⟩))(hk:(sets≤1∧k=1)∨((sets=2∨sets=3)∧k=2)∨(4≤sets∧k=4))(hw:(ways≤1∧wy=1)∨(2≤ways∧wy=2))(hb:Below w.heap.size w w'):NewP sets ways w (.returned (.agg (ccC ⟨wy,⟨some ⟨g,0,none⟩,k,k⟩⟩))) w':=by
 have hN:=newC_of k wy hk hw
 refine⟨⟨some ⟨g,0,none⟩,k,k⟩,by rw[hN];rfl,?_,hb⟩
 rw[hN]
 obtain⟨A,C,e1,h1,h2,h3,h4⟩:=h.sl svC_size
 simp only[List.length_replicate,Value.slice.injEq]at e1
 obtain⟨e2,e3,e4⟩:=e1
 subst e2
 rw[List.length_replicate]at h1
 intro X hX
 refine⟨_,h1,⟨(fun h=>by cases h),Nat.le_refl _,by show k≤_;omega⟩,⟨by simp,fun i t L ht hL=>?_⟩,fun _ p hp=>hX _ (h3 p hp),fun t ht=>by rw[List.eq_of_mem_replicate ht];exact fun h=>absurd h (Nat.lt_irrefl 0)⟩
 rw[List.getElem?_replicate]at ht hL
 split at ht
 ·rw[if_pos (by assumption)]at hL
  cases ht;cases hL
  exact⟨Sl.none_ _,Wf.zero⟩
 ·cases ht
theorem new_any(sets ways:Int)(w:World):Calls Tryz.prog 16 #[.int .i64 sets,.int .i64 ways] w (NewP sets ways w):=by
 have hz:(Tryz.prog.info? 51).map (fun i=>i.zero.map (·.cells))=some (some (svC ⟨none,0,0⟩)):=by kernel_rfl
 have hs:sets<1∨(sets=1∨sets=2∨sets=3∨sets=4)∨4<sets:=by omega
 have hw:ways<1∨(ways=1∨ways=2)∨2<ways:=by omega
 rcases hs with hs|(rfl|rfl|rfl|rfl)|hs<;>rcases hw with hw|(rfl|rfl)|hw
 all_goals
  go_enter Tryz.func16,Tryz.ntmps16
  go_wp2_with (first|((with_reducible refine gAl 35 ?_);refine alloc_row (ccC ccZ) zero35 rfl rfl ?_;try simp only[Act.put,xA,xB,xC,fR])|((with_reducible refine gD (Op.makeSlice 33 _ _) ?_);first|(refine full_sl (α:=Sv) (lay:=svC) slT33 ⟨none,0,0⟩ hz svC_size rfl _ _ rfl w.heap.size .i64 .i64 1 1 1 rfl rfl rfl rfl (by decide) (by simp only[World.size_alloc];omega) ?_;intro v1 w1 h1 e1 g1;subst e1;obtain⟨oF,kF,rfl⟩:=more_of (bl_own (Below.refl _ _) g1 (Nat.le_refl _) (fun k h=>by cases h));clear g1;(try simp only[World.size_alloc]at h1);have HO:=Lib.hid h1;clear h1;try simp only[Act.put,xA,xB,xC,fR])|(refine full_sl (α:=Sv) (lay:=svC) slT33 ⟨none,0,0⟩ hz svC_size rfl _ _ rfl w.heap.size .i64 .i64 2 2 2 rfl rfl rfl rfl (by decide) (by simp only[World.size_alloc];omega) ?_;intro v1 w1 h1 e1 g1;subst e1;obtain⟨oF,kF,rfl⟩:=more_of (bl_own (Below.refl _ _) g1 (Nat.le_refl _) (fun k h=>by cases h));clear g1;(try simp only[World.size_alloc]at h1);have HO:=Lib.hid h1;clear h1;try simp only[Act.put,xA,xB,xC,fR])|(refine full_sl (α:=Sv) (lay:=svC) slT33 ⟨none,0,0⟩ hz svC_size rfl _ _ rfl w.heap.size .i64 .i64 4 4 4 rfl rfl rfl rfl (by decide) (by simp only[World.size_alloc];omega) ?_;intro v1 w1 h1 e1 g1;subst e1;obtain⟨oF,kF,rfl⟩:=more_of (bl_own (Below.refl _ _) g1 (Nat.le_refl _) (fun k h=>by cases h));clear g1;(try simp only[World.size_alloc]at h1);have HO:=Lib.hid h1;clear h1;try simp only[Act.put,xA,xB,xC,fR])))
  all_goals
   (try simp only[ccS_0,ccS_1])
   apply ret_row row35 rfl _ (ccC _) rfl (ccC_size _) (t:=35) (fr:=(0,0)) (hd:=rfl)
   ·(repeat(first|(refine heap_at _ _ _ ?_;(with_reducible rfl))|(refine(more_heap' _ _ _ _ ?_).trans ?_;(simp only[sZ]<;>omega))))
   refine new_end ?_ (by omega) (by omega) (by(repeat(first|exact Below.refl _ _|(refine Below.alloc ?_ ?_ _;rotate_left;(omega))|(refine bl_more ?_ ?_ _ _;rotate_left;(simp only[sZ]<;>omega)))))
   refine HO.out.same fun b hb=>?_
   simp only[Value.ownBlock,Option.some.injEq]at hb
   subst hb
   exact more_past (by simp only[World.size_alloc]) _ _ _ (by simp only[World.size_alloc];omega)
end Go.Proofs.YtdmhfogegfmnfaaGreatDoor
