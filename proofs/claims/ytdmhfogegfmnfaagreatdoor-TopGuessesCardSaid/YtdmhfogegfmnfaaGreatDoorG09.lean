/- Contracts: the entries before one, backward; the last one that writes a register. Conditions: the entries read as a list. The walk's laws on locals, inside a fence that lets all in. No conditions. Locals of one cell; stores into any of the locals; drawn regions in a round. No conditions. The walk's laws on a machine: a store into the box that also tells what else lies as it .. -/
import Derived.Test.YtdmhfogegfmnfaaGreatDoorG00
import Derived.Test.YtdmhfogegfmnfaaGreatDoorG01
import Derived.Test.YtdmhfogegfmnfaaGreatDoorG03
import Derived.Test.YtdmhfogegfmnfaaGreatDoorG06
import Derived.Test.YtdmhfogegfmnfaaGreatDoorG08
import Derived.Maps.RangeWalk
import Derived.RangeFuncNested
import Derived.RangeFuncBound
import Derived.RangeFuncCalls
import Derived.RangeFuncLeaves
import Derived.RangeFuncBox
import Derived.Shelf.Abstract
import Derived.Shelf.RegionOpen
import Derived.WalkKit
import Derived.OwnWalkIn
import Derived.TacticsInMore
import Derived.LoopNIn
import Derived.LoopIn
import Derived.WalkMore
set_option maxRecDepth 100000
set_option maxHeartbeats 4000000
set_option linter.unusedVariables false
set_option linter.unusedSimpArgs false
namespace Go.Proofs.YtdmhfogegfmnfaaGreatDoor
open Go.RowKit
section
open Go.RowKit Go.Shelf
attribute [local go_sem] Oper.semAt_some
theorem valIn{F:Fence}{n:Nat}{ops:Array Oper}{rest:List Oper}{o:Oper}{a:Act}{w w':World}{Q:Exit→Act→World→Prop}{v:Value}(hF:∀ f,F.fn f)(hgd:o.guard=none)(nd:∀ c,o.op≠ .defer c)(hrun:(execOp a.eval o).run Tryz.prog w= .ok (.value v) w')
 (h:wpListIn F n Tryz.prog ops Q rest (a.put o.dst v) w'):wpListIn F n Tryz.prog ops Q (o::rest) a w:=by
 refine wpListIn_plain hgd fun K hK=>⟨fun f _=>hF f,?_⟩
 have e:o.semAt F.round a.eval=execOp a.eval o:=by
  cases hr:F.round with
  | none=>rfl
  | some l=>exact Oper.semAt_some l a.eval o nd
 rw[e,hrun]
 exact hK _ _ h
theorem ld_in{F:Fence}{n:Nat}{ops:Array Oper}{rest:List Oper}{o:Oper}{a:Act}{w:World}{Q:Exit→Act→World→Prop}{T k:Nat}(hT:IsRow T k)(hF:∀ f,F.fn f)(hgd:o.guard=none)(x:Operand)(ho:o.op= .load T x)(g off:Nat)(hx:a.eval x= .pointer (some ⟨g,off,none⟩))(cs:Array Value)(hs:cs.size=k)
 (hc:∀ j v,cs[j]?=some v→w.cell? ⟨g,off+j,none⟩=some v) (h:wpListIn F n Tryz.prog ops Q rest (a.put o.dst (.agg cs)) w):wpListIn F n Tryz.prog ops Q (o::rest) a w:=by
 refine valIn hF hgd (fun c e=>by rw[ho]at e;cases e) ?_ h
 unfold execOp
 simp only[ho,hx,Instr.loadAt,Instr.sureAddr,Sem.run_bind,Sem.run_pure,Result.andThen_ok,load_at hT g off cs hs hc]
theorem al_in{F:Fence}{n:Nat}{ops:Array Oper}{rest:List Oper}{o:Oper}{a:Act}{w:World}{Q:Exit→Act→World→Prop}{T:Nat}(z:Array Value)(hz:∀ W:World,(zeroValue T).run Tryz.prog W= .ok (.agg z) W)(hF:∀ f,F.fn f)(hgd:o.guard=none)(ho:o.op= .alloc T)
 (h:wpListIn F n Tryz.prog ops Q rest (a.put o.dst (.pointer (some ⟨w.heap.size,0,none⟩))) (w.alloc (.cells z T))):wpListIn F n Tryz.prog ops Q (o::rest) a w:=by
 refine valIn hF hgd (fun c e=>by rw[ho]at e;cases e) ?_ h
 have hrun:(Instr.alloc T true (.tuple #[])).run Tryz.prog w= .ok (.pointer (some ⟨w.heap.size,0,none⟩)) (w.alloc (.cells z T)):=by
  unfold Instr.alloc newVar newRow
  simp[Sem.run_bind,hz,Value.cells]
 unfold execOp
 simp only[ho,Sem.run_bind,Sem.run_pure,Result.andThen_ok,hrun]
theorem st_in{F:Fence}{n:Nat}{ops:Array Oper}{rest:List Oper}{o:Oper}{a:Act}{w:World}{Q:Exit→Act→World→Prop}{T k:Nat}(hT:IsRow T k)(hF:∀ f,F.fn f)(hgd:o.guard=none)(x y:Operand)(ho:o.op= .store T x y)(g:Nat)(new:Array Value)(hx:a.eval x= .pointer (some ⟨g,0,none⟩))(hy:a.eval y= .agg new)
 (h1:new.size=k) (hone:Ones new) {t:TypeId} {old:Array Value} (hg:w.heap[g]?=some (.cells old t (0,0))) (h2:old.size=k)
 (h:wpListIn F n Tryz.prog ops Q rest (a.put o.dst undef) (w.setRow g new)):wpListIn F n Tryz.prog ops Q (o::rest) a w:=by
 obtain⟨d,hu,hd,hi⟩:=hT
 have hrun:=run_storeVar_row (P:=Tryz.prog) w g t T old new hg (by rw[h1];exact hi) (by omega) hone.all
 refine wpListIn_plain hgd fun K hK=>⟨fun f _=>hF f,?_⟩
 have e:o.semAt F.round a.eval=execOp a.eval o:=by
  cases hr:F.round with
  | none=>rfl
  | some l=>exact Oper.semAt_some l a.eval o (fun c e=>by rw[ho]at e;cases e)
 have hr2:(execOp a.eval o).run Tryz.prog w= .ok .skip (w.setRow g new):=by
  unfold execOp
  simp only[ho,hx,hy,Instr.storeAt,Instr.sureAddr,Sem.run_bind,Sem.run_pure,Result.andThen_ok,hrun]
 rw[e,hr2]
 exact hK _ _ h
theorem ld_run{o:Oper}{a:Act}{w:World}{T k:Nat}(hT:IsRow T k)(x:Operand)(ho:o.op= .load T x)(g off:Nat)(hx:a.eval x= .pointer (some ⟨g,off,none⟩))(cs:Array Value)(hs:cs.size=k)(hc:∀ j v,cs[j]?=some v→w.cell? ⟨g,off+j,none⟩=some v):(execOp a.eval o).run Tryz.prog w= .ok (.value (.agg cs)) w:=by
 unfold execOp
 simp only[ho,hx,Instr.loadAt,Instr.sureAddr,Sem.run_bind,Sem.run_pure,Result.andThen_ok,load_at hT g off cs hs hc]
theorem ld1_run{o:Oper}{a:Act}{w:World}{T:Nat}(hT:OneT T)(x:Operand)(ho:o.op= .load T x)(ad:Addr)(hx:a.eval x= .pointer (some ad))(v:Value)(hc:w.cell? ad=some v):(execOp a.eval o).run Tryz.prog w= .ok (.value v) w:=by
 unfold execOp
 simp only[ho,hx,Instr.loadAt,Instr.sureAddr,Sem.run_bind,Sem.run_pure,Result.andThen_ok,load_one hT w ad v hc]
theorem wideF:∀ f,Fence.wide.fn f:=fun _=>trivial
abbrev BP:=Nat×En
def bEnc(x:BP):Array Value:=#[.int .i64 (x.1:Int),.agg (enC x.2)]
def bAt(L:List En)(m j:Nat):BP:=(m-1-j,L.getD (m-1-j) default)
def upB(L:List En)(m k:Nat):List BP:=(List.range k).map (bAt L m)
theorem upB_succ(L:List En)(m k:Nat):upB L m (k+1)=upB L m k++[bAt L m k]:=by simp[upB,List.range_succ]
theorem upB_len(L:List En)(m k:Nat):(upB L m k).length=k:=by simp[upB]
theorem back1_in(n:Nat)(hn:1≤n)(l Bi Br nL C m:Nat)(A:Option Addr)(L:List En)(w:World)(J Jx:List BP→World→Prop)
 (hY:∀ pre x W,J pre W→pre.length<m→YieldAt Fence.wide (n-1) Tryz.prog l (bEnc x) W fun e W'=>
  (e= .returned (.bool true)∧J (pre++[x]) W'∧Below w.heap.size W W')∨(e= .returned (.bool false)∧Jx (pre++[x]) W'))
 (hL:Sl enC 17 w A nL L) (hmn:m≤nL) (W:World) (hi:w.cell? ⟨Bi,0,none⟩=some (.int .i64 (m:Int))) (hr:w.cell? ⟨Br,0,none⟩=some (.slice A nL C)) (bi:Bi<w.heap.size) (br:Br<w.heap.size) (hW:Below w.heap.size w W) (h0:J [] W):
 CallsIn Fence.wide n Tryz.prog 130 #[.func (.yield l) #[] #[],.pointer (some ⟨Bi,0,none⟩),.pointer (some ⟨Br,0,none⟩)] W fun e W'=>(∃ v,e= .returned v)∧
  ((∃ ys,ys=upB L m m∧J ys W')∨(∃ pre,(∃ k,k≤m∧pre=upB L m k)∧Jx pre W')):=by
 refine callsIn_of_wp Tryz.func130 rfl trivial ?_ rfl
 simp only[Tryz.ntmps130,List.size_toArray,List.length_cons,List.length_nil,Nat.reduceAdd,Nat.reduceSub,Array.replicate_succ,Array.replicate_zero,List.push_toArray,List.append_toArray,List.nil_append,List.cons_append]
 have hi1:=(hW.cell (p:=⟨Bi,0,none⟩) bi).trans hi
 have hr1:=(hW.cell (p:=⟨Br,0,none⟩) br).trans hr
 have HY:=Lib.hid hY
 have HL:=Lib.hid hL
 have HR:=Lib.hid hr
 have HW:=Lib.hid hW
 have hfew:=hL.few
 have b0:(m:Int)≤(nL:Int):=by omega
 clear hY hL hi hr hW
 gi_wp2
 all_goals
  first|skip
  clear hi1 hr1
  gi_loopw [4] (fun s wr=>∃ k:Nat,k≤m∧s= .int .i64 ((m-k:Nat):Int)∧J (upB L m k) wr∧Below w.heap.size w wr)
   (fun s _=>(intOf s).toNat)
  case atStart=>exact⟨0,Nat.zero_le _,rfl,h0,HW.out⟩
  case round=>
   obtain⟨k,hk,rfl,hJs,hnx⟩:=hrel
   by_cases hlt:k<m
   ·obtain⟨fn,tmps,assign,body,hy,hR⟩:=HY.out _ (bAt L m k) wr hJs (by rw[upB_len];exact hlt)
    have hr2:=(hnx.cell (p:=⟨Br,0,none⟩) br).trans HR.out
    obtain⟨g,off,y,rfl,hg,hyy,hc⟩:=(HL.out.below hnx).at_ (i:=m-1-k) (by omega)
    have hyd:L.getD (m-1-k) default=y:=by rw[List.getD_eq_getElem?_getD,hyy];rfl
    simp only[bAt,bEnc,hyd]at hy
    obtain⟨j,hj⟩:∃ j:Nat,m-k=j+1:=⟨m-k-1,by omega⟩
    have hj2:m-1-k=j:=by omega
    have hjn:j<nL:=by omega
    have hHJ:=Lib.hid (show upB L m k++[bAt L m k]=upB L m (k+1)from(upB_succ L m k).symm)
    have hHK:=Lib.hid (show m-(k+1)=j by omega)
    rw[hj2]at hy hc
    rw[hj]
    have HJ:=Lib.hid hj
    have HK:=Lib.hid hlt
    have HC:=Lib.hid hc
    have e2:IntKind.i64.wrap (j:Int)=(j:Int):=IntWalk.i64_in _ (by omega)
    have b1:(0:Int)<((j+1:Nat):Int):=by omega
    have b2:(0:Int)≤(j:Int):=by omega
    have b3:(j:Int)<(nL:Int):=by omega
    clear hyy hg hyd hc hj hj2 hk hlt HL HY HW
    gi_wp2_with ((with_reducible show wpListIn _ _ _ _ _ (⟨_,Op.load 85 (.tmp 19),_,_,_,_⟩::_) _ _);refine ld_in row85 wideF rfl _ rfl g (off+j*17) rfl (enC y) (enC_size y) HC.out ?_;go_frame)
    refine hR.mono ?_
    rintro e W3 (⟨rfl,hJ3,hk3⟩|⟨rfl,hJx3⟩)
    ·gi_wp2
     go_roundw
     case rel=>exact⟨k+1,HK.out,by rw[hHK.out],by rw[← hHJ.out];exact hJ3,hnx.trans hk3⟩
     case measure=>simp[intOf]
    ·gi_wp2
     refine bodyPost_ret (results_none rfl _ _ _) rfl ?_
     exact⟨⟨_,rfl⟩,.inr ⟨_,⟨k+1,HK.out,hHJ.out⟩,hJx3⟩⟩
   ·obtain rfl:k=m:=by omega
    rw[Nat.sub_self]
    gi_wp2
    go_end0
    exact⟨⟨_,rfl⟩,.inl ⟨_,rfl,hJs⟩⟩
theorem back_in(n:Nat)(w:World)(A:Option Addr)(nL C:Nat)(i:Int):CallsIn Fence.wide n Tryz.prog 113 #[.slice A nL C,.int .i64 i] w fun e w'=>e= .returned (.func (.func 130) #[] #[.pointer (some ⟨w.heap.size+1,0,none⟩),.pointer (some ⟨w.heap.size,0,none⟩)])∧w'=(w.alloc (.cells #[.slice A nL C] 31)).alloc (.cells #[.int .i64 i] 3):=by
 refine callsIn_of_wp Tryz.func113 rfl trivial ?_ rfl
 simp only[Tryz.ntmps113,List.size_toArray,List.length_cons,List.length_nil,Nat.reduceAdd,Nat.reduceSub,Array.replicate_succ,Array.replicate_zero,List.push_toArray,List.append_toArray,List.nil_append,List.cons_append]
 gi_wp2
 go_ret
 exact⟨rfl,rfl⟩
theorem back_stops(n:Nat)(hn:1≤n)(Bi Br nL C m:Nat)(A:Option Addr)(L:List En)(w:World)(hL:Sl enC 17 w A nL L)(hmn:m≤nL)(hi:w.cell? ⟨Bi,0,none⟩=some (.int .i64 (m:Int)))(hr:w.cell? ⟨Br,0,none⟩=some (.slice A nL C))(bi:Bi<w.heap.size)(br:Br<w.heap.size):
 SeqStopsK Fence.wide n Tryz.prog 130 #[.pointer (some ⟨Bi,0,none⟩),.pointer (some ⟨Br,0,none⟩)] bEnc (Below w.heap.size) (fun ys=>ys=upB L m m) (fun pre=>∃ k,k≤m∧pre=upB L m k) m w:=fun l J Jx W hW _ _ hY h0=>
 back1_in n hn l Bi Br nL C m A L w J Jx hY hL hmn W hi hr bi br hW h0
def nonR(reg:Int)(L:List BP):Prop:=∀ x∈L,wr x.2.i.op x.2.i.rd≠reg
theorem makerR_up(L:List En)(reg:Int)(m:Nat):∀ k,k≤m→nonR reg (upB L m k)→makerR L reg m=makerR L reg (m-k)
 | 0,_,_=>rfl
 | k+1,hk,h=>by
  rw[upB_succ]at h
  rw[makerR_up L reg m k (by omega) (fun x hx=>h x (List.mem_append_left _ hx))]
  have h1:=h (bAt L m k) (by simp)
  rw[show m-k=(m-(k+1))+1 by omega,makerR]
  unfold bAt at h1
  rw[show m-1-k=m-(k+1) by omega]at h1
  rw[if_neg h1]
theorem makerR_none{L:List En}{reg:Int}{m:Nat}(h:nonR reg (upB L m m)):makerR L reg m= -1:=by
 rw[makerR_up L reg m m (Nat.le_refl _) h,Nat.sub_self];rfl
theorem makerR_hit{L:List En}{reg:Int}{m k:Nat}{x:BP}{pre:List BP}(hk:k≤m)(h:pre++[x]=upB L m k)(hn:nonR reg pre)(hx:wr x.2.i.op x.2.i.rd=reg):makerR L reg m=x.1:=by
 have hl:=congrArg List.length h
 rw[upB_len,List.length_append,List.length_singleton]at hl
 obtain⟨j,rfl⟩:∃ j,k=j+1:=⟨k-1,by omega⟩
 rw[upB_succ]at h
 obtain⟨h1,h2⟩:=List.append_inj' h rfl
 have h3:x=bAt L m j:=by simpa using h2
 subst h1
 rw[makerR_up L reg m j (by omega) hn,show m-j=(m-1-j)+1 by omega,makerR]
 rw[h3]at hx
 unfold bAt at hx
 rw[if_pos hx,h3];rfl
theorem rowB_own{β:Type}(B:Nat)(f:β→Array Value)(t:TypeId):Own (fun s W=>W.heap[B]?=some (.cells (f s) t (0,0))):=fun s X Y row hs hg hrow=>by
 refine(hg.block B (Array.getElem?_eq_some_iff.1 hs).1 (fun e=>?_)).trans hs
 obtain⟨o,ho,hc⟩:=hrow B e.symm
 rw[hs]at ho
 cases ho
 cases hc
theorem maker_in(A:Option Addr)(nL C:Nat)(L:List En)(m:Nat)(reg:Int)(w:World)(hL:Sl enC 17 w A nL L)(hmn:m≤nL)(c1:¬ reg<1)(c2:¬ 31<reg):CallsIn Fence.wide 6 Tryz.prog 87 #[.slice A nL C,.int .i64 (m:Int),.int .i64 reg] w fun e w'=>e= .returned (.int .i64 (makerE L m reg))∧Below w.heap.size w w':=by
 have hl:=hL.len
 refine callsIn_of_wp_marks Tryz.func87 rfl trivial ?_ rfl
 simp only[Tryz.ntmps87,List.size_toArray,List.length_cons,List.length_nil,Nat.reduceAdd,Nat.reduceSub,Array.replicate_succ,Array.replicate_zero,List.push_toArray,List.append_toArray,List.nil_append,List.cons_append]
 have HE:=Lib.hid (show makerE L m reg=makerR L reg m by
  unfold makerE
  rw[if_neg (by omega),show min (m:Int) (L.length:Int)=(m:Int) by omega];rfl)
 have HL:=Lib.hid hL
 clear hL
 gi_wp2_with (refine⟨trivial,?_⟩;gi_at_call 113;refine(back_in _ _ A nL C m).mono ?_;rintro e w' ⟨rfl,rfl⟩)
 have bR:=(((Boxed.new w 3 (.int .i64 reg)).alloc (.cells #[.int .i64 0] 3)).alloc (.cells #[.slice A nL C] 31)).alloc (.cells #[.int .i64 (m:Int)] 3)
 have bO:=((Boxed.new (w.alloc (.cells #[.int .i64 reg] 3)) 3 (.int .i64 0)).alloc (.cells #[.slice A nL C] 31)).alloc (.cells #[.int .i64 (m:Int)] 3)
 have bS:=(Boxed.new ((w.alloc (.cells #[.int .i64 reg] 3)).alloc (.cells #[.int .i64 0] 3)) 31 (.slice A nL C)).alloc (.cells #[.int .i64 (m:Int)] 3)
 have bI:=Boxed.new (((w.alloc (.cells #[.int .i64 reg] 3)).alloc (.cells #[.int .i64 0] 3)).alloc (.cells #[.slice A nL C] 31)) 3 (.int .i64 (m:Int))
 simp only[World.size_alloc]at bO bS bI
 have hB0:Below w.heap.size w ((((w.alloc (.cells #[.int .i64 reg] 3)).alloc (.cells #[.int .i64 0] 3)).alloc (.cells #[.slice A nL C] 31)).alloc (.cells #[.int .i64 (m:Int)] 3)):=((((Below.refl _ w).alloc (Nat.le_refl _) _).alloc (by simp) _).alloc (by simp;omega) _).alloc (by simp;omega) _
 have hsz:((((w.alloc (.cells #[.int .i64 reg] 3)).alloc (.cells #[.int .i64 0] 3)).alloc (.cells #[.slice A nL C] 31)).alloc (.cells #[.int .i64 (m:Int)] 3)).heap.size=w.heap.size+4:=by simp
 try simp only[World.size_alloc]
 obtain⟨W0,hW0⟩:∃ W0,(((w.alloc (.cells #[.int .i64 reg] 3)).alloc (.cells #[.int .i64 0] 3)).alloc (.cells #[.slice A nL C] 31)).alloc (.cells #[.int .i64 (m:Int)] 3)=W0:=⟨_,rfl⟩
 rw[hW0]at bR bO bS bI hB0 hsz ⊢
 clear hW0
 have HB0:=Lib.hid hB0
 refine wpIn_rangeFunc_ownH rfl (by decide) (gf:=130) (lb:=#[.pointer (some ⟨w.heap.size+1+1+1,0,none⟩),.pointer (some ⟨w.heap.size+1+1,0,none⟩)]) rfl trivial (enters_of Tryz.func130 (by kernel_rfl) rfl)
  (back_stops _ (by decide) (w.heap.size+1+1+1) (w.heap.size+1+1) nL C m A L W0 (HL.out.below hB0) hmn bI.cell bS.cell bI.lt bS.lt) belowK_t (belowK_b (Nat.le_refl _)) (Below.refl _ _) (fun _=>rfl)
  (fun pre W=>((Boxed W w.heap.size 3 (.int .i64 reg)∧Boxed W (w.heap.size+1) 3 (.int .i64 0))∧nonR reg pre)∧Below W0.heap.size W0 W)
  (fun c pre W=>(c= .ret∧∃ pre0 x,pre=pre0++[x]∧nonR reg pre0∧wr x.2.i.op x.2.i.rd=reg∧Boxed W (w.heap.size+1) 3 (.int .i64 (x.1:Int)))∧Below w.heap.size w W)
  (OwnFrom.and (OwnFrom.and (OwnFrom.and (Own.from (boxed_own _ _ _) _) (Own.from (boxed_own _ _ _) _)) (fun _ _ _ _ hs _ _=>hs)) (ownFrom_below (Nat.le_refl _) (Nat.le_refl _)))
  (fun c=>OwnFrom.and (fun pre X Y row hs hg hr=>⟨hs.1,by obtain⟨pre0,x,e1,e2,e3,e4⟩:=hs.2;exact⟨pre0,x,e1,e2,e3,boxed_own _ 3 (fun(_:Unit)=>Value.int .i64 (x.1:Int)) () X Y row e4 hg (fun r e=>(hr r e).2)⟩⟩) (ownFrom_below (Nat.le_refl _) (by omega)))
  ⟨⟨⟨bR,bO⟩,fun x hx=>by cases hx⟩,Below.refl _ _⟩
  (fun x a' W=>∃ Bx,w.heap.size+1<Bx∧W.heap[Bx]?=some (.cells (enC x.2) 85 (0,0))∧a'={ tmps:=#[.slice A nL C,.int .i64 (m:Int),.int .i64 reg,undef,undef,.pointer (some ⟨w.heap.size,0,none⟩),.pointer (some ⟨w.heap.size+1,0,none⟩),.int .i64 (x.1:Int),.pointer (some ⟨Bx,0,none⟩),.int .i64 reg,.bool false,.bool false,.int .i64 reg,.bool false,.bool false,.slice A nL C,.int .i64 (m:Int),.func (.func 130) #[] #[.pointer (some ⟨w.heap.size+1+1+1,0,none⟩),.pointer (some ⟨w.heap.size+1+1,0,none⟩)],.int .i64 (x.1:Int),.agg (enC x.2),undef,undef,undef,undef,undef,undef],defers:=[] })
  (fun x a' _ X Y row hs hg hr=>by obtain⟨Bx,h1,h2,h3⟩:=hs;exact⟨Bx,h1,rowB_own Bx (fun(_:Unit)=>enC x.2) 85 () X Y row h2 hg (fun r e=>(hr r e).2),h3⟩)
  ?assign ?body ?done ?stop
 case assign=>
  rintro l pre x W K ⟨⟨⟨bR1,bO1⟩,hn1⟩,hB1⟩ hK
  unfold bEnc
  gi_wp2_with (first|((with_reducible show wpListIn _ _ _ _ _ (⟨_,Op.alloc 85,_,_,_,_⟩::_) _ _);refine al_in (enC enZ) zero85 wideF rfl rfl ?_;go_frame)|((with_reducible show wpListIn _ _ _ _ _ (⟨_,Op.store 85 _ _,_,_,_,_⟩::_) _ _);refine st_in row85 wideF rfl _ _ rfl W.heap.size (enC x.2) rfl rfl (enC_size _) (enC_ones _) (t:=85) (old:=enC enZ) (heap_at _ _ _ rfl) (enC_size _) ?_;go_frame))
  rw[alloc_row_at W _ (enC x.2) 85 (enC enZ) rfl]
  exact hK _ _ ((KeepsOthers.alloc _ _).from _) ((Below.refl _ W).alloc hB1.size _) ⟨⟨⟨bR1.alloc _,bO1.alloc _⟩,hn1⟩,hB1.alloc hB1.size _⟩ ⟨W.heap.size,bO1.lt,heap_at _ _ _ rfl,rfl⟩
 case body=>
  rintro l pre x a' W hl ⟨r,hr⟩ ⟨⟨⟨bR1,bO1⟩,hn1⟩,hB1⟩ ⟨Bx,hBx,hX,rfl⟩ hlt
  have cR:=bR1.cell
  have cO:=bO1.cell
  have fO:=bO1.frozen
  have bO1lt:=bO1.lt
  have bXlt:=(Array.getElem?_eq_some_iff.1 hX).1
  have cX:∀ j v,(inC x.2.i)[j]?=some v→W.cell? ⟨Bx,2+j,none⟩=some v:=fun j v hv=>by
   rw[cell_of_row W Bx _ _ _ _ hX]
   exact sub_inst x.2 j v hv
  have CX:=Lib.hid cX
  have BR:=Lib.hid bR1
  have BO:=Lib.hid bO1
  have HX:=Lib.hid hX
  have HB1:=Lib.hid hB1
  have HN1:=Lib.hid hn1
  clear cX bR1 bO1 hX hB1 hn1
  gi_wp2_with (fail)
  apply meet1 (Hy:=fun w1=>Below W.heap.size W w1)
  ·intro rest
   have hbw:Below W.heap.size W W.drew:=(Below.refl _ _).drew
   refine wpIn_region_any (by kernel_rfl) ?_
   refine any2 (i:=0) (j:=3) (by kernel_rfl) ?_ ?_
   ·refine opIn_v (i:=0) (o:=⟨some 20,_,_,_,_,_⟩) (v:=?vn1) rfl wideF rfl (fun c e=>by cases e) ?hn1 ?rn1
    case hn1=>(go_simp;try(with_reducible rfl))
    try go_frame
    refine any2 (i:=1) (j:=3) (by kernel_rfl) ?_ ?_
    ·refine opIn_v (i:=1) (o:=⟨some 21,_,_,_,_,_⟩) (v:=.agg (inC x.2.i)) rfl wideF rfl (fun c e=>by cases e) (ld_run row83 _ rfl Bx 2 rfl (inC x.2.i) rfl (fun j v hv=>(hbw.cell (p:=⟨Bx,2+j,none⟩) (by omega)).trans (CX.out j v hv))) ?_;go_frame
     refine any2 (i:=2) (j:=3) (by kernel_rfl) ?_ ?_
     ·refine opIn_c (i:=2) (o:=⟨some 22,_,_,_,_,_⟩) rfl wideF rfl (fun c e=>by cases e) rfl (CallsIn.inRound l (callsIn_wide.2 (writes_any _ _ _ _ _ _))) (by go_simp<;>rfl) ?_;rintro e w1 ⟨rfl,hb⟩;refine⟨_,rfl,?_⟩;have hbw1:=hbw.trans (hb.mono hbw.size);clear hbw hb;have hbw:=hbw1;clear hbw1
      try go_frame
      refine any1 (i:=3) (by kernel_rfl) ?_
      refine opIn_v (i:=3) (o:=⟨some 23,_,_,_,_,_⟩) (v:=.int .i64 reg) rfl wideF rfl (fun c e=>by cases e) (ld1_run one3 _ rfl ⟨w.heap.size,0,none⟩ rfl (.int .i64 reg) ((hbw.cell (p:=⟨w.heap.size,0,none⟩) (by show w.heap.size<W.heap.size;omega)).trans cR)) ?_;go_frame
      refine any1 (i:=4) (by kernel_rfl) ?_
      refine opIn_v (i:=4) (o:=⟨some 24,_,_,_,_,_⟩) (v:=?vn2) rfl wideF rfl (fun c e=>by cases e) ?hn2 ?rn2
      case hn2=>(go_simp;try(with_reducible rfl))
      try go_frame
      refine wpAnyIn_done (by kernel_rfl) ?_ _
      exact rest w1 hbw
     ·refine opIn_v (i:=3) (o:=⟨some 23,_,_,_,_,_⟩) (v:=.int .i64 reg) rfl wideF rfl (fun c e=>by cases e) (ld1_run one3 _ rfl ⟨w.heap.size,0,none⟩ rfl (.int .i64 reg) ((hbw.cell (p:=⟨w.heap.size,0,none⟩) (by show w.heap.size<W.heap.size;omega)).trans cR)) ?_;go_frame
      refine any1 (i:=2) (by kernel_rfl) ?_
      refine opIn_c (i:=2) (o:=⟨some 22,_,_,_,_,_⟩) rfl wideF rfl (fun c e=>by cases e) rfl (CallsIn.inRound l (callsIn_wide.2 (writes_any _ _ _ _ _ _))) (by go_simp<;>rfl) ?_;rintro e w1 ⟨rfl,hb⟩;refine⟨_,rfl,?_⟩;have hbw1:=hbw.trans (hb.mono hbw.size);clear hbw hb;have hbw:=hbw1;clear hbw1
      try go_frame
      refine any1 (i:=4) (by kernel_rfl) ?_
      refine opIn_v (i:=4) (o:=⟨some 24,_,_,_,_,_⟩) (v:=?vn3) rfl wideF rfl (fun c e=>by cases e) ?hn3 ?rn3
      case hn3=>(go_simp;try(with_reducible rfl))
      try go_frame
      refine wpAnyIn_done (by kernel_rfl) ?_ _
      exact rest w1 hbw
    ·refine opIn_v (i:=3) (o:=⟨some 23,_,_,_,_,_⟩) (v:=.int .i64 reg) rfl wideF rfl (fun c e=>by cases e) (ld1_run one3 _ rfl ⟨w.heap.size,0,none⟩ rfl (.int .i64 reg) ((hbw.cell (p:=⟨w.heap.size,0,none⟩) (by show w.heap.size<W.heap.size;omega)).trans cR)) ?_;go_frame
     refine any1 (i:=1) (by kernel_rfl) ?_
     refine opIn_v (i:=1) (o:=⟨some 21,_,_,_,_,_⟩) (v:=.agg (inC x.2.i)) rfl wideF rfl (fun c e=>by cases e) (ld_run row83 _ rfl Bx 2 rfl (inC x.2.i) rfl (fun j v hv=>(hbw.cell (p:=⟨Bx,2+j,none⟩) (by omega)).trans (CX.out j v hv))) ?_;go_frame
     refine any1 (i:=2) (by kernel_rfl) ?_
     refine opIn_c (i:=2) (o:=⟨some 22,_,_,_,_,_⟩) rfl wideF rfl (fun c e=>by cases e) rfl (CallsIn.inRound l (callsIn_wide.2 (writes_any _ _ _ _ _ _))) (by go_simp<;>rfl) ?_;rintro e w1 ⟨rfl,hb⟩;refine⟨_,rfl,?_⟩;have hbw1:=hbw.trans (hb.mono hbw.size);clear hbw hb;have hbw:=hbw1;clear hbw1
     try go_frame
     refine any1 (i:=4) (by kernel_rfl) ?_
     refine opIn_v (i:=4) (o:=⟨some 24,_,_,_,_,_⟩) (v:=?vn4) rfl wideF rfl (fun c e=>by cases e) ?hn4 ?rn4
     case hn4=>(go_simp;try(with_reducible rfl))
     try go_frame
     refine wpAnyIn_done (by kernel_rfl) ?_ _
     exact rest w1 hbw
   ·refine opIn_v (i:=3) (o:=⟨some 23,_,_,_,_,_⟩) (v:=.int .i64 reg) rfl wideF rfl (fun c e=>by cases e) (ld1_run one3 _ rfl ⟨w.heap.size,0,none⟩ rfl (.int .i64 reg) ((hbw.cell (p:=⟨w.heap.size,0,none⟩) (by show w.heap.size<W.heap.size;omega)).trans cR)) ?_;go_frame
    refine any1 (i:=0) (by kernel_rfl) ?_
    refine opIn_v (i:=0) (o:=⟨some 20,_,_,_,_,_⟩) (v:=?vn5) rfl wideF rfl (fun c e=>by cases e) ?hn5 ?rn5
    case hn5=>(go_simp;try(with_reducible rfl))
    try go_frame
    refine any1 (i:=1) (by kernel_rfl) ?_
    refine opIn_v (i:=1) (o:=⟨some 21,_,_,_,_,_⟩) (v:=.agg (inC x.2.i)) rfl wideF rfl (fun c e=>by cases e) (ld_run row83 _ rfl Bx 2 rfl (inC x.2.i) rfl (fun j v hv=>(hbw.cell (p:=⟨Bx,2+j,none⟩) (by omega)).trans (CX.out j v hv))) ?_;go_frame
    refine any1 (i:=2) (by kernel_rfl) ?_
    refine opIn_c (i:=2) (o:=⟨some 22,_,_,_,_,_⟩) rfl wideF rfl (fun c e=>by cases e) rfl (CallsIn.inRound l (callsIn_wide.2 (writes_any _ _ _ _ _ _))) (by go_simp<;>rfl) ?_;rintro e w1 ⟨rfl,hb⟩;refine⟨_,rfl,?_⟩;have hbw1:=hbw.trans (hb.mono hbw.size);clear hbw hb;have hbw:=hbw1;clear hbw1
    try go_frame
    refine any1 (i:=4) (by kernel_rfl) ?_
    refine opIn_v (i:=4) (o:=⟨some 24,_,_,_,_,_⟩) (v:=?vn6) rfl wideF rfl (fun c e=>by cases e) ?hn6 ?rn6
    case hn6=>(go_simp;try(with_reducible rfl))
    try go_frame
    refine wpAnyIn_done (by kernel_rfl) ?_ _
    exact rest w1 hbw
  intro w1 hbw
  have hkf:KeepsFrom W0.heap.size W w1:=⟨hbw.size,fun k o _ hk _=>(hbw.block k (Array.getElem?_eq_some_iff.1 hk).1).trans hk⟩
  have bO2:Boxed w1 (w.heap.size+1) 3 (.int .i64 0):=(hbw.block _ bO1lt).trans BO.out
  have bR2:Boxed w1 w.heap.size 3 (.int .i64 reg):=(hbw.block _ (by omega)).trans BR.out
  by_cases hx:wr x.2.i.op x.2.i.rd=reg
  ·have d1:(wr x.2.i.op x.2.i.rd== reg)=true:=by rw[hx];simp
   have cO2:=bO2.cell
   have fO2:=bO2.frozen
   have HX2:=Lib.hid hx
   have HK2:=Lib.hid hkf
   have BO2:=Lib.hid bO2
   clear hx hkf bO2 bR2 cR cO fO
   gi_wp2
   exact⟨HK2.out.trans ((KeepsOthers.setCell _ _ _).from _),⟨rfl,pre,x,rfl,HN1.out,HX2.out,BO2.out.set _⟩,((HB0.out.trans (HB1.out.mono (by omega))).trans (hbw.mono (by omega))).setCell (p:=⟨w.heap.size+1,0,none⟩) (by show w.heap.size≤w.heap.size+1;omega) _⟩
  ·have d1:(wr x.2.i.op x.2.i.rd== reg)=false:=by rw[beq_eq_false_iff_ne];exact hx
   have HX2:=Lib.hid hx
   have HK2:=Lib.hid hkf
   have BO2:=Lib.hid bO2
   have BR2:=Lib.hid bR2
   clear hx hkf bO2 bR2 cR cO fO
   gi_wp2
   exact⟨HK2.out,hbw.mono HB1.out.size,⟨⟨BR2.out,BO2.out⟩,fun y hy=>by
    rcases List.mem_append.1 hy with hy|hy
    ·exact HN1.out y hy
    ·have:y=x:=by simpa using hy
     rw[this];exact HX2.out⟩,HB1.out.trans (hbw.mono HB1.out.size)⟩
 case done=>
  rintro D zs W hD rfl ⟨⟨⟨bR1,bO1⟩,hn1⟩,hB1⟩ hK
  have cO:=bO1.cell
  have fO:=bO1.frozen
  have HN1:=Lib.hid (makerR_none hn1)
  have HB1:=Lib.hid hB1
  clear hn1 bR1 hB1
  gi_wp2
  have hK':=(KeepsOthers.setCell W ⟨w.heap.size+1,0,none⟩ (.int .i64 (-1))).same D _ hK rfl
  refine⟨by simp,.inl ⟨_,_,rfl,run_takeDeferred hK',?_⟩⟩
  have hc5:=cell_kept (World.cell?_setCell_same' W ⟨w.heap.size+1,0,none⟩ (.int .i64 (-1)) (by rw[cO];rfl)) (grownBy_putObj' _ D (.deferred none)) (fun r e=>by cases e;exact⟨_,hK',rfl⟩)
  refine⟨.int .i64 (-1),?_,by rw[HE.out,HN1.out],((HB0.out.trans (HB1.out.mono (by omega))).setCell (p:=⟨w.heap.size+1,0,none⟩) (by show w.heap.size≤w.heap.size+1;omega) _).trans (belowK_b (w:=w) (Nat.le_refl _) _ D _ _ (by omega) hK' rfl rfl)⟩
  simp[results,Tryz.f87,go_sem,hc5]
 case stop=>
  rintro D c pre W hD ⟨k,hk,hpre⟩ ⟨⟨rfl,pre0,x,hp,hn1,hx,bO1⟩,hB1⟩ hK
  have cO:=bO1.cell
  have HM:=Lib.hid (makerR_hit hk (hp.symm.trans hpre) hn1 hx)
  have HB1:=Lib.hid hB1
  clear hn1 hx hpre hp hB1
  gi_wp2
  refine⟨by simp,.inl ⟨_,_,rfl,run_takeDeferred hK,?_⟩⟩
  have hc5:=cell_kept cO (grownBy_putObj' _ D (.deferred none)) (fun r e=>by cases e;exact⟨_,hK,rfl⟩)
  refine⟨.int .i64 (x.1:Int),?_,by rw[HE.out,HM.out],HB1.out.trans (belowK_b (w:=w) (Nat.le_refl _) W D _ _ (by omega) hK rfl rfl)⟩
  simp[results,Tryz.f87,go_sem,hc5]
end
section
open Go.RowKit Go.Shelf
section
variable {F:Fence} {n:Nat} {ops:Array Oper} {rest:List Oper} {o:Oper} {a:Act} {ws w w':World} {l:List Lc} {Q:Exit→Act→World→Prop} {T k:Nat}
theorem skipIn(hF:∀ f,F.fn f)(hgd:o.guard=none)(nd:∀ c,o.op≠ .defer c)(hrun:(execOp a.eval o).run Tryz.prog w= .ok .skip w')
 (h:wpListIn F n Tryz.prog ops Q rest (a.put o.dst undef) w'):wpListIn F n Tryz.prog ops Q (o::rest) a w:=by
 refine wpListIn_plain hgd fun K hK=>⟨fun f _=>hF f,?_⟩
 rw[semAt_nd nd,hrun]
 exact hK _ _ h
theorem in_Lll1(hF:∀ f,F.fn f)(hgd:o.guard=none)(hT:OneT T)(H:Lo ws w l)(x:Operand)(ho:o.op= .load T x)(b k:Nat)(hx:a.eval x= .pointer (some ⟨b,k,none⟩))(cs:Array Value)(t:TypeId)(hm:(b,cs,t)∈l)(v:Value)(hv:cs[k]?=some v)(h:wpListIn F n Tryz.prog ops Q rest (a.put o.dst v) w):wpListIn F n Tryz.prog ops Q (o::rest) a w:=
 valIn hF hgd (fun c e=>by rw[ho]at e;cases e) (ld1_run hT x ho ⟨b,k,none⟩ hx v ((H.lcell hm k).trans hv)) h
theorem in_Lllr(hF:∀ f,F.fn f)(hgd:o.guard=none)(hT:IsRow T k)(H:Lo ws w l)(x:Operand)(ho:o.op= .load T x)(b j:Nat)(hx:a.eval x= .pointer (some ⟨b,j,none⟩))(rs:Array Value)(t:TypeId)(hm:(b,rs,t)∈l)(cs:Array Value)(hs:cs.size=k)(hv:Sub rs j cs)(h:wpListIn F n Tryz.prog ops Q rest (a.put o.dst (.agg cs)) w):wpListIn F n Tryz.prog ops Q (o::rest) a w:=
 valIn hF hgd (fun c e=>by rw[ho]at e;cases e) (ld_run hT x ho b j hx cs hs (fun i v hj=>(H.lcell hm (j+i)).trans (hv i v hj))) h
theorem in_lrow(hF:∀ f,F.fn f)(hgd:o.guard=none)(hT:IsRow T k)(x:Operand)(ho:o.op= .load T x)(b j:Nat)(hx:a.eval x= .pointer (some ⟨b,j,none⟩))(cs:Array Value)(hs:cs.size=k)(hv:∀ i v,cs[i]?=some v→w.cell? ⟨b,j+i,none⟩=some v)(h:wpListIn F n Tryz.prog ops Q rest (a.put o.dst (.agg cs)) w):wpListIn F n Tryz.prog ops Q (o::rest) a w:=
 valIn hF hgd (fun c e=>by rw[ho]at e;cases e) (ld_run hT x ho b j hx cs hs hv) h
theorem in_Lal(hF:∀ f,F.fn f)(hgd:o.guard=none)(z:Array Value)(hz:∀ W:World,(zeroValue T).run Tryz.prog W= .ok (.agg z) W)(H:Lo ws w l)(ho:o.op= .alloc T)(h:∀ w' b,w.heap.size≤b→Below w.heap.size w w'→Lo ws w' ((b,z,T)::l)→wpListIn F n Tryz.prog ops Q rest (a.put o.dst (.pointer (some ⟨b,0,none⟩))) w'):wpListIn F n Tryz.prog ops Q (o::rest) a w:=by
 have hrun:(Instr.alloc T true (.tuple #[])).run Tryz.prog w= .ok (.pointer (some ⟨w.heap.size,0,none⟩)) (w.alloc (.cells z T)):=by
  unfold Instr.alloc newVar newRow
  simp[Sem.run_bind,hz,Value.cells]
 have hrun2:(execOp a.eval o).run Tryz.prog w= .ok (.value (.pointer (some ⟨w.heap.size,0,none⟩))) (w.alloc (.cells z T)):=by
  unfold execOp
  simp only[ho,Sem.run_bind,Sem.run_pure,Result.andThen_ok,hrun]
 have H':=H.below ((Below.refl w.heap.size w).alloc (Nat.le_refl _) (.cells z T))
 refine valIn hF hgd (fun c e=>by rw[ho]at e;cases e) hrun2 (h _ _ (Nat.le_refl _) ((Below.refl w.heap.size w).alloc (Nat.le_refl _) (.cells z T)) ⟨H'.bl,fun y hy=>?_,List.pairwise_cons.2 ⟨fun y hy e=>?_,H.nd⟩⟩)
 ·rcases List.mem_cons.1 hy with e|hy
  ·subst e;exact⟨heap_at _ _ _ rfl,H.bl.size⟩
  ·exact H'.lc y hy
 ·have:=(Array.getElem?_eq_some_iff.1 (H.lc y hy).1).1
  simp only at e
  omega
theorem in_Lsl{n':Nat}(hF:∀ f,F.fn f)(hgd:o.guard=none)(hT:Cel T n')(b:Nat)(old:Array Value)(t:TypeId)(H:Lo ws w ((b,old,t)::l))(x y:Operand)(ho:o.op= .store T x y)(j:Nat)(hx:a.eval x= .pointer (some ⟨b,j,none⟩))(v:Value)(hy:a.eval y=v)(hv:v.cells.size=n')(h1:Ones v.cells)(h2:j+n'≤old.size)(new:Array Value)(hn:putA old j v.cells=new)
 (h:∀ w',Off b w w'→Lo ws w' ((b,new,t)::l)→wpListIn F n Tryz.prog ops Q rest (a.put o.dst undef) w'):wpListIn F n Tryz.prog ops Q (o::rest) a w:=by
 obtain⟨q1,q3⟩:=H.lc _ mm0
 simp only at q1 q3
 have hrun:=run_put hT w b j t old v hv h1 q1 h2
 have hrun2:(execOp a.eval o).run Tryz.prog w= .ok .skip (w.setRow b (putA old j v.cells)):=by
  unfold execOp
  simp only[ho,hx,hy,Instr.storeAt,Instr.sureAddr,Sem.run_bind,Sem.run_pure,Result.andThen_ok,hrun]
 have nd:=List.pairwise_cons.1 H.nd
 rw[hn]at hrun2
 refine skipIn hF hgd (fun c e=>by rw[ho]at e;cases e) hrun2 (h _ (Off.row new) ⟨below_setRow H.bl q3 new,fun y hy=>?_,List.pairwise_cons.2 ⟨fun y hy=>nd.1 y hy,nd.2⟩⟩)
 rcases List.mem_cons.1 hy with e|hy
 ·subst e;exact⟨setRow_heap w b _ _ _ _ q1,q3⟩
 ·have hne:=nd.1 y hy
  obtain⟨r1,r3⟩:=H.lc y (List.mem_cons_of_mem _ hy)
  exact⟨(row_other w b y.1 new (Ne.symm hne)).trans r1,r3⟩
theorem in_Lslw{n':Nat}(hF:∀ f,F.fn f)(hgd:o.guard=none)(hT:Cel T n')(b:Nat)(old:Array Value)(t:TypeId)(H:Lo ws w ((b,old,t)::l))(x y:Operand)(ho:o.op= .store T x y)(hx:a.eval x= .pointer (some ⟨b,0,none⟩))(cs:Array Value)(hy:a.eval y= .agg cs)(hs:cs.size=n')(h1:Ones cs)(h2:old.size=n')
 (h:∀ w',Off b w w'→Lo ws w' ((b,cs,t)::l)→wpListIn F n Tryz.prog ops Q rest (a.put o.dst undef) w'):wpListIn F n Tryz.prog ops Q (o::rest) a w:=
 in_Lsl hF hgd hT b old t H x y ho 0 hx (.agg cs) hy hs h1 (by omega) cs (putA_all old cs (by omega)) h
end
section
attribute [local go_sem] Oper.semAt_some
theorem in_yield{F:Fence}{n:Nat}{ops:Array Oper}{rest:List Oper}{o:Oper}{a:Act}{w:World}{Q:Exit→Act→World→Prop}{T:TypeId}{l:Nat}{R:Ending→World→Prop}(hF:∀ f,F.fn f)(hd:F.depth=none)(hgd:o.guard=none)(x y:Operand)(ho:o.op= .call { callee:=.value x,args:=#[y],argTypes:=#[T] })(hx:a.eval x= .func (.yield l) #[] #[])(v:Value)(hv:a.eval y=v)
 (hY:YieldAt F (n-1) Tryz.prog l #[v] w R) (h:∀ e w',R e w'→∃ u,e= .returned u∧wpListIn F n Tryz.prog ops Q rest (a.put o.dst u) w'):wpListIn F n Tryz.prog ops Q (o::rest) a w:=by
 obtain⟨fn,tmps,assign,body,hy,hR⟩:=hY
 have hrun:(execOp a.eval o).run Tryz.prog w= .ok (.round l fn tmps assign body) w:=by
  unfold execOp
  simp only[ho,resolve,hx,hv,Sem.run_bind,List.map_toArray,List.map_cons,List.map_nil]
  simp[invoke,go_sem,hy]
 refine wpListIn_plain hgd fun K hK=>⟨fun f _=>hF f,?_⟩
 rw[semAt_nd (fun c e=>by rw[ho]at e;cases e),hrun]
 refine⟨(fun h=>by rw[hd]at h;cases h),hR.mono ?_⟩
 intro e w' he
 obtain⟨u,rfl,hk⟩:=h e w' he
 exact hK _ _ hk
end
theorem valInG{F:Fence}{n:Nat}{ops:Array Oper}{rest:List Oper}{o:Oper}{a:Act}{w w':World}{Q:Exit→Act→World→Prop}{v:Value}(hF:∀ f,F.fn f)(hw:Region.wanted o (yielded ops a.tmps)=true)(nd:∀ c,o.op≠ .defer c)(hrun:(execOp a.eval o).run Tryz.prog w= .ok (.value v) w')
 (h:wpListIn F n Tryz.prog ops Q rest (a.put o.dst v) w'):wpListIn F n Tryz.prog ops Q (o::rest) a w:=
 wpListIn_step fun K hK=>by
  simp only[hw,if_true]
  refine⟨fun f _=>hF f,?_⟩
  rw[semAt_nd nd,hrun]
  exact hK _ _ h
theorem below_grown{w w':World}(h:Below w.heap.size w w'):w.grownBy w' none:=⟨h.os,h.tape,h.output,h.size,fun k hk _=>h.block k hk⟩
theorem abide_below{α:Type}{B:Nat}{J:List α→World→Prop}{pre:List α}{w w':World}(hJ:AbidesFrom B J)(h:J pre w)(hb:Below w.heap.size w w'):J pre w':=hJ pre w w' none h (below_grown hb) (fun r e=>by cases e)
end
section
open Go.RowKit Go.Shelf
theorem zero3(w:World):(zeroValue 3).run Tryz.prog w= .ok (.int .i64 0) w:=by kernel_rfl
theorem zero9(w:World):(zeroValue 9).run Tryz.prog w= .ok (.string (bs [])) w:=by kernel_rfl
theorem zero28(w:World):(zeroValue 28).run Tryz.prog w= .ok (.int .u32 0) w:=by kernel_rfl
theorem zero22(w:World):(zeroValue 22).run Tryz.prog w= .ok (.slice none 0 0) w:=by kernel_rfl
theorem Lo.setI{ws w:World}{l:List Lc}{i b:Nat}{old:Array Value}{t:TypeId}(H:Lo ws w l)(hi:l[i]?=some (b,old,t))(new:Array Value):Lo ws (w.setRow b new) (l.set i (b,new,t)):=by
 have hm:=List.mem_of_getElem? hi
 obtain⟨q1,q3⟩:=H.lc _ hm
 simp only at q1 q3
 obtain⟨hil,hie⟩:=List.getElem?_eq_some_iff.1 hi
 have hnd:=List.pairwise_iff_getElem.1 H.nd
 have key:∀(j:Nat) (hj:j<l.length),j≠i→(l[j]'hj).1≠b:=fun j hj hne=>by
  have hb:(l[i]'hil).1=b:=by rw[hie]
  rcases Nat.lt_or_gt_of_ne hne with h|h
  ·have:=hnd j i hj hil h;rw[hb]at this;exact this
  ·have:=hnd i j hil hj h;rw[hb]at this;exact fun e=>this e.symm
 refine⟨below_setRow H.bl q3 new,fun x hx=>?_,?_⟩
 ·obtain⟨j,hj⟩:=List.getElem?_of_mem hx
  by_cases e:i=j
  ·subst e
   rw[List.getElem?_set_self hil,Option.some.injEq]at hj
   subst hj
   exact⟨setRow_heap w b _ _ _ _ q1,q3⟩
  ·rw[List.getElem?_set_ne e]at hj
   obtain⟨hjl,hje⟩:=List.getElem?_eq_some_iff.1 hj
   have hne:=key j hjl (fun h=>e h.symm)
   rw[hje]at hne
   obtain⟨r1,r3⟩:=H.lc x (List.mem_of_getElem? hj)
   exact⟨(row_other w b x.1 new hne).trans r1,r3⟩
 ·rw[List.pairwise_iff_getElem]
  intro j k hj hk hjk
  rw[List.length_set]at hj hk
  rw[List.getElem_set,List.getElem_set]
  by_cases e1:i=j
  ·rw[if_pos e1,if_neg (by omega)]
   exact fun e=>key k hk (by omega) e.symm
  ·rw[if_neg e1]
   by_cases e2:i=k
   ·rw[if_pos e2];exact key j hj (by omega)
   ·rw[if_neg e2];exact hnd j k hj hk hjk
section
variable {ws w:World} {l l':List Lc} {ops:Array Oper} {rest:List Oper} {o:Oper} {a:Act} {Q:Exit→Act→World→Prop} {K:Act→World→Prop} {E:Prop} {T n:Nat}
theorem run_al1{v:Value}(hv:v.cells=#[v])(hz:∀ W:World,(zeroValue T).run Tryz.prog W= .ok v W)(w:World):(Instr.alloc T true (.tuple #[])).run Tryz.prog w= .ok (.pointer (some ⟨w.heap.size,0,none⟩)) (w.alloc (.cells #[v] T)):=by
 unfold Instr.alloc newVar newRow
 simp[Sem.run_bind,hz,hv]
theorem Lo.more(H:Lo ws w l)(z:Array Value)(T:TypeId):Lo ws (w.alloc (.cells z T)) ((w.heap.size,z,T)::l):=by
 have H':=H.below ((Below.refl w.heap.size w).alloc (Nat.le_refl _) (.cells z T))
 exact⟨H'.bl,fun y hy=>by
  rcases List.mem_cons.1 hy with e|hy
  ·subst e;exact⟨heap_at _ _ _ rfl,H.bl.size⟩
  ·exact H'.lc y hy,List.pairwise_cons.2 ⟨fun y hy e=>by
   have:=(Array.getElem?_eq_some_iff.1 (H.lc y hy).1).1
   simp only at e
   omega,H.nd⟩⟩
theorem wp_Lal1(v:Value)(hv:v.cells=#[v])(hz:∀ W:World,(zeroValue T).run Tryz.prog W= .ok v W)(H:Lo ws w l)(ho:o.op= .alloc T)(h:∀ w' b,w.heap.size≤b→Below w.heap.size w w'→Lo ws w' ((b,#[v],T)::l)→K (a.put o.dst (.pointer (some ⟨b,0,none⟩))) w'):Oper.wp Tryz.prog o a w K Q:=by
 unfold Oper.wp execOp
 simp only[ho,Sem.run_bind,Sem.run_pure,Result.andThen_ok,run_al1 hv hz]
 exact h _ _ (Nat.le_refl _) ((Below.refl w.heap.size w).alloc (Nat.le_refl _) _) (H.more _ _)
theorem st_Lal1(hgd:o.guard=none)(v:Value)(hv:v.cells=#[v])(hz:∀ W:World,(zeroValue T).run Tryz.prog W= .ok v W)(H:Lo ws w l)(ho:o.op= .alloc T)(h:∀ w' b,w.heap.size≤b→Below w.heap.size w w'→Lo ws w' ((b,#[v],T)::l)→wpList Tryz.prog ops Q rest (a.put o.dst (.pointer (some ⟨b,0,none⟩))) w'):wpList Tryz.prog ops Q (o::rest) a w:=
 wpList_plain hgd fun K hK=>wp_Lal1 v hv hz H ho fun w' b q0 q1 q2=>hK _ _ (h w' b q0 q1 q2)
theorem step_Lal1(hgd:o.guard=none)(v:Value)(hv:v.cells=#[v])(hz:∀ W:World,(zeroValue T).run Tryz.prog W= .ok v W)(H:Lo ws w l)(ho:o.op= .alloc T)(h:∀ w' b,w.heap.size≤b→Below w.heap.size w w'→Lo ws w' ((b,#[v],T)::l)→K (a.put o.dst (.pointer (some ⟨b,0,none⟩))) w'):if Region.wanted o (yielded ops a.tmps)=true then Oper.wp Tryz.prog o a w K Q else E:=toStep hgd (wp_Lal1 v hv hz H ho h)
theorem wp_Lbox1(v:Value)(H:Lo ws w l)(x:Operand)(ho:o.op= .box T x)(hx:a.eval x=v)(hv:v.cells=#[v])(h:∀ w' b,w.heap.size≤b→Below w.heap.size w w'→Lo ws w' ((b,#[v],T)::l)→K (a.put o.dst (.pointer (some ⟨b,0,none⟩))) w'):Oper.wp Tryz.prog o a w K Q:=by
 have hrun:(Instr.box T v).run Tryz.prog w= .ok (.pointer (some ⟨w.heap.size,0,none⟩)) (w.alloc (.cells #[v] T)):=by
  unfold Instr.box newVar newRow
  simp[hv]
 unfold Oper.wp execOp
 simp only[ho,hx,Sem.run_bind,Sem.run_pure,Result.andThen_ok,hrun]
 exact h _ _ (Nat.le_refl _) ((Below.refl w.heap.size w).alloc (Nat.le_refl _) _) (H.more _ _)
theorem st_Lbox1(hgd:o.guard=none)(v:Value)(H:Lo ws w l)(x:Operand)(ho:o.op= .box T x)(hx:a.eval x=v)(hv:v.cells=#[v])(h:∀ w' b,w.heap.size≤b→Below w.heap.size w w'→Lo ws w' ((b,#[v],T)::l)→wpList Tryz.prog ops Q rest (a.put o.dst (.pointer (some ⟨b,0,none⟩))) w'):wpList Tryz.prog ops Q (o::rest) a w:=
 wpList_plain hgd fun K hK=>wp_Lbox1 v H x ho hx hv fun w' b q0 q1 q2=>hK _ _ (h w' b q0 q1 q2)
theorem wp_LslI(hT:Cel T n)(i b:Nat)(old:Array Value)(t:TypeId)(H:Lo ws w l)(hi:l[i]?=some (b,old,t))(x y:Operand)(ho:o.op= .store T x y)(k:Nat)(hx:a.eval x= .pointer (some ⟨b,k,none⟩))(v:Value)(hy:a.eval y=v)(hv:v.cells.size=n)(h1:Ones v.cells)(h2:k+n≤old.size)(new:Array Value)(hn:putA old k v.cells=new)(hl:l.set i (b,new,t)=l')
 (h:∀ w',Off b w w'→Lo ws w' l'→K (a.put o.dst undef) w'):Oper.wp Tryz.prog o a w K Q:=by
 have q1:=(H.lc _ (List.mem_of_getElem? hi)).1
 refine wp_put hT x y ho b k hx v hy hv h1 t old q1 h2 ?_
 rw[hn]
 exact h _ (Off.row new) (hl▸H.setI hi new)
theorem st_LslI(hgd:o.guard=none)(hT:Cel T n)(i b:Nat)(old:Array Value)(t:TypeId)(H:Lo ws w l)(hi:l[i]?=some (b,old,t))(x y:Operand)(ho:o.op= .store T x y)(k:Nat)(hx:a.eval x= .pointer (some ⟨b,k,none⟩))(v:Value)(hy:a.eval y=v)(hv:v.cells.size=n)(h1:Ones v.cells)(h2:k+n≤old.size)(new:Array Value)(hn:putA old k v.cells=new)(hl:l.set i (b,new,t)=l')
 (h:∀ w',Off b w w'→Lo ws w' l'→wpList Tryz.prog ops Q rest (a.put o.dst undef) w'):wpList Tryz.prog ops Q (o::rest) a w:=
 wpList_plain hgd fun K hK=>wp_LslI hT i b old t H hi x y ho k hx v hy hv h1 h2 new hn hl fun w' q0 q1=>hK _ _ (h w' q0 q1)
theorem step_LslI(hgd:o.guard=none)(hT:Cel T n)(i b:Nat)(old:Array Value)(t:TypeId)(H:Lo ws w l)(hi:l[i]?=some (b,old,t))(x y:Operand)(ho:o.op= .store T x y)(k:Nat)(hx:a.eval x= .pointer (some ⟨b,k,none⟩))(v:Value)(hy:a.eval y=v)(hv:v.cells.size=n)(h1:Ones v.cells)(h2:k+n≤old.size)(new:Array Value)(hn:putA old k v.cells=new)(hl:l.set i (b,new,t)=l')
 (h:∀ w',Off b w w'→Lo ws w' l'→K (a.put o.dst undef) w'):if Region.wanted o (yielded ops a.tmps)=true then Oper.wp Tryz.prog o a w K Q else E:=toStep hgd (wp_LslI hT i b old t H hi x y ho k hx v hy hv h1 h2 new hn hl h)
variable {F:Fence} {m:Nat}
theorem in_LslI(hF:∀ f,F.fn f)(hgd:o.guard=none)(hT:Cel T n)(i b:Nat)(old:Array Value)(t:TypeId)(H:Lo ws w l)(hi:l[i]?=some (b,old,t))(x y:Operand)(ho:o.op= .store T x y)(k:Nat)(hx:a.eval x= .pointer (some ⟨b,k,none⟩))(v:Value)(hy:a.eval y=v)(hv:v.cells.size=n)(h1:Ones v.cells)(h2:k+n≤old.size)(new:Array Value)(hn:putA old k v.cells=new)(hl:l.set i (b,new,t)=l')
 (h:∀ w',Off b w w'→Lo ws w' l'→wpListIn F m Tryz.prog ops Q rest (a.put o.dst undef) w'):wpListIn F m Tryz.prog ops Q (o::rest) a w:=by
 have q1:=(H.lc _ (List.mem_of_getElem? hi)).1
 have hrun:=run_put hT w b k t old v hv h1 q1 h2
 have hrun2:(execOp a.eval o).run Tryz.prog w= .ok .skip (w.setRow b (putA old k v.cells)):=by
  unfold execOp
  simp only[ho,hx,hy,Instr.storeAt,Instr.sureAddr,Sem.run_bind,Sem.run_pure,Result.andThen_ok,hrun]
 rw[hn]at hrun2
 exact skipIn hF hgd (fun c e=>by rw[ho]at e;cases e) hrun2 (h _ (Off.row new) (hl▸H.setI hi new))
end
theorem one_int(x:Value)(k:IntKind)(n:Int):putA #[x] 0 #[.int k n]=#[.int k n]:=(rfl)
theorem one_str(x:Value)(s:ByteArray):putA #[x] 0 #[.string s]=#[.string s]:=(rfl)
theorem one_sl(x:Value)(A:Option Addr)(n C:Nat):putA #[x] 0 #[.slice A n C]=#[.slice A n C]:=(rfl)
theorem cel22:Cel 22 1:=by unfold Cel;kernel_rfl
theorem cel23:Cel 23 1:=by unfold Cel;kernel_rfl
theorem only_normal{c:Code}{K:Act→World→Prop}{Q:Exit→Act→World→Prop}{a:Act}{w:World}(h:c.wp Tryz.prog (Exit.then K (fun _ _ _=>False)) a w):c.wp Tryz.prog (Exit.then K Q) a w:=
 wp_mono h fun e a w hq=>by cases e<;>first|exact hq|exact hq.elim
theorem only_normalIn{F:Fence}{n:Nat}{c:Code}{K:Act→World→Prop}{Q:Exit→Act→World→Prop}{a:Act}{w:World}(h:c.wpIn F n Tryz.prog (Exit.then K (fun _ _ _=>False)) a w):c.wpIn F n Tryz.prog (Exit.then K Q) a w:=
 wpIn_mono h fun e a w hq=>by cases e<;>first|exact hq|exact hq.elim
theorem Lo.sublist{ws w:World}{l l':List Lc}(h:l'.Sublist l)(H:Lo ws w l):Lo ws w l':=⟨H.bl,fun x hx=>H.lc x (h.subset hx),H.nd.sublist h⟩
theorem Lo.lt{ws w:World}{l:List Lc}{b:Nat}{cs:Array Value}{T:TypeId}(H:Lo ws w l)(hx:(b,cs,T)∈l):b<w.heap.size:=(Array.getElem?_eq_some_iff.1 (H.row hx)).1
theorem lo_own{β:Type}{ws:World}{B:Nat}{l:β→List Lc}(hB:ws.heap.size≤B):OwnFrom B (fun s W=>Lo ws W (l s)):=fun s X Y row hs hg hr=>
 ⟨hs.bl.trans ⟨hg.os,hg.tape,hg.output,hg.size,fun j hj=>hg.block j (Nat.lt_of_lt_of_le hj hs.bl.size) (fun e=>by have:=(hr j e.symm).1;omega)⟩,(fun x hx=>by
  obtain⟨h1,h2⟩:=hs.lc x hx
  refine⟨(hg.block x.1 (Array.getElem?_eq_some_iff.1 h1).1 (fun e=>?_)).trans h1,h2⟩
  obtain⟨_,o,ho,hc⟩:=hr x.1 e.symm
  rw[h1]at ho
  cases ho
  cases hc),hs.nd⟩
theorem keep_off{B b:Nat}{W W':World}(h:Off b W W')(hb:b<B):KeepsFrom B W W':=⟨by rw[h.size];exact Nat.le_refl _,fun k o hk ho _=>(h.heap k (by omega)).trans ho⟩
theorem slice_run{o:Oper}{a:Act}(x lo hi:Operand)(ho:o.op= .slice 9 x (some lo) (some hi) none)(m:By)(i j:Int)(kl kh:IntKind)(hx:a.eval x= .string (bs m))(hl:a.eval lo= .int kl i)(hh:a.eval hi= .int kh j)(h0:0≤i)(h1:i≤j)(h2:j≤m.length)(w:World):
 (execOp a.eval o).run Tryz.prog w= .ok (.value (.string (bs (cutB m i.toNat (j-i).toNat)))) w:=by
 have hrun:=run_slice_string (P:=Tryz.prog) w 9 (bs m) kl kh i j Tryz.underlying9 h0 h1 (by simpa using h2)
 rw[show j.toNat=i.toNat+(j-i).toNat by omega,bs_cut]at hrun
 have hat:(Instr.sliceAt 9 (.string (bs m)) (some (.int kl i)) (some (.int kh j)) none).run Tryz.prog w= .ok (.string (bs (cutB m i.toNat (j-i).toNat))) w:=by
  rw[run_sliceAt_string _ 9 _ _ _ _ Tryz.underlying9];exact hrun
 unfold execOp
 simp only[ho,hx,hl,hh,Option.map_some,Option.map_none,Sem.run_bind,Sem.run_pure,Result.andThen_ok,hat]
section
variable {P:Program} {ops:Array Oper} {Q:Exit→Act→World→Prop} {md:Region.Mode} {C:World→Prop} {c:Nat}
theorem threeC{i j k:Nat}{oi oj ok:Oper}{fuel:Nat}{l:Array Bool}{a:Act}{w:World}(hi:ops[i]?=some oi)(hj:ops[j]?=some oj)(hk:ops[k]?=some ok)(hr:Region.ready md ops l=[i,j,k])
 (h1:∀ K':Act→World→Prop,Shut (∀ a w,((l.setIfInBounds i true).getD c false=false→C w)→wpAnyC P md ops Q c C fuel (l.setIfInBounds i true) a w→K' a w)→if Region.wanted oi (yielded ops a.tmps)=true then Oper.wp P oi a w K' Q else K' (a.put oi.dst undef) w)
 (h2:∀ K':Act→World→Prop,Shut (∀ a w,((l.setIfInBounds j true).getD c false=false→C w)→wpAnyC P md ops Q c C fuel (l.setIfInBounds j true) a w→K' a w)→if Region.wanted oj (yielded ops a.tmps)=true then Oper.wp P oj a w K' Q else K' (a.put oj.dst undef) w)
 (h3:∀ K':Act→World→Prop,Shut (∀ a w,((l.setIfInBounds k true).getD c false=false→C w)→wpAnyC P md ops Q c C fuel (l.setIfInBounds k true) a w→K' a w)→if Region.wanted ok (yielded ops a.tmps)=true then Oper.wp P ok a w K' Q else K' (a.put ok.dst undef) w):wpAnyC P md ops Q c C (fuel+1) l a w:=by
 refine⟨fun h0=>(by rw[hr]at h0;cases h0),fun q hq=>?_⟩
 rw[hr]at hq
 rcases List.mem_cons.1 hq with e|hq
 ·subst e;exact wpOp_step hi (fun K' hK=>h1 K' (fun a w h1 h2=>hK a w ⟨h1,h2⟩))
 ·rcases List.mem_cons.1 hq with e|hq
  ·subst e;exact wpOp_step hj (fun K' hK=>h2 K' (fun a w h1 h2=>hK a w ⟨h1,h2⟩))
  ·have:q=k:=by simpa using hq
   subst this;exact wpOp_step hk (fun K' hK=>h3 K' (fun a w h1 h2=>hK a w ⟨h1,h2⟩))
end
theorem wpIn_ofR{l n:Nat}{o:Oper}{a:Act}{w:World}{K:Act→World→Prop}{Q:Exit→Act→World→Prop}(nd:∀ c,o.op≠ .defer c)(h:Oper.wp Tryz.prog o a w K Q):Oper.wpIn (Fence.wide.inRound l) n Tryz.prog o a w K Q:=by
 refine⟨fun _ _=>trivial,?_⟩
 rw[semAt_nd nd]
 unfold Oper.wp at h
 generalize (execOp a.eval o).run Tryz.prog w=r at *
 cases r with
 | ok x w'=>
  cases x<;>simp only[Oper.upon,Oper.uponIn]at h ⊢
  all_goals first|exact h|exact h.elim|(refine⟨fun h=>Bool.noConfusion h,?_⟩;exact CallsIn.inRound l (callsIn_wide.2 h))|(refine⟨fun h=>Bool.noConfusion h,fun c cs _=>?_⟩;obtain⟨v,w2,r,s⟩:=h c cs;exact⟨v,w2,r,stepsIn_wide.2 s⟩)
 | halt x w'=>cases x<;>simp only[Oper.upon,Oper.uponIn]at h ⊢ <;> exact h
def ndB(ops:Array Oper):Bool:=ops.all fun o=>match o.op with | .defer _=>false|_=>true
theorem nd_of{ops:Array Oper}(h:ndB ops=true){i:Nat}{o:Oper}(ho:ops[i]?=some o):∀ c,o.op≠ .defer c:=fun c e=>by
 obtain⟨h1,h2⟩:=Array.getElem?_eq_some_iff.1 ho
 have:=Array.all_eq_true.1 h i h1
 rw[h2,e]at this
 cases this
theorem wpOpIn_ofR{l n:Nat}{ops:Array Oper}{i:Nat}{a:Act}{w:World}{K K':Act→World→Prop}{Q:Exit→Act→World→Prop}(hnd:ndB ops=true)(hno:¬ LetsOut Q)(hK:∀ a w,K a w→K' a w)(h:wpOp Tryz.prog ops Q i K a w):wpOpIn (Fence.wide.inRound l) n Tryz.prog ops Q i K' a w:=by
 unfold wpOp at h
 unfold wpOpIn
 cases ho:ops[i]? with
 | none=>rw[ho]at h;exact hK _ _ h
 | some o=>
  rw[ho]at h
  simp only at h ⊢
  by_cases hw:Region.wanted o (yielded ops a.tmps)=true
  ·rw[if_pos hw]at h ⊢
   rcases h with h|h
   ·exact Oper.wpIn_mono hK (wpIn_ofR (nd_of hnd ho) h)
   ·exact absurd h.2 hno
  ·rw[if_neg hw]at h ⊢
   exact⟨fun _ _=>trivial,hK _ _ h⟩
theorem wpAnyIn_ofR{l n:Nat}{ops:Array Oper}{md:Region.Mode}{Q:Exit→Act→World→Prop}(hnd:ndB ops=true)(hno:¬ LetsOut Q):∀(fuel:Nat) (ls:Array Bool) (a:Act) (w:World),wpAny Tryz.prog md ops Q fuel ls a w→wpAnyIn (Fence.wide.inRound l) n Tryz.prog md ops Q fuel ls a w
 | 0,_,_,_,h=>h
 | fuel+1,ls,a,w,h=>⟨h.1,fun i hi=>wpOpIn_ofR hnd hno (fun a' w' h'=>wpAnyIn_ofR hnd hno fuel _ a' w' h') (h.2 i hi)⟩
theorem beginInR{n:Nat}{ops:Array Oper}{Q:Exit→Act→World→Prop}(c:Nat){r:Nat}{l:List Lc}{l0:Array Bool}{ws w:World}(H:Lo ws w l){id:Nat}{a:Act}(hnd:ndB ops=true)(hno:¬ LetsOut Q)(h:Lo ws w.drew l→wpAnyC Tryz.prog .any ops Q c (fun w'=>Lo ws w' l) ops.size l0 a w.drew)(hl:Array.replicate ops.size false=l0):(Code.region id ops true).wpIn (Fence.wide.inRound r) n Tryz.prog Q a w:=
 wpIn_region_any (by kernel_rfl) (wpAnyIn_ofR hnd hno _ _ _ _ (wpAny_of_C _ _ _ _ (hl▸h H.drew)))
end
section
variable {w0 ws w:World} {g:Nat} {κs κ:Nat→Nat} {c c':Co} {s s':Ss} {l l':List Lc} {ops:Array Oper} {rest:List Oper} {o:Oper} {a:Act} {Q:Exit→Act→World→Prop} {K:Act→World→Prop} {E:Prop} {T n:Nat}
theorem wp_sbo(hT:Cel T n)(H:Md w0 ws w g κs κ c s c' s' l)(x y:Operand)(ho:o.op= .store T x y)(k:Nat)(hx:a.eval x= .pointer (some ⟨g,k,none⟩))(v:Value)(hy:a.eval y=v)(hv:v.cells.size=n)(h1:Ones v.cells)(hk:k+n≤64)(hset:putA (coC c s) k v.cells=coC c' s')(h:∀ w',Off g w w'→St' w0 ws w' g κs κ c' s' l→K (a.put o.dst undef) w'):Oper.wp Tryz.prog o a w K Q:=by
 refine wp_put hT x y ho g k hx v hy hv h1 67 _ H.box (by rw[coC_size];exact hk) ?_
 exact h _ (Off.row _) (H.off (Off.row _) (by rw[setRow_heap w g _ _ _ _ H.box,hset]))
theorem step_sbo(hgd:o.guard=none)(hT:Cel T n)(H:Md w0 ws w g κs κ c s c' s' l)(x y:Operand)(ho:o.op= .store T x y)(k:Nat)(hx:a.eval x= .pointer (some ⟨g,k,none⟩))(v:Value)(hy:a.eval y=v)(hv:v.cells.size=n)(h1:Ones v.cells)(hk:k+n≤64)(hset:putA (coC c s) k v.cells=coC c' s')(h:∀ w',Off g w w'→St' w0 ws w' g κs κ c' s' l→K (a.put o.dst undef) w'):if Region.wanted o (yielded ops a.tmps)=true then Oper.wp Tryz.prog o a w K Q else E:=toStep hgd (wp_sbo hT H x y ho k hx v hy hv h1 hk hset h)
theorem St'.mpc{w':World}(H:St' w0 ws w g κs κ c s l)(h:MP w0 w g κ c' w'):∃ κ' s',St' w0 ws w' g κs κ' c' s' l:=by
 obtain⟨κ',s',hm,hk,hs⟩:=h
 exact⟨κ',s',H.call hm hk hs⟩
theorem St'.g0(H:St' w0 ws w g κs κ c s l):κ g≠0:=by rw[H.m.r.gcol];decide
theorem St'.toMd{x:Nat}{w':World}{κ':Nat→Nat}(H:St' w0 ws w g κs κ c s l)(t:Tr κ κ' x w w')(h0:x≠0)(h1:x≠1)(h6:x<6)(r:MR w0 w' g κ' c' s'):Md w0 ws w' g κs κ' c s c' s' l:=
 ⟨r,H.m.box_tr t h1,H.kp.same H.sm (Kp.tr t h0 h6),H.sm.trans (fun j hj=>t.old j hj) H.kp.size,fun y hy=>by
  obtain⟨q1,q2,q3⟩:=H.lc y hy
  have hlt:=(Array.getElem?_eq_some_iff.1 q1).1
  exact⟨(t.heap y.1 hlt (by omega)).trans q1,(t.old y.1 hlt).trans q2,q3⟩,H.nd⟩
theorem St'.newrob{w':World}{v:Value}{L:List En}(H:St' w0 ws w g κs κ c s l)(hb:Below w.heap.size w w')(how:Ow enC 17 w' w.heap.size 85 v L):∃ A C κ',v= .slice A L.length C∧Md w0 ws w' g κs κ' c s { c with rob:=L } { s with rob:=⟨A,L.length,C⟩ } l:=by
 rcases Nat.eq_zero_or_pos L.length with e|e
 ·obtain⟨A,C,rfl,f1,f2,f3⟩:=how.sl2 enC_size
  have H':=H.below hb
  exact⟨A,C,κ,rfl,H'.md (H'.m.r.s_rob ⟨A,_,C⟩ L ⟨f1,f2,fun h=>absurd h (by simp only;omega)⟩)⟩
 ·obtain⟨g',C,cur,rfl,q1,q2,q3,q4,q5⟩:=how.lies e
  obtain⟨f1,f2,f3⟩:=how.slv enC_size
  have hlt:=(Array.getElem?_eq_some_iff.1 q2).1
  have t:=Tr.color hb H.m.r.lt g' 2 q1 hlt (by decide) 2
  refine⟨_,C,_,rfl,H.toMd t (by decide) (by decide) (by decide) (H.m.r.tr_rob t ⟨some ⟨g',0,none⟩,L.length,C⟩ L ⟨f1,f2,fun _=>⟨g',0,cur,rfl,upd_at _ _ _,q2,by simp only;omega⟩⟩)⟩
end
end Go.Proofs.YtdmhfogegfmnfaaGreatDoor
