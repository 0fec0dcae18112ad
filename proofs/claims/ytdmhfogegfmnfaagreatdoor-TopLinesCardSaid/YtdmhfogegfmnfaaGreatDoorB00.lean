/- The plain data of a core. No conditions. Worlds: what a call leaves behind; structs, whole. No conditions. Structs: what each cell holds, what a store into a cell makes. No conditions. Printed by gen_k1.py. Slices of structs and of words: what they read as. No conditions. Drawn regions that read one struct, beside calls that make memory. No conditions. Slices of the call's .. -/
import Derived.Test.YtdmhfogegfmnfaaGreatDoorChecked
import GoSem.Core.Value
import Derived.IntWalk
import Derived.WalkKit
import Derived.Lib.Hide
import Derived.Below
import Derived.Laws.Rows
import Derived.Laws.CopyOwn
import Derived.Deep.Draws
import Derived.Deep.RegionHeld3
import Derived.Laws.AppendOwn
import Derived.Laws.AppendOwnNone
import Derived.Laws.MakeOwn
import Derived.OwnWalk
set_option linter.unusedVariables false
set_option linter.unusedSimpArgs false
namespace Go.Proofs.YtdmhfogegfmnfaaGreatDoor
open Go.RowKit
structure U where
 v:Int
 lo:0≤v
 hi:v≤4294967295
theorem U.eq_of{a b:U}(h:a.v=b.v):a=b:=by cases a;cases b;cases h;rfl
instance :DecidableEq U:=fun a b=>if h:a.v=b.v then isTrue (U.eq_of h)else isFalse (fun e=>h (by rw[e]))
def U.of(x:Int):U:=⟨x % 4294967296,by omega,by omega⟩
instance :Inhabited U:=⟨U.of 0⟩
abbrev By:=List UInt8
structure Sp where
 p:Int
 s:Int
 deriving DecidableEq,Inhabited
structure In where
 op:Int
 rd:Int
 r1:Int
 r2:Int
 imm:U
 deriving DecidableEq,Inhabited
structure En where
 no:Int
 pc:U
 i:In
 guess:U
 is:Int
 left:Int
 value:U
 next:U
 addr:U
 halt:Int
 took:Int
 known:Bool
 filled:Bool
 deriving DecidableEq,Inhabited
structure Pt where
 addr:U
 data:By
 deriving DecidableEq,Inhabited
structure Rq where
 kind:Int
 line:U
 left:Int
 data:By
 deriving DecidableEq,Inhabited
structure Wy where
 line:U
 dirty:Bool
 data:By
 deriving DecidableEq,Inhabited
structure Ca where
 ways:Int
 sets:List (List Wy)
 deriving DecidableEq,Inhabited
structure Sk where
 pc:U
 next:U
 deriving DecidableEq,Inhabited
structure Gu where
 slots:List Sk
 history:U
 returns:List U
 deriving DecidableEq,Inhabited
structure Fe where
 pc:U
 guess:U
 deriving DecidableEq,Inhabited
structure St where
 pc:U
 next:U
 rd:Int
 value:U
 addr:U
 size:Int
 store:Bool
 halt:Int
 took:Int
 deriving DecidableEq,Inhabited
structure Cf where
 mode:Int
 width:Int
 rob:Int
 queue:Int
 stores:Int
 slots:Int
 sets:Int
 ways:Int
 lat:List Int
 tables:Bool
 tape:List U
 deriving DecidableEq,Inhabited
structure Co where
 conf:Cf
 prog:List U
 cycle:Int
 regs:List U
 fetch:U
 stop:Bool
 fetched:List Fe
 rob:List En
 next:Int
 stores:List Pt
 data:Ca
 words:Ca
 bus:List Rq
 asked:Int
 guessed:Int
 mem:By
 guess:Gu
 halt:Int
 retired:List St
 ph:Nat
 deriving DecidableEq,Inhabited
def bs(l:By):ByteArray:=⟨l.toArray⟩
def spC(e:Sp):Array Value:=#[.int .i64 e.p,.int .i64 e.s]
def inC(i:In):Array Value:=#[.int .i64 i.op,.int .i64 i.rd,.int .i64 i.r1,.int .i64 i.r2,.int .u32 i.imm.v]
def enC(e:En):Array Value:=#[.int .i64 e.no,.int .u32 e.pc.v,.int .i64 e.i.op,.int .i64 e.i.rd,.int .i64 e.i.r1,.int .i64 e.i.r2,.int .u32 e.i.imm.v,.int .u32 e.guess.v,.int .i64 e.is,.int .i64 e.left,.int .u32 e.value.v,.int .u32 e.next.v,.int .u32 e.addr.v,.int .i64 e.halt,.int .i64 e.took,.bool e.known,.bool e.filled]
def ptC(p:Pt):Array Value:=#[.int .u32 p.addr.v,.string (bs p.data)]
def rqC(r:Rq):Array Value:=#[.int .i64 r.kind,.int .u32 r.line.v,.int .i64 r.left,.string (bs r.data)]
def wyC(y:Wy):Array Value:=#[.int .u32 y.line.v,.bool y.dirty,.string (bs y.data)]
def skC(s:Sk):Array Value:=#[.int .u32 s.pc.v,.int .u32 s.next.v]
def feC(f:Fe):Array Value:=#[.int .u32 f.pc.v,.int .u32 f.guess.v]
def stC(s:St):Array Value:=#[.int .u32 s.pc.v,.int .u32 s.next.v,.int .i64 s.rd,.int .u32 s.value.v,.int .u32 s.addr.v,.int .i64 s.size,.bool s.store,.int .i64 s.halt,.int .i64 s.took]
def kd(op:Int):Int:=if 3≤op∧op≤10 then 5 else if 11≤op∧op≤15 then 3 else if 16≤op∧op≤18 then 4 else if 38≤op∧op≤41 then 1 else if 42≤op∧op≤45 then 2 else if op=47∨op=48 then 6 else 0
def sz(op:Int):Int:=if op=11∨op=14∨op=16 then 1 else if op=12∨op=15∨op=17 then 2 else if op=13∨op=18 then 4 else 0
def fm(op:Int):Int:=if op<1∨48<op then 0 else if op≤2 then 6 else if op=3 then 7 else if op=4 then 2 else if op≤10 then 5 else if op≤15 then 2 else if op≤18 then 4 else if op≤24 then 2 else if op≤27 then 3 else if op≤45 then 1 else 8
def hd(f:Int):Bool:=decide (f=1∨f=2∨f=3∨f=6∨f=7)
def h1(f:Int):Bool:=decide (f=1∨f=2∨f=3∨f=4∨f=5)
def h2(f:Int):Bool:=decide (f=1∨f=4∨f=5)
def wr(op rd:Int):Int:=if hd (fm op)then rd else 0
def goE(e:En):En:=
 if e.is≠1 then e
 else if wrap64 (e.left-1)≤0 then { e with left:=0,is:=3,known:=if kd e.i.op=5∧e.halt=0 then true else e.known }
 else { e with left:=wrap64 (e.left-1) }
def more(w:World)(os:Array Obj)(k:Nat):World:={ w with heap:=w.heap++os,drawn:=k }
section
variable (w:World) (os os':Array Obj) (k k' n i g:Nat) (v:Value) (o:Obj) (cs:Array Value) (t:TypeId)
@[go_sem,simp] theorem more_size:(more w os k).heap.size=w.heap.size+os.size:=by simp[more]
theorem more_heap'(h:n<w.heap.size):(more w os k).heap[n]?=w.heap[n]?:=by
 show(w.heap++os)[n]?=_
 rw[Array.getElem?_append_left h]
@[go_sem] theorem more_heap(h:n<w.heap.size):(more w os k).heap[n]?=w.heap[n]?:=more_heap' w os k n h
@[go_sem] theorem more_cell(h:n<w.heap.size):(more w os k).cell? ⟨n,i,none⟩=w.cell? ⟨n,i,none⟩:=World.cell?_of_block (more_heap' w os k n h)
@[go_sem] theorem more_frozen(h:n<w.heap.size):(more w os k).frozen? ⟨n,i,none⟩=w.frozen? ⟨n,i,none⟩:=World.frozen?_of_block (more_heap' w os k n h)
@[go_sem] theorem drew_more:more w.drew os k=more w os k:=(rfl)
theorem more_drewN:(more w os k).drewN n=more w os (k+n):=(rfl)
@[go_sem] theorem drewN_more:more (w.drewN n) os k=more w os k:=(rfl)
@[go_sem] theorem drewN_row:(w.drewN n).setRow g cs=(w.setRow g cs).drewN n:=(rfl)
@[go_sem] theorem drewN_set(a:Addr):(w.drewN n).setCell a v=(w.setCell a v).drewN n:=(rfl)
@[go_sem] theorem drewN_alloc:(w.drewN n).alloc o=(w.alloc o).drewN n:=(rfl)
theorem heap_drewN':(w.drewN n).heap=w.heap:=(rfl)
theorem bl_drewN{B:Nat}{a w:World}(h:Below B a w)(n:Nat):Below B a (w.drewN n):=⟨h.os,h.tape,h.output,h.size,h.block⟩
@[go_sem] theorem more_more:more (more w os k) os' k'=more w (os++os') k':=by simp[more,Array.append_assoc]
theorem modify_append{α:Type}(a b:Array α)(f:α→α)(h:n<a.size):(a++b).modify n f=a.modify n f++b:=by
 apply Array.ext_getElem?
 intro j
 rw[Array.getElem?_modify,Array.getElem?_append,Array.getElem?_append,Array.getElem?_modify,Array.size_modify]
 by_cases hj:n=j
 ·subst hj;simp[h]
 ·simp[hj]
@[go_sem] theorem more_set(h:n<w.heap.size):(more w os k).setCell ⟨n,i,none⟩ v=more (w.setCell ⟨n,i,none⟩ v) os k:=by
 simp only[more,World.setCell,modify_append _ _ _ _ h]
@[go_sem] theorem more_row(h:n<w.heap.size):(more w os k).setRow n cs=more (w.setRow n cs) os k:=by
 simp only[more,World.setRow,modify_append _ _ _ _ h]
theorem push_modify_lt{α:Type}(a:Array α)(b:α)(f:α→α)(h:n<a.size):(a.push b).modify n f=(a.modify n f).push b:=by
 apply Array.ext_getElem?
 intro j
 rw[Array.getElem?_modify,Array.getElem?_push,Array.getElem?_push,Array.getElem?_modify,Array.size_modify]
 by_cases hj:n=j
 ·subst hj;simp[show n≠a.size by omega]
 ·simp[hj]
@[go_sem] theorem alloc_row_past(h:n<w.heap.size):(w.alloc o).setRow n cs=(w.setRow n cs).alloc o:=by
 simp only[World.alloc,World.setRow,push_modify_lt _ _ _ _ h]
theorem push_modify_at{α:Type}(a:Array α)(b:α)(f:α→α)(h:n=a.size):(a.push b).modify n f=a.push (f b):=by
 subst h
 apply Array.ext_getElem?
 intro j
 rw[Array.getElem?_modify,Array.getElem?_push,Array.getElem?_push]
 by_cases hj:j=a.size
 ·subst hj;simp
 ·rw[if_neg hj,if_neg hj,if_neg (fun e=>hj e.symm)]
@[go_sem] theorem alloc_row_at(cur:Array Value)(h:n=w.heap.size):(w.alloc (.cells cur t)).setRow n cs=w.alloc (.cells cs t):=by
 simp only[World.alloc,World.setRow,push_modify_at _ _ _ _ h]
@[go_sem] theorem drew_row:w.drew.setRow n cs=(w.setRow n cs).drew:=(rfl)
@[go_sem] theorem row_size:(w.setRow n cs).heap.size=w.heap.size:=by simp[World.setRow]
@[go_sem] theorem heap_drew':w.drew.heap=w.heap:=(rfl)
theorem heap_at(h:n=w.heap.size):(w.alloc o).heap[n]?=some o:=by subst h;exact heap_alloc_new w o
theorem heap_past(h:n<w.heap.size):(w.alloc o).heap[n]?=w.heap[n]?:=Below.heap_alloc w o n h
theorem row_other(h:g≠n):(w.setRow n cs).heap[g]?=w.heap[g]?:=setRow_other w n g cs h
theorem more_of{w w':World}(h:Below w.heap.size w w'):∃ os k,w'=more w os k:=by
 refine⟨w'.heap.extract w.heap.size w'.heap.size,w'.drawn,?_⟩
 cases w' with
 | mk heap tape drawn os output=>
  have h1:=h.os
  have h2:=h.tape
  have h3:=h.output
  have h4:=h.size
  have h5:=h.block
  simp only at h1 h2 h3 h4 h5
  subst h1;subst h2;subst h3
  unfold more
  congr 1
  apply Array.ext_getElem?
  intro j
  by_cases hj:j<w.heap.size
  ·rw[h5 j hj,Array.getElem?_append_left hj]
  ·rw[Array.getElem?_append_right (by omega),Array.getElem?_extract]
   simp only[Nat.min_self]
   by_cases hk:j<heap.size
   ·rw[if_pos (by show _<heap.size-_;omega)]
    congr 1
    omega
   ·rw[if_neg (by show ¬ _<heap.size-_;omega),Array.getElem?_eq_none (by omega)]
theorem bl_more{B:Nat}{a w:World}(h:Below B a w)(hB:B≤w.heap.size)(os:Array Obj)(k:Nat):Below B a (more w os k):=
 h.trans ⟨rfl,rfl,rfl,by simp,fun j hj=>more_heap' w os k j (by omega)⟩
theorem bl_row{B:Nat}{a w:World}(h:Below B a w){g:Nat}(hB:B≤g)(cs:Array Value):Below B a (w.setRow g cs):=below_setRow h hB cs
end
def IsRow(T n:Nat):Prop:=∃ d,Tryz.prog.underlying T=some d∧(match d with | .struct _ | .array _ _=>true|_=>false)=true∧(Tryz.prog.info? T).map (·.size)=some n
def Ones(cs:Array Value):Prop:=cs.toList.all (·.oneCell')=true
theorem Ones.mem{cs:Array Value}(h:Ones cs):∀ v∈cs.toList,v.oneCell'=true:=List.all_eq_true.1 h
theorem Ones.all{cs:Array Value}(h:Ones cs):cs.all (·.oneCell')=true:=Array.all_eq_true_iff_forall_mem.2 fun v hv=>h.mem v (by simpa using hv)
section
variable {w:World} {ops:Array Oper} {rest:List Oper} {o:Oper} {a:Act} {Q:Exit→Act→World→Prop} {T n:Nat}
theorem load_at(hT:IsRow T n)(g off:Nat)(cs:Array Value)(hs:cs.size=n)(hc:∀ j v,cs[j]?=some v→w.cell? ⟨g,off+j,none⟩=some v):
 (loadVar T ⟨g,off,none⟩).run Tryz.prog w= .ok (.agg cs) w:=by
 obtain⟨d,hu,hd,hi⟩:=hT
 have hl:(loadCells ⟨g,off,none⟩ cs.toList.length).run Tryz.prog w= .ok cs.toList.toArray w:=
  run_loadCells_list (P:=Tryz.prog) w ⟨g,off,none⟩ cs.toList (fun j v hv=>by
   have hadd:(⟨g,off,none⟩:Addr).add j=⟨g,off+j,none⟩:=by unfold Addr.add;split<;>simp_all
   rw[hadd]
   exact hc j v (by simpa using hv))
 cases hq:Tryz.prog.info? T with
 | none=>simp[hq]at hi
 | some i=>
  have hs':i.size=cs.size:=by rw[hs];simpa [hq] using hi
  have hagg:(isAgg T).run Tryz.prog w= .ok true w:=by
   unfold isAgg
   rw[Sem.run_bind,run_underlying hu w]
   cases d<;>simp_all
  simp only[Array.length_toList,Array.toArray_toList]at hl
  simp[loadVar,Sem.run_bind,hagg,sizeOf,typeInfo,hq,hs',hl]
theorem load_row(hT:IsRow T n)(g:Nat)(cs:Array Value)(hs:cs.size=n){t:TypeId}{fr:Nat×Nat}(hg:w.heap[g]?=some (.cells cs t fr)):
 (loadVar T ⟨g,0,none⟩).run Tryz.prog w= .ok (.agg cs) w:=
 load_at hT g 0 cs hs fun j v hv=>by rw[Nat.zero_add,cell_of_row w g j cs t fr hg];exact hv
theorem take_at(hT:IsRow T n)(hgd:o.guard=none)(x:Operand)(ho:o.op= .load T x)(g off:Nat)(hx:a.eval x= .pointer (some ⟨g,off,none⟩))(cs:Array Value)(hs:cs.size=n)
 (hc:∀ j v,cs[j]?=some v→w.cell? ⟨g,off+j,none⟩=some v) (h:wpList Tryz.prog ops Q rest (a.put o.dst (.agg cs)) w):wpList Tryz.prog ops Q (o::rest) a w:=by
 refine wpList_plain hgd fun K hK=>?_
 unfold Oper.wp execOp
 simp only[ho,hx,Instr.loadAt,Instr.sureAddr,Sem.run_bind,Sem.run_pure,Result.andThen_ok,load_at hT g off cs hs hc]
 exact hK _ _ h
theorem take_row(hT:IsRow T n)(hgd:o.guard=none)(x:Operand)(ho:o.op= .load T x)(g:Nat)(hx:a.eval x= .pointer (some ⟨g,0,none⟩))(cs:Array Value)(hs:cs.size=n)
 {t:TypeId} {fr:Nat×Nat} (hg:w.heap[g]?=some (.cells cs t fr)) (h:wpList Tryz.prog ops Q rest (a.put o.dst (.agg cs)) w):wpList Tryz.prog ops Q (o::rest) a w:=
 take_at hT hgd x ho g 0 hx cs hs (fun j v hv=>by rw[Nat.zero_add,cell_of_row w g j cs t fr hg];exact hv) h
theorem store_row(hT:IsRow T n)(hgd:o.guard=none)(x y:Operand)(ho:o.op= .store T x y)(g:Nat)(new:Array Value)(hx:a.eval x= .pointer (some ⟨g,0,none⟩))(hy:a.eval y= .agg new)
 (h1:new.size=n) (hone:Ones new) {t:TypeId} {old:Array Value} (hg:w.heap[g]?=some (.cells old t (0,0))) (h2:old.size=n)
 (h:wpList Tryz.prog ops Q rest (a.put o.dst undef) (w.setRow g new)):wpList Tryz.prog ops Q (o::rest) a w:=by
 refine wpList_plain hgd fun K hK=>?_
 obtain⟨d,hu,hd,hi⟩:=hT
 have hrun:=run_storeVar_row (P:=Tryz.prog) w g t T old new hg (by rw[h1];exact hi) (by omega) hone.all
 unfold Oper.wp execOp
 simp only[ho,hx,hy,Instr.storeAt,Instr.sureAddr,Sem.run_bind,Sem.run_pure,Result.andThen_ok,hrun]
 exact hK _ _ h
theorem alloc_row(z:Array Value)(hz:∀ W:World,(zeroValue T).run Tryz.prog W= .ok (.agg z) W)(hgd:o.guard=none)(ho:o.op= .alloc T)
 (h:wpList Tryz.prog ops Q rest (a.put o.dst (.pointer (some ⟨w.heap.size,0,none⟩))) (w.alloc (.cells z T))):wpList Tryz.prog ops Q (o::rest) a w:=by
 refine wpList_plain hgd fun K hK=>?_
 have hrun:(Instr.alloc T true (.tuple #[])).run Tryz.prog w= .ok (.pointer (some ⟨w.heap.size,0,none⟩)) (w.alloc (.cells z T)):=by
  unfold Instr.alloc newVar newRow
  simp[Sem.run_bind,hz,Value.cells]
 unfold Oper.wp execOp
 simp only[ho,Sem.run_bind,Sem.run_pure,Result.andThen_ok,hrun]
 exact hK _ _ h
theorem ret_row{fn:Func}{R:Ending→World→Prop}{p:Tmp}(hT:IsRow T n)(hr:fn.results=#[.cell p T])(g:Nat)(cs:Array Value)(hp:a.tmps.getD p undef= .pointer (some ⟨g,0,none⟩))(hs:cs.size=n)
 {t:TypeId} {fr:Nat×Nat} (hg:w.heap[g]?=some (.cells cs t fr)) (hd:a.defers=[]) (h:R (.returned (.agg cs)) w):bodyPost Tryz.prog fn R .ret a w:=by
 refine bodyPost_ret (v:=.agg cs) ?_ hd h
 have hp':a.tmps[p]?.getD undef= .pointer (some ⟨g,0,none⟩):=by simpa using hp
 simp[results,hr,hp',asAddr,load_row hT g cs hs hg]
end
theorem row83:IsRow 83 5:=⟨_,Tryz.underlying83,rfl,by kernel_rfl⟩
theorem inC_size(e:In):(inC e).size=5:=(rfl)
theorem inC_ones(e:In):Ones (inC e):=(rfl)
def inZ:In:=⟨0,0,0,0,U.of 0⟩
theorem zero83(w:World):(zeroValue 83).run Tryz.prog w= .ok (.agg (inC inZ)) w:=by kernel_rfl
@[go_sem] theorem inC_0(e:In):(inC e)[0]?=some (.int .i64 e.op):=(rfl)
@[go_sem] theorem inC_1(e:In):(inC e)[1]?=some (.int .i64 e.rd):=(rfl)
@[go_sem] theorem inC_2(e:In):(inC e)[2]?=some (.int .i64 e.r1):=(rfl)
@[go_sem] theorem inC_3(e:In):(inC e)[3]?=some (.int .i64 e.r2):=(rfl)
@[go_sem] theorem inC_4(e:In):(inC e)[4]?=some (.int .u32 e.imm.v):=(rfl)
@[go_sem] theorem inS_0(e:In)(x:Int):(inC e).setIfInBounds 0 (.int .i64 x)=inC { e with op:=x }:=(rfl)
@[go_sem] theorem inS_1(e:In)(x:Int):(inC e).setIfInBounds 1 (.int .i64 x)=inC { e with rd:=x }:=(rfl)
@[go_sem] theorem inS_2(e:In)(x:Int):(inC e).setIfInBounds 2 (.int .i64 x)=inC { e with r1:=x }:=(rfl)
@[go_sem] theorem inS_3(e:In)(x:Int):(inC e).setIfInBounds 3 (.int .i64 x)=inC { e with r2:=x }:=(rfl)
@[go_sem] theorem inS_4(e:In)(x:U):(inC e).setIfInBounds 4 (.int .u32 x.v)=inC { e with imm:=x }:=(rfl)
@[go_sem] theorem inS_4z(e:In):(inC e).setIfInBounds 4 (.int .u32 0)=inC { e with imm:=U.of 0 }:=(rfl)
theorem row214:IsRow 214 2:=⟨_,Tryz.underlying214,rfl,by kernel_rfl⟩
theorem spC_size(e:Sp):(spC e).size=2:=(rfl)
theorem spC_ones(e:Sp):Ones (spC e):=(rfl)
def spZ:Sp:=⟨0,0⟩
theorem zero214(w:World):(zeroValue 214).run Tryz.prog w= .ok (.agg (spC spZ)) w:=by kernel_rfl
@[go_sem] theorem spC_0(e:Sp):(spC e)[0]?=some (.int .i64 e.p):=(rfl)
@[go_sem] theorem spC_1(e:Sp):(spC e)[1]?=some (.int .i64 e.s):=(rfl)
@[go_sem] theorem spS_0(e:Sp)(x:Int):(spC e).setIfInBounds 0 (.int .i64 x)=spC { e with p:=x }:=(rfl)
@[go_sem] theorem spS_1(e:Sp)(x:Int):(spC e).setIfInBounds 1 (.int .i64 x)=spC { e with s:=x }:=(rfl)
theorem row85:IsRow 85 17:=⟨_,Tryz.underlying85,rfl,by kernel_rfl⟩
theorem enC_size(e:En):(enC e).size=17:=(rfl)
theorem enC_ones(e:En):Ones (enC e):=(rfl)
def enZ:En:=⟨0,U.of 0,⟨0,0,0,0,U.of 0⟩,U.of 0,0,0,U.of 0,U.of 0,U.of 0,0,0,false,false⟩
theorem zero85(w:World):(zeroValue 85).run Tryz.prog w= .ok (.agg (enC enZ)) w:=by kernel_rfl
@[go_sem] theorem enC_0(e:En):(enC e)[0]?=some (.int .i64 e.no):=(rfl)
@[go_sem] theorem enC_1(e:En):(enC e)[1]?=some (.int .u32 e.pc.v):=(rfl)
@[go_sem] theorem enC_2(e:En):(enC e)[2]?=some (.int .i64 e.i.op):=(rfl)
@[go_sem] theorem enC_3(e:En):(enC e)[3]?=some (.int .i64 e.i.rd):=(rfl)
@[go_sem] theorem enC_4(e:En):(enC e)[4]?=some (.int .i64 e.i.r1):=(rfl)
@[go_sem] theorem enC_5(e:En):(enC e)[5]?=some (.int .i64 e.i.r2):=(rfl)
@[go_sem] theorem enC_6(e:En):(enC e)[6]?=some (.int .u32 e.i.imm.v):=(rfl)
@[go_sem] theorem enC_7(e:En):(enC e)[7]?=some (.int .u32 e.guess.v):=(rfl)
@[go_sem] theorem enC_8(e:En):(enC e)[8]?=some (.int .i64 e.is):=(rfl)
@[go_sem] theorem enC_9(e:En):(enC e)[9]?=some (.int .i64 e.left):=(rfl)
@[go_sem] theorem enC_10(e:En):(enC e)[10]?=some (.int .u32 e.value.v):=(rfl)
@[go_sem] theorem enC_11(e:En):(enC e)[11]?=some (.int .u32 e.next.v):=(rfl)
@[go_sem] theorem enC_12(e:En):(enC e)[12]?=some (.int .u32 e.addr.v):=(rfl)
@[go_sem] theorem enC_13(e:En):(enC e)[13]?=some (.int .i64 e.halt):=(rfl)
@[go_sem] theorem enC_14(e:En):(enC e)[14]?=some (.int .i64 e.took):=(rfl)
@[go_sem] theorem enC_15(e:En):(enC e)[15]?=some (.bool e.known):=(rfl)
@[go_sem] theorem enC_16(e:En):(enC e)[16]?=some (.bool e.filled):=(rfl)
@[go_sem] theorem enS_0(e:En)(x:Int):(enC e).setIfInBounds 0 (.int .i64 x)=enC { e with no:=x }:=(rfl)
@[go_sem] theorem enS_1(e:En)(x:U):(enC e).setIfInBounds 1 (.int .u32 x.v)=enC { e with pc:=x }:=(rfl)
@[go_sem] theorem enS_1z(e:En):(enC e).setIfInBounds 1 (.int .u32 0)=enC { e with pc:=U.of 0 }:=(rfl)
@[go_sem] theorem enS_2(e:En)(x:Int):(enC e).setIfInBounds 2 (.int .i64 x)=enC { e with i:={ e.i with op:=x } }:=(rfl)
@[go_sem] theorem enS_3(e:En)(x:Int):(enC e).setIfInBounds 3 (.int .i64 x)=enC { e with i:={ e.i with rd:=x } }:=(rfl)
@[go_sem] theorem enS_4(e:En)(x:Int):(enC e).setIfInBounds 4 (.int .i64 x)=enC { e with i:={ e.i with r1:=x } }:=(rfl)
@[go_sem] theorem enS_5(e:En)(x:Int):(enC e).setIfInBounds 5 (.int .i64 x)=enC { e with i:={ e.i with r2:=x } }:=(rfl)
@[go_sem] theorem enS_6(e:En)(x:U):(enC e).setIfInBounds 6 (.int .u32 x.v)=enC { e with i:={ e.i with imm:=x } }:=(rfl)
@[go_sem] theorem enS_6z(e:En):(enC e).setIfInBounds 6 (.int .u32 0)=enC { e with i:={ e.i with imm:=U.of 0 } }:=(rfl)
@[go_sem] theorem enS_7(e:En)(x:U):(enC e).setIfInBounds 7 (.int .u32 x.v)=enC { e with guess:=x }:=(rfl)
@[go_sem] theorem enS_7z(e:En):(enC e).setIfInBounds 7 (.int .u32 0)=enC { e with guess:=U.of 0 }:=(rfl)
@[go_sem] theorem enS_8(e:En)(x:Int):(enC e).setIfInBounds 8 (.int .i64 x)=enC { e with is:=x }:=(rfl)
@[go_sem] theorem enS_9(e:En)(x:Int):(enC e).setIfInBounds 9 (.int .i64 x)=enC { e with left:=x }:=(rfl)
@[go_sem] theorem enS_10(e:En)(x:U):(enC e).setIfInBounds 10 (.int .u32 x.v)=enC { e with value:=x }:=(rfl)
@[go_sem] theorem enS_10z(e:En):(enC e).setIfInBounds 10 (.int .u32 0)=enC { e with value:=U.of 0 }:=(rfl)
@[go_sem] theorem enS_11(e:En)(x:U):(enC e).setIfInBounds 11 (.int .u32 x.v)=enC { e with next:=x }:=(rfl)
@[go_sem] theorem enS_11z(e:En):(enC e).setIfInBounds 11 (.int .u32 0)=enC { e with next:=U.of 0 }:=(rfl)
@[go_sem] theorem enS_12(e:En)(x:U):(enC e).setIfInBounds 12 (.int .u32 x.v)=enC { e with addr:=x }:=(rfl)
@[go_sem] theorem enS_12z(e:En):(enC e).setIfInBounds 12 (.int .u32 0)=enC { e with addr:=U.of 0 }:=(rfl)
@[go_sem] theorem enS_13(e:En)(x:Int):(enC e).setIfInBounds 13 (.int .i64 x)=enC { e with halt:=x }:=(rfl)
@[go_sem] theorem enS_14(e:En)(x:Int):(enC e).setIfInBounds 14 (.int .i64 x)=enC { e with took:=x }:=(rfl)
@[go_sem] theorem enS_15(e:En)(x:Bool):(enC e).setIfInBounds 15 (.bool x)=enC { e with known:=x }:=(rfl)
@[go_sem] theorem enS_16(e:En)(x:Bool):(enC e).setIfInBounds 16 (.bool x)=enC { e with filled:=x }:=(rfl)
theorem row89:IsRow 89 2:=⟨_,Tryz.underlying89,rfl,by kernel_rfl⟩
theorem ptC_size(e:Pt):(ptC e).size=2:=(rfl)
theorem ptC_ones(e:Pt):Ones (ptC e):=(rfl)
def ptZ:Pt:=⟨U.of 0,[]⟩
theorem zero89(w:World):(zeroValue 89).run Tryz.prog w= .ok (.agg (ptC ptZ)) w:=by kernel_rfl
@[go_sem] theorem ptC_0(e:Pt):(ptC e)[0]?=some (.int .u32 e.addr.v):=(rfl)
@[go_sem] theorem ptC_1(e:Pt):(ptC e)[1]?=some (.string (bs e.data)):=(rfl)
@[go_sem] theorem ptS_0(e:Pt)(x:U):(ptC e).setIfInBounds 0 (.int .u32 x.v)=ptC { e with addr:=x }:=(rfl)
@[go_sem] theorem ptS_0z(e:Pt):(ptC e).setIfInBounds 0 (.int .u32 0)=ptC { e with addr:=U.of 0 }:=(rfl)
@[go_sem] theorem ptS_1(e:Pt)(x:By):(ptC e).setIfInBounds 1 (.string (bs x))=ptC { e with data:=x }:=(rfl)
theorem row98:IsRow 98 4:=⟨_,Tryz.underlying98,rfl,by kernel_rfl⟩
theorem rqC_size(e:Rq):(rqC e).size=4:=(rfl)
theorem rqC_ones(e:Rq):Ones (rqC e):=(rfl)
def rqZ:Rq:=⟨0,U.of 0,0,[]⟩
theorem zero98(w:World):(zeroValue 98).run Tryz.prog w= .ok (.agg (rqC rqZ)) w:=by kernel_rfl
@[go_sem] theorem rqC_0(e:Rq):(rqC e)[0]?=some (.int .i64 e.kind):=(rfl)
@[go_sem] theorem rqC_1(e:Rq):(rqC e)[1]?=some (.int .u32 e.line.v):=(rfl)
@[go_sem] theorem rqC_2(e:Rq):(rqC e)[2]?=some (.int .i64 e.left):=(rfl)
@[go_sem] theorem rqC_3(e:Rq):(rqC e)[3]?=some (.string (bs e.data)):=(rfl)
@[go_sem] theorem rqS_0(e:Rq)(x:Int):(rqC e).setIfInBounds 0 (.int .i64 x)=rqC { e with kind:=x }:=(rfl)
@[go_sem] theorem rqS_1(e:Rq)(x:U):(rqC e).setIfInBounds 1 (.int .u32 x.v)=rqC { e with line:=x }:=(rfl)
@[go_sem] theorem rqS_1z(e:Rq):(rqC e).setIfInBounds 1 (.int .u32 0)=rqC { e with line:=U.of 0 }:=(rfl)
@[go_sem] theorem rqS_2(e:Rq)(x:Int):(rqC e).setIfInBounds 2 (.int .i64 x)=rqC { e with left:=x }:=(rfl)
@[go_sem] theorem rqS_3(e:Rq)(x:By):(rqC e).setIfInBounds 3 (.string (bs x))=rqC { e with data:=x }:=(rfl)
theorem row46:IsRow 46 3:=⟨_,Tryz.underlying46,rfl,by kernel_rfl⟩
theorem wyC_size(e:Wy):(wyC e).size=3:=(rfl)
theorem wyC_ones(e:Wy):Ones (wyC e):=(rfl)
def wyZ:Wy:=⟨U.of 0,false,[]⟩
theorem zero46(w:World):(zeroValue 46).run Tryz.prog w= .ok (.agg (wyC wyZ)) w:=by kernel_rfl
@[go_sem] theorem wyC_0(e:Wy):(wyC e)[0]?=some (.int .u32 e.line.v):=(rfl)
@[go_sem] theorem wyC_1(e:Wy):(wyC e)[1]?=some (.bool e.dirty):=(rfl)
@[go_sem] theorem wyC_2(e:Wy):(wyC e)[2]?=some (.string (bs e.data)):=(rfl)
@[go_sem] theorem wyS_0(e:Wy)(x:U):(wyC e).setIfInBounds 0 (.int .u32 x.v)=wyC { e with line:=x }:=(rfl)
@[go_sem] theorem wyS_0z(e:Wy):(wyC e).setIfInBounds 0 (.int .u32 0)=wyC { e with line:=U.of 0 }:=(rfl)
@[go_sem] theorem wyS_1(e:Wy)(x:Bool):(wyC e).setIfInBounds 1 (.bool x)=wyC { e with dirty:=x }:=(rfl)
@[go_sem] theorem wyS_2(e:Wy)(x:By):(wyC e).setIfInBounds 2 (.string (bs x))=wyC { e with data:=x }:=(rfl)
theorem row155:IsRow 155 2:=⟨_,Tryz.underlying155,rfl,by kernel_rfl⟩
theorem skC_size(e:Sk):(skC e).size=2:=(rfl)
theorem skC_ones(e:Sk):Ones (skC e):=(rfl)
def skZ:Sk:=⟨U.of 0,U.of 0⟩
theorem zero155(w:World):(zeroValue 155).run Tryz.prog w= .ok (.agg (skC skZ)) w:=by kernel_rfl
@[go_sem] theorem skC_0(e:Sk):(skC e)[0]?=some (.int .u32 e.pc.v):=(rfl)
@[go_sem] theorem skC_1(e:Sk):(skC e)[1]?=some (.int .u32 e.next.v):=(rfl)
@[go_sem] theorem skS_0(e:Sk)(x:U):(skC e).setIfInBounds 0 (.int .u32 x.v)=skC { e with pc:=x }:=(rfl)
@[go_sem] theorem skS_0z(e:Sk):(skC e).setIfInBounds 0 (.int .u32 0)=skC { e with pc:=U.of 0 }:=(rfl)
@[go_sem] theorem skS_1(e:Sk)(x:U):(skC e).setIfInBounds 1 (.int .u32 x.v)=skC { e with next:=x }:=(rfl)
@[go_sem] theorem skS_1z(e:Sk):(skC e).setIfInBounds 1 (.int .u32 0)=skC { e with next:=U.of 0 }:=(rfl)
theorem row94:IsRow 94 2:=⟨_,Tryz.underlying94,rfl,by kernel_rfl⟩
theorem feC_size(e:Fe):(feC e).size=2:=(rfl)
theorem feC_ones(e:Fe):Ones (feC e):=(rfl)
def feZ:Fe:=⟨U.of 0,U.of 0⟩
@[go_sem] theorem feC_0(e:Fe):(feC e)[0]?=some (.int .u32 e.pc.v):=(rfl)
@[go_sem] theorem feC_1(e:Fe):(feC e)[1]?=some (.int .u32 e.guess.v):=(rfl)
@[go_sem] theorem feS_0(e:Fe)(x:U):(feC e).setIfInBounds 0 (.int .u32 x.v)=feC { e with pc:=x }:=(rfl)
@[go_sem] theorem feS_0z(e:Fe):(feC e).setIfInBounds 0 (.int .u32 0)=feC { e with pc:=U.of 0 }:=(rfl)
@[go_sem] theorem feS_1(e:Fe)(x:U):(feC e).setIfInBounds 1 (.int .u32 x.v)=feC { e with guess:=x }:=(rfl)
@[go_sem] theorem feS_1z(e:Fe):(feC e).setIfInBounds 1 (.int .u32 0)=feC { e with guess:=U.of 0 }:=(rfl)
theorem row58:IsRow 58 9:=⟨_,Tryz.underlying58,rfl,by kernel_rfl⟩
theorem stC_size(e:St):(stC e).size=9:=(rfl)
theorem stC_ones(e:St):Ones (stC e):=(rfl)
def stZ:St:=⟨U.of 0,U.of 0,0,U.of 0,U.of 0,0,false,0,0⟩
theorem zero58(w:World):(zeroValue 58).run Tryz.prog w= .ok (.agg (stC stZ)) w:=by kernel_rfl
@[go_sem] theorem stC_0(e:St):(stC e)[0]?=some (.int .u32 e.pc.v):=(rfl)
@[go_sem] theorem stC_1(e:St):(stC e)[1]?=some (.int .u32 e.next.v):=(rfl)
@[go_sem] theorem stC_2(e:St):(stC e)[2]?=some (.int .i64 e.rd):=(rfl)
@[go_sem] theorem stC_3(e:St):(stC e)[3]?=some (.int .u32 e.value.v):=(rfl)
@[go_sem] theorem stC_4(e:St):(stC e)[4]?=some (.int .u32 e.addr.v):=(rfl)
@[go_sem] theorem stC_5(e:St):(stC e)[5]?=some (.int .i64 e.size):=(rfl)
@[go_sem] theorem stC_6(e:St):(stC e)[6]?=some (.bool e.store):=(rfl)
@[go_sem] theorem stC_7(e:St):(stC e)[7]?=some (.int .i64 e.halt):=(rfl)
@[go_sem] theorem stC_8(e:St):(stC e)[8]?=some (.int .i64 e.took):=(rfl)
@[go_sem] theorem stS_0(e:St)(x:U):(stC e).setIfInBounds 0 (.int .u32 x.v)=stC { e with pc:=x }:=(rfl)
@[go_sem] theorem stS_0z(e:St):(stC e).setIfInBounds 0 (.int .u32 0)=stC { e with pc:=U.of 0 }:=(rfl)
@[go_sem] theorem stS_1(e:St)(x:U):(stC e).setIfInBounds 1 (.int .u32 x.v)=stC { e with next:=x }:=(rfl)
@[go_sem] theorem stS_1z(e:St):(stC e).setIfInBounds 1 (.int .u32 0)=stC { e with next:=U.of 0 }:=(rfl)
@[go_sem] theorem stS_2(e:St)(x:Int):(stC e).setIfInBounds 2 (.int .i64 x)=stC { e with rd:=x }:=(rfl)
@[go_sem] theorem stS_3(e:St)(x:U):(stC e).setIfInBounds 3 (.int .u32 x.v)=stC { e with value:=x }:=(rfl)
@[go_sem] theorem stS_3z(e:St):(stC e).setIfInBounds 3 (.int .u32 0)=stC { e with value:=U.of 0 }:=(rfl)
@[go_sem] theorem stS_4(e:St)(x:U):(stC e).setIfInBounds 4 (.int .u32 x.v)=stC { e with addr:=x }:=(rfl)
@[go_sem] theorem stS_4z(e:St):(stC e).setIfInBounds 4 (.int .u32 0)=stC { e with addr:=U.of 0 }:=(rfl)
@[go_sem] theorem stS_5(e:St)(x:Int):(stC e).setIfInBounds 5 (.int .i64 x)=stC { e with size:=x }:=(rfl)
@[go_sem] theorem stS_6(e:St)(x:Bool):(stC e).setIfInBounds 6 (.bool x)=stC { e with store:=x }:=(rfl)
@[go_sem] theorem stS_7(e:St)(x:Int):(stC e).setIfInBounds 7 (.int .i64 x)=stC { e with halt:=x }:=(rfl)
@[go_sem] theorem stS_8(e:St)(x:Int):(stC e).setIfInBounds 8 (.int .i64 x)=stC { e with took:=x }:=(rfl)
def Sl{α:Type}(lay:α→Array Value)(k:Nat)(w:World)(A:Option Addr)(n:Nat)(L:List α):Prop:=
 L.length=n∧n≤1000000∧(0<n→∃ g off,A=some ⟨g,off,none⟩∧g<w.heap.size∧∀ i x j v,L[i]?=some x→(lay x)[j]?=some v→w.cell? ⟨g,off+i*k+j,none⟩=some v)
def i64C(x:Int):Array Value:=#[.int .i64 x]
def u32C(x:U):Array Value:=#[.int .u32 x.v]
def bolC(x:Bool):Array Value:=#[.bool x]
section
variable {α:Type} {lay:α→Array Value} {k:Nat} {w w':World} {A:Option Addr} {n:Nat} {L:List α}
theorem Sl.len(h:Sl lay k w A n L):L.length=n:=h.1
theorem Sl.few(h:Sl lay k w A n L):n≤1000000:=h.2.1
theorem Sl.none_(A:Option Addr):Sl lay k w A 0 []:=⟨rfl,by omega,fun h=>absurd h (by omega)⟩
theorem Sl.below(h:Sl lay k w A n L)(hb:Below w.heap.size w w'):Sl lay k w' A n L:=by
 refine⟨h.1,h.2.1,fun hn=>?_⟩
 obtain⟨g,off,e,hg,hc⟩:=h.2.2 hn
 refine⟨g,off,e,Nat.lt_of_lt_of_le hg hb.size,fun i x j v hx hv=>?_⟩
 rw[hb.cell (p:=⟨g,_,none⟩) hg]
 exact hc i x j v hx hv
theorem Sl.at_(h:Sl lay k w A n L){i:Nat}(hi:i<n):∃ g off x,A=some ⟨g,off,none⟩∧g<w.heap.size∧L[i]?=some x∧∀ j v,(lay x)[j]?=some v→w.cell? ⟨g,off+i*k+j,none⟩=some v:=by
 obtain⟨g,off,e,hg,hc⟩:=h.2.2 (by omega)
 have hl:i<L.length:=by rw[h.1];exact hi
 exact⟨g,off,L[i],e,hg,List.getElem?_eq_getElem hl,fun j v hv=>hc i _ j v (List.getElem?_eq_getElem hl) hv⟩
theorem Sl.tail{x:α}{cap:Nat}(h:Sl lay k w A n (x::L))(hcap:n≤cap):Sl lay k w (if cap=1 then A else A.map (·.add (1*k))) (n-1) L:=by
 have hl:=h.1
 simp only[List.length_cons]at hl
 refine⟨by omega,by have:=h.2.1;omega,fun hn=>?_⟩
 obtain⟨g,off,rfl,hg,hc⟩:=h.2.2 (by omega)
 rw[if_neg (by omega)]
 refine⟨g,off+k,by simp[Addr.add],hg,fun i y j v hy hv=>?_⟩
 have:=hc (i+1) y j v (by simpa using hy) hv
 rw[show off+(i+1)*k+j=off+k+i*k+j by rw[Nat.add_mul,Nat.one_mul];omega]at this
 exact this
theorem Sl.take(h:Sl lay k w A n L){m:Nat}(hm:m≤n):Sl lay k w A m (L.take m):=by
 refine⟨by rw[List.length_take,h.1];omega,by have:=h.2.1;omega,fun hn=>?_⟩
 obtain⟨g,off,e,hg,hc⟩:=h.2.2 (by omega)
 refine⟨g,off,e,hg,fun i x j v hx hv=>hc i x j v ?_ hv⟩
 rw[List.getElem?_take]at hx
 split at hx
 ·exact hx
 ·cases hx
def flat(lay:α→Array Value)(L:List α):Array Value:=(L.flatMap fun x=>(lay x).toList).toArray
theorem flat_get(hk:∀ x,(lay x).size=k):∀(L:List α) (i:Nat) (x:α) (j:Nat) (v:Value),L[i]?=some x→(lay x)[j]?=some v→(L.flatMap fun x=>(lay x).toList)[i*k+j]?=some v
 | [],i,x,j,v,h,_=>by simp at h
 | y::L,0,x,j,v,h,hv=>by
  simp only[List.getElem?_cons_zero,Option.some.injEq]at h
  subst h
  have hj:j<(lay y).size:=(Array.getElem?_eq_some_iff.1 hv).1
  rw[List.flatMap_cons,Nat.zero_mul,Nat.zero_add,List.getElem?_append_left (by simpa using hj)]
  simpa using hv
 | y::L,i+1,x,j,v,h,hv=>by
  simp only[List.getElem?_cons_succ]at h
  have:=flat_get hk L i x j v h hv
  rw[List.flatMap_cons,List.getElem?_append_right (by simp[hk,Nat.add_mul];omega)]
  rw[show(i+1)*k+j-(lay y).toList.length=i*k+j by simp[hk,Nat.add_mul];omega]
  exact this
theorem flat_size(hk:∀ x,(lay x).size=k)(L:List α):(flat lay L).size=L.length*k:=by
 unfold flat
 induction L with
 | nil=>simp
 | cons x L ih=>
  simp only[List.size_toArray,List.flatMap_cons,List.length_append,List.length_cons]at ih ⊢
  rw[ih]
  simp[hk,Nat.add_mul,Nat.add_comm]
theorem Sl.new{g:Nat}{t:TypeId}{fr:Nat×Nat}(hk:∀ x,(lay x).size=k)(hg:w.heap[g]?=some (.cells (flat lay L) t fr))(hn:L.length≤1000000):Sl lay k w (some ⟨g,0,none⟩) L.length L:=by
 refine⟨rfl,hn,fun _=>⟨g,0,rfl,(Array.getElem?_eq_some_iff.1 hg).1,fun i x j v hx hv=>?_⟩⟩
 rw[Nat.zero_add,cell_of_row w g _ _ t fr hg]
 have:=flat_get hk L i x j v hx hv
 simpa [flat] using this
end
theorem take_el{α:Type}{lay:α→Array Value}{k:Nat}{w:World}{ops:Array Oper}{rest:List Oper}{o:Oper}{a:Act}{Q:Exit→Act→World→Prop}{T:Nat}(hT:IsRow T k)(hgd:o.guard=none)(x:Operand)(ho:o.op= .load T x)
 (g off:Nat) (hx:a.eval x= .pointer (some ⟨g,off,none⟩)) (e:α) (hs:(lay e).size=k) (hc:∀ j v,(lay e)[j]?=some v→w.cell? ⟨g,off+j,none⟩=some v)
 (h:wpList Tryz.prog ops Q rest (a.put o.dst (.agg (lay e))) w):wpList Tryz.prog ops Q (o::rest) a w:=
 take_at hT hgd x ho g off hx (lay e) hs hc h
theorem wp_named{P:Program}{c:Code}{Q:Exit→Act→World→Prop}{a:Act}{w:World}(h:∀ W,W=w→c.wp P Q a W):c.wp P Q a w:=h w rfl
def RowAt(w:World)(g:Nat)(cs:Array Value):Prop:=∀ j,w.cell? ⟨g,j,none⟩=cs[j]?
theorem RowAt.of{w:World}{g:Nat}{cs:Array Value}{t:TypeId}{fr:Nat×Nat}(h:w.heap[g]?=some (.cells cs t fr)):RowAt w g cs:=fun j=>cell_of_row w g j cs t fr h
theorem keepR{W w w':World}{g:Nat}{cs:Array Value}(h:(∀ j,w.cell? ⟨g,j,none⟩=cs[j]?)∧Below W.heap.size W w)(hb:Below w.heap.size w w')(hg:g<W.heap.size):(∀ j,w'.cell? ⟨g,j,none⟩=cs[j]?)∧Below W.heap.size W w':=by
 have hs:=h.2.size
 exact⟨fun j=>(hb.cell (p:=⟨g,j,none⟩) (by show g<_;omega)).trans (h.1 j),h.2.trans (hb.mono hs)⟩
theorem startRd{W:World}{g:Nat}{cs:Array Value}(h:RowAt W g cs):(∀ j,W.drew.cell? ⟨g,j,none⟩=cs[j]?)∧Below W.heap.size W W.drew:=⟨h,(Below.refl _ _).drew⟩
theorem keep2{W w w':World}{g g2:Nat}{cs cs2:Array Value}(h:(∀ j,w.cell? ⟨g,j,none⟩=cs[j]?)∧(∀ j,w.cell? ⟨g2,j,none⟩=cs2[j]?)∧Below W.heap.size W w)(hb:Below w.heap.size w w')(hg:g<W.heap.size)(hg2:g2<W.heap.size):(∀ j,w'.cell? ⟨g,j,none⟩=cs[j]?)∧(∀ j,w'.cell? ⟨g2,j,none⟩=cs2[j]?)∧Below W.heap.size W w':=by
 have hs:=h.2.2.size
 exact⟨fun j=>(hb.cell (p:=⟨g,j,none⟩) (by show g<_;omega)).trans (h.1 j),fun j=>(hb.cell (p:=⟨g2,j,none⟩) (by show g2<_;omega)).trans (h.2.1 j),h.2.2.trans (hb.mono hs)⟩
theorem start2d{W:World}{g g2:Nat}{cs cs2:Array Value}(h:RowAt W g cs)(h2:RowAt W g2 cs2):(∀ j,W.drew.cell? ⟨g,j,none⟩=cs[j]?)∧(∀ j,W.drew.cell? ⟨g2,j,none⟩=cs2[j]?)∧Below W.heap.size W W.drew:=⟨h,h2,(Below.refl _ _).drew⟩
def SlT(t e:TypeId)(k:Nat):Prop:=Tryz.prog.underlying t=some (.slice e)∧∃ z,(Tryz.prog.info? e).map (fun i=>(i.zero,i.size,decide (i.bytes≤1000)))=some (some z,k,true)∧z.cells.size=k∧0<k
def Ow{α:Type}(lay:α→Array Value)(k:Nat)(w:World)(base:Nat)(e:TypeId)(v:Value)(L:List α):Prop:=w.ownsRow base e k v L.length (flat lay L).toList∧L.length≤1000000
section
variable {α:Type} {lay:α→Array Value} {k:Nat} {w w':World} {base:Nat} {e:TypeId} {v:Value} {L M:List α}
theorem flat_list(L:List α):(flat lay L).toList=L.flatMap fun x=>(lay x).toList:=by simp[flat]
theorem flat_app(L M:List α):(flat lay (L++M)).toList=(flat lay L).toList++(flat lay M).toList:=by simp[flat]
theorem Ow.nil(w:World)(base:Nat)(e:TypeId):Ow lay k w base e (.slice none 0 0) ([]:List α):=⟨⟨by simp[flat],.inl ⟨rfl,rfl⟩⟩,by simp⟩
theorem Ow.sl(h:Ow lay k w base e v L)(hk:∀ x,(lay x).size=k):∃ A C,v= .slice A L.length C∧Sl lay k w A L.length L∧(A=none→C=0)∧(∀ p,A=some p→base≤p.block)∧L.length≤C:=by
 obtain⟨⟨hl,h⟩,hn⟩:=h
 rcases h with⟨rfl,h0⟩|⟨g,cap,cur,rfl,hb,hg,hc,_,hs,ht⟩
 ·have:L=[]:=List.eq_nil_of_length_eq_zero h0
  subst this
  exact⟨none,0,rfl,Sl.none_ _,fun _=>rfl,(fun _ h=>by cases h),by simp⟩
 ·refine⟨some ⟨g,0,none⟩,cap,rfl,⟨rfl,hn,fun h0=>⟨g,0,rfl,(Array.getElem?_eq_some_iff.1 hg).1,fun i x j u hx hu=>?_⟩⟩,(fun h=>by cases h),(fun p hp=>by cases hp;exact hb),hc⟩
  rw[Nat.zero_add,cell_of_row w g _ _ e _ hg]
  have h1:=flat_get hk L i x j u hx hu
  have hu':=(Array.getElem?_eq_some_iff.1 hu).1
  have hi:=(List.getElem?_eq_some_iff.1 hx).1
  have hlt:i*k+j<L.length*k:=by
   have:(i+1)*k≤L.length*k:=Nat.mul_le_mul_right k (by omega)
   rw[Nat.add_mul,Nat.one_mul]at this
   have:=hk x
   omega
  rw[← flat_list,← ht,List.getElem?_take]at h1
  rw[if_pos hlt]at h1
  simpa using h1
theorem info_k{t:Nat}(h:SlT t e k):∃ i z,Tryz.prog.underlying t=some (.slice e)∧Tryz.prog.info? e=some i∧i.zero=some z∧i.size=k∧z.cells.size=k∧0<k∧i.bytes≤1000:=by
 obtain⟨hu,z,hi,hz,hk⟩:=h
 obtain⟨i,h1,h2⟩:=Option.map_eq_some_iff.1 hi
 simp only[Prod.mk.injEq]at h2
 exact⟨i,z,hu,h1,h2.1,h2.2.1,hz,hk,of_decide_eq_true h2.2.2⟩
theorem ones_flat(h1:∀ x,Ones (lay x))(L:List α):∀ u∈(flat lay L).toList,u.oneCell'=true:=by
 intro u hu
 rw[flat_list,List.mem_flatMap]at hu
 obtain⟨x,_,hx⟩:=hu
 exact(h1 x).mem u hx
theorem Ow.below{w2:World}(h:Ow lay k w base e v L)(hb:Below w.heap.size w w2):Ow lay k w2 base e v L:=by
 obtain⟨⟨hl,h⟩,hn⟩:=h
 refine⟨⟨hl,?_⟩,hn⟩
 rcases h with h|⟨g,cap,cur,hv,hb',hg,r⟩
 ·exact .inl h
 ·exact .inr ⟨g,cap,cur,hv,hb',(hb.block g (Array.getElem?_eq_some_iff.1 hg).1).trans hg,r⟩
theorem bl_own{B:Nat}{a w w':World}{row:Option Nat}(h:Below B a w)(hg:w.grownBy w' row)(hB:B≤w.heap.size)(hr:∀ k,row=some k→B≤k):Below B a w':=h.grown hg hB hr
theorem Ow.row(h:Ow lay k w base e v L):∀ b,v.ownBlock=some b→base≤b:=by
 intro b hb
 rcases h.1.2 with⟨rfl,_⟩|⟨g,cap,cur,rfl,h1,_⟩
 ·cases hb
 ·simp[Value.ownBlock]at hb;omega
theorem Sl.drop{g off n C i:Nat}{A':Option Addr}(h:Sl lay k w (some ⟨g,off,none⟩) n L)(hi:i≤n)(hC:n≤C)(hA:¬ C=i→A'=some ⟨g,off+i*k,none⟩):Sl lay k w A' (n-i) (L.drop i):=by
 refine⟨by rw[List.length_drop,h.1],by have:=h.2.1;omega,fun hn=>?_⟩
 obtain⟨g',off',e,hg,hc⟩:=h.2.2 (by omega)
 cases e
 refine⟨g,off+i*k,hA (by omega),hg,fun j x m v hx hv=>?_⟩
 rw[List.getElem?_drop]at hx
 have:=hc (i+j) x m v hx hv
 rw[show off+(i+j)*k+m=off+i*k+j*k+m by rw[Nat.add_mul];omega]at this
 exact this
def OwP(lay:α→Array Value)(k:Nat)(e:TypeId)(L:List α)(w:World)(r:Ending)(w':World):Prop:=∃ v,r= .returned v∧Ow lay k w' w.heap.size e v L∧Below w.heap.size w w'
variable {ops:Array Oper} {rest:List Oper} {o:Oper} {a:Act} {Q:Exit→Act→World→Prop}
theorem app_sl{t:Nat}(hT:SlT t e k)(hk:∀ x,(lay x).size=k)(h1:∀ x,Ones (lay x))(hgd:o.guard=none)(s x:Operand)(ho:o.op= .call { callee:=.builtin .append,args:=#[s,x],argTypes:=#[t,t] })
 (base:Nat) (v:Value) (L:List α) (hs:a.eval s=v) (hown:Ow lay k w base e v L) (A:Option Addr) (m C:Nat) (M:List α) (hx:a.eval x= .slice A m C) (hM:Sl lay k w A m M) (hA:A=none→C=0) (hlen:L.length+m≤1000000) (hbase:base≤w.heap.size)
 (h:∀ v' w',Ow lay k w' base e v' (L++M)→w.grownBy w' v.ownBlock→wpList Tryz.prog ops Q rest (a.put o.dst v') w'):wpList Tryz.prog ops Q (o::rest) a w:=by
 obtain⟨i,z,hu,hi,hz,hsz,hzs,hk0,hb⟩:=info_k hT
 have hml:=hM.len
 have fin:∀ ad,A=some ad→wpList Tryz.prog ops Q (o::rest) a w:=fun ad e1=>by
  subst e1
  refine wpList_append_own w hgd s x t ho base e i z k i.bytes hu hi hz hsz rfl hzs hk0 v L.length _ hs hown.1 ad m C (flat lay M).toList hx (by rw[Array.length_toList,flat_size hk,hml]) (fun j u hj=>?_) (ones_flat h1 M) (by show _≤9223372036854775807;omega) ?_ hbase ?_
  ·by_cases h0:0<m
   ·obtain⟨g,off,e2,hg,hc⟩:=hM.2.2 h0
    cases e2
    have hj':=(List.getElem?_eq_some_iff.1 hj).1
    rw[Array.length_toList,flat_size hk,hml]at hj'
    have q:j / k<m:=Nat.div_lt_of_lt_mul (by rw[Nat.mul_comm];exact hj')
    have hq:j / k<M.length:=by omega
    have r:j % k<(lay M[j / k]).size:=by rw[hk];exact Nat.mod_lt _ hk0
    have hadd:(⟨g,off,none⟩:Addr).add j=⟨g,off+j,none⟩:=by unfold Addr.add;split<;>simp_all
    rw[hadd]
    have h3:=hc (j / k) _ (j % k) (lay M[j / k])[j % k] (List.getElem?_eq_getElem hq) (Array.getElem?_eq_getElem r)
    have h4:=flat_get hk M (j / k) _ (j % k) (lay M[j / k])[j % k] (List.getElem?_eq_getElem hq) (Array.getElem?_eq_getElem r)
    have e3:j / k*k+j % k=j:=by rw[Nat.mul_comm];exact Nat.div_add_mod j k
    rw[flat_list]at hj
    rw[e3,hj]at h4
    rw[show off+j / k*k+j % k=off+j by omega]at h3
    rw[h3]
    exact h4.symm
   ·have:M=[]:=List.eq_nil_of_length_eq_zero (by omega)
    subst this
    simp[flat]at hj
  ·have:(L.length+m)*i.bytes≤1000000*1000:=Nat.mul_le_mul hlen hb
   omega
  ·intro v' w' ho' hg' _
   exact h v' w' ⟨by rw[List.length_append,hml,flat_app];exact ho',by rw[List.length_append,hml];exact hlen⟩ hg'
 cases A with
 | some ad=>exact fin ad rfl
 | none=>
  have hm0:m=0:=by
   rcases Nat.eq_zero_or_pos m with h0|h0
   ·exact h0
   ·obtain⟨_,_,e2,_⟩:=hM.2.2 h0;cases e2
  subst hm0
  have hM0:M=[]:=List.eq_nil_of_length_eq_zero hml
  subst hM0
  rw[hA rfl]at hx
  refine wpList_append_own_none hgd s x t ho base e i k hu hi v L.length _ hs hown.1 hx ?_
  exact h v w (by rw[List.append_nil];exact hown) (World.grownBy.refl _ _)
theorem make_sl{t:Nat}(hT:SlT t e k)(hgd:o.guard=none)(l c:Operand)(ho:o.op= .makeSlice t l c)(base:Nat)(kl kc:IntKind)(n:Nat)(C:Int)(hl:a.eval l= .int kl 0)(hc:a.eval c= .int kc C)(hC:C=(n:Int))(hn:n≤1000000)(hbase:base≤w.heap.size)
 (h:∀ v' w',Ow lay k w' base e v' ([]:List α)→w.grownBy w' none→wpList Tryz.prog ops Q rest (a.put o.dst v') w'):wpList Tryz.prog ops Q (o::rest) a w:=by
 obtain⟨i,z,hu,hi,hz,hsz,hzs,hk0,hb⟩:=info_k hT
 have hm:i.bytes*n≤1000*1000000:=Nat.mul_le_mul (by omega) hn
 refine wpList_make_own w hgd l c t ho base e i z k hu hi hz hsz kl kc C n hl hc hC (by omega) (by show _≤9223372036854775807;omega) hbase ?_
 intro w' h1 h2
 exact h _ w' ⟨by simpa [flat] using h1,by simp⟩ h2
theorem full_sl{t:Nat}(hT:SlT t e k)(x0:α)(hz0:(Tryz.prog.info? e).map (fun i=>i.zero.map (·.cells))=some (some (lay x0)))(hk:∀ x,(lay x).size=k)(hgd:o.guard=none)(l c:Operand)(ho:o.op= .makeSlice t l c)(base:Nat)(kl kc:IntKind)(n:Nat)(C D:Int)(hl:a.eval l= .int kl D)(hc:a.eval c= .int kc C)(hD:D=(n:Int))(hC:C=(n:Int))(hn:n≤1000000)(hbase:base≤w.heap.size)
 (h:∀ v' w',Ow lay k w' base e v' (List.replicate n x0)→v'= .slice (some ⟨w.heap.size,0,none⟩) n n→w.grownBy w' none→wpList Tryz.prog ops Q rest (a.put o.dst v') w'):wpList Tryz.prog ops Q (o::rest) a w:=by
 obtain⟨i,z,hu,hi,hz,hsz,hzs,hk0,hb⟩:=info_k hT
 have hm:i.bytes*n≤1000*1000000:=Nat.mul_le_mul (by omega) hn
 refine wpList_make_full w hgd l c t ho base e i z k hu hi hz hsz kl kc D C n hl hc hD hC (by omega) (by show _≤9223372036854775807;omega) hbase ?_
 intro w' h1 h2
 have hzc:z.cells=lay x0:=by simpa [hi,hz] using hz0
 have e1:(madeCells z.cells (n*k)).toList=(flat lay (List.replicate n x0)).toList:=by
  apply List.ext_getElem?
  intro j
  by_cases hj:j<n*k
  ·have q:j / k<n:=Nat.div_lt_of_lt_mul (by rw[Nat.mul_comm];exact hj)
   have r:j % k<(lay x0).size:=by rw[hk];exact Nat.mod_lt _ hk0
   have h4:=flat_get hk (List.replicate n x0) (j / k) x0 (j % k) (lay x0)[j % k] (by simp[q]) (Array.getElem?_eq_getElem r)
   have e3:j / k*k+j % k=j:=by rw[Nat.mul_comm];exact Nat.div_add_mod j k
   rw[e3]at h4
   rw[flat_list,h4]
   simp[madeCells,hj,hzc,hk]
   rw[getElem!_pos (lay x0) (j % k) r]
  ·rw[List.getElem?_eq_none (by simp[size_madeCells];omega),List.getElem?_eq_none (by rw[Array.length_toList,flat_size hk];simp;omega)]
 rw[e1]at h1
 exact h _ w' ⟨by simpa using h1,by simpa using hn⟩ rfl h2
end
theorem slT51:SlT 51 46 3:=⟨Tryz.underlying51,.agg (wyC wyZ),by kernel_rfl,by kernel_rfl,by decide⟩
theorem slT33:SlT 33 51 1:=⟨Tryz.underlying33,.slice none 0 0,by kernel_rfl,by kernel_rfl,by decide⟩
theorem slT36:SlT 36 98 4:=⟨Tryz.underlying36,.agg (rqC rqZ),by kernel_rfl,by kernel_rfl,by decide⟩
theorem slT22:SlT 22 3 1:=⟨Tryz.underlying22,.int .i64 0,by kernel_rfl,by kernel_rfl,by decide⟩
theorem slT23:SlT 23 28 1:=⟨Tryz.underlying23,.int .u32 0,by kernel_rfl,by kernel_rfl,by decide⟩
@[go_sem] theorem inG_0(e:In)(h:0<(inC e).size):(inC e)[0]'h= .int .i64 e.op:=(rfl)
@[go_sem] theorem inG_1(e:In)(h:1<(inC e).size):(inC e)[1]'h= .int .i64 e.rd:=(rfl)
@[go_sem] theorem inG_2(e:In)(h:2<(inC e).size):(inC e)[2]'h= .int .i64 e.r1:=(rfl)
@[go_sem] theorem inG_3(e:In)(h:3<(inC e).size):(inC e)[3]'h= .int .i64 e.r2:=(rfl)
@[go_sem] theorem inG_4(e:In)(h:4<(inC e).size):(inC e)[4]'h= .int .u32 e.imm.v:=(rfl)
@[go_sem] theorem spG_0(e:Sp)(h:0<(spC e).size):(spC e)[0]'h= .int .i64 e.p:=(rfl)
@[go_sem] theorem spG_1(e:Sp)(h:1<(spC e).size):(spC e)[1]'h= .int .i64 e.s:=(rfl)
@[go_sem] theorem enG_0(e:En)(h:0<(enC e).size):(enC e)[0]'h= .int .i64 e.no:=(rfl)
@[go_sem] theorem enG_1(e:En)(h:1<(enC e).size):(enC e)[1]'h= .int .u32 e.pc.v:=(rfl)
@[go_sem] theorem enG_2(e:En)(h:2<(enC e).size):(enC e)[2]'h= .int .i64 e.i.op:=(rfl)
@[go_sem] theorem enG_3(e:En)(h:3<(enC e).size):(enC e)[3]'h= .int .i64 e.i.rd:=(rfl)
@[go_sem] theorem enG_4(e:En)(h:4<(enC e).size):(enC e)[4]'h= .int .i64 e.i.r1:=(rfl)
@[go_sem] theorem enG_5(e:En)(h:5<(enC e).size):(enC e)[5]'h= .int .i64 e.i.r2:=(rfl)
@[go_sem] theorem enG_6(e:En)(h:6<(enC e).size):(enC e)[6]'h= .int .u32 e.i.imm.v:=(rfl)
@[go_sem] theorem enG_7(e:En)(h:7<(enC e).size):(enC e)[7]'h= .int .u32 e.guess.v:=(rfl)
@[go_sem] theorem enG_8(e:En)(h:8<(enC e).size):(enC e)[8]'h= .int .i64 e.is:=(rfl)
@[go_sem] theorem enG_9(e:En)(h:9<(enC e).size):(enC e)[9]'h= .int .i64 e.left:=(rfl)
@[go_sem] theorem enG_10(e:En)(h:10<(enC e).size):(enC e)[10]'h= .int .u32 e.value.v:=(rfl)
@[go_sem] theorem enG_11(e:En)(h:11<(enC e).size):(enC e)[11]'h= .int .u32 e.next.v:=(rfl)
@[go_sem] theorem enG_12(e:En)(h:12<(enC e).size):(enC e)[12]'h= .int .u32 e.addr.v:=(rfl)
@[go_sem] theorem enG_13(e:En)(h:13<(enC e).size):(enC e)[13]'h= .int .i64 e.halt:=(rfl)
@[go_sem] theorem enG_14(e:En)(h:14<(enC e).size):(enC e)[14]'h= .int .i64 e.took:=(rfl)
@[go_sem] theorem enG_15(e:En)(h:15<(enC e).size):(enC e)[15]'h= .bool e.known:=(rfl)
@[go_sem] theorem enG_16(e:En)(h:16<(enC e).size):(enC e)[16]'h= .bool e.filled:=(rfl)
@[go_sem] theorem ptG_0(e:Pt)(h:0<(ptC e).size):(ptC e)[0]'h= .int .u32 e.addr.v:=(rfl)
@[go_sem] theorem ptG_1(e:Pt)(h:1<(ptC e).size):(ptC e)[1]'h= .string (bs e.data):=(rfl)
@[go_sem] theorem rqG_0(e:Rq)(h:0<(rqC e).size):(rqC e)[0]'h= .int .i64 e.kind:=(rfl)
@[go_sem] theorem rqG_1(e:Rq)(h:1<(rqC e).size):(rqC e)[1]'h= .int .u32 e.line.v:=(rfl)
@[go_sem] theorem rqG_2(e:Rq)(h:2<(rqC e).size):(rqC e)[2]'h= .int .i64 e.left:=(rfl)
@[go_sem] theorem rqG_3(e:Rq)(h:3<(rqC e).size):(rqC e)[3]'h= .string (bs e.data):=(rfl)
@[go_sem] theorem wyG_0(e:Wy)(h:0<(wyC e).size):(wyC e)[0]'h= .int .u32 e.line.v:=(rfl)
@[go_sem] theorem wyG_1(e:Wy)(h:1<(wyC e).size):(wyC e)[1]'h= .bool e.dirty:=(rfl)
@[go_sem] theorem wyG_2(e:Wy)(h:2<(wyC e).size):(wyC e)[2]'h= .string (bs e.data):=(rfl)
@[go_sem] theorem skG_0(e:Sk)(h:0<(skC e).size):(skC e)[0]'h= .int .u32 e.pc.v:=(rfl)
@[go_sem] theorem skG_1(e:Sk)(h:1<(skC e).size):(skC e)[1]'h= .int .u32 e.next.v:=(rfl)
@[go_sem] theorem feG_0(e:Fe)(h:0<(feC e).size):(feC e)[0]'h= .int .u32 e.pc.v:=(rfl)
@[go_sem] theorem feG_1(e:Fe)(h:1<(feC e).size):(feC e)[1]'h= .int .u32 e.guess.v:=(rfl)
@[go_sem] theorem stG_0(e:St)(h:0<(stC e).size):(stC e)[0]'h= .int .u32 e.pc.v:=(rfl)
@[go_sem] theorem stG_1(e:St)(h:1<(stC e).size):(stC e)[1]'h= .int .u32 e.next.v:=(rfl)
@[go_sem] theorem stG_2(e:St)(h:2<(stC e).size):(stC e)[2]'h= .int .i64 e.rd:=(rfl)
@[go_sem] theorem stG_3(e:St)(h:3<(stC e).size):(stC e)[3]'h= .int .u32 e.value.v:=(rfl)
@[go_sem] theorem stG_4(e:St)(h:4<(stC e).size):(stC e)[4]'h= .int .u32 e.addr.v:=(rfl)
@[go_sem] theorem stG_5(e:St)(h:5<(stC e).size):(stC e)[5]'h= .int .i64 e.size:=(rfl)
@[go_sem] theorem stG_6(e:St)(h:6<(stC e).size):(stC e)[6]'h= .bool e.store:=(rfl)
@[go_sem] theorem stG_7(e:St)(h:7<(stC e).size):(stC e)[7]'h= .int .i64 e.halt:=(rfl)
@[go_sem] theorem stG_8(e:St)(h:8<(stC e).size):(stC e)[8]'h= .int .i64 e.took:=(rfl)
@[go_sem] theorem inC_size'(e:In):(inC e).size=5:=(rfl)
@[go_sem] theorem spC_size'(e:Sp):(spC e).size=2:=(rfl)
@[go_sem] theorem enC_size'(e:En):(enC e).size=17:=(rfl)
@[go_sem] theorem ptC_size'(e:Pt):(ptC e).size=2:=(rfl)
@[go_sem] theorem rqC_size'(e:Rq):(rqC e).size=4:=(rfl)
@[go_sem] theorem wyC_size'(e:Wy):(wyC e).size=3:=(rfl)
@[go_sem] theorem skC_size'(e:Sk):(skC e).size=2:=(rfl)
@[go_sem] theorem feC_size'(e:Fe):(feC e).size=2:=(rfl)
@[go_sem] theorem stC_size'(e:St):(stC e).size=9:=(rfl)
structure Sv where
 a:Option Addr
 n:Nat
 c:Nat
def svC(s:Sv):Array Value:=#[.slice s.a s.n s.c]
theorem svC_size(s:Sv):(svC s).size=1:=(rfl)
theorem svC_ones(s:Sv):Ones (svC s):=(rfl)
structure Wf(a:Option Addr)(n c:Nat):Prop where
 nil:a=none→c=0
 le:n≤c
 few:c≤9223372036854775807
theorem Wf.zero:Wf none 0 0:=⟨fun _=>rfl,Nat.le_refl _,by omega⟩
@[reducible] def caV(ways:Int)(s:Sv):Value:=.agg #[.int .i64 ways,.slice s.a s.n s.c]
def Sets(w:World)(T:List Sv)(S:List (List Wy)):Prop:=T.length=S.length∧∀(i:Nat) (t:Sv) (L:List Wy),T[i]?=some t→S[i]?=some L→Sl wyC 3 w t.a t.n L∧Wf t.a t.n t.c
def CaR(w:World)(s:Sv)(c:Ca):Prop:=∃ T,Sl svC 1 w s.a s.n T∧Wf s.a s.n s.c∧Sets w T c.sets
section
variable {w w':World} {s:Sv} {c:Ca} {T:List Sv} {S:List (List Wy)}
theorem Sets.below(h:Sets w T S)(hb:Below w.heap.size w w'):Sets w' T S:=⟨h.1,fun i t L ht hL=>⟨(h.2 i t L ht hL).1.below hb,(h.2 i t L ht hL).2⟩⟩
theorem CaR.below(h:CaR w s c)(hb:Below w.heap.size w w'):CaR w' s c:=by
 obtain⟨T,h1,h2,h3⟩:=h
 exact⟨T,h1.below hb,h2,h3.below hb⟩
theorem CaR.len(h:CaR w s c):c.sets.length=s.n:=by
 obtain⟨T,h1,_,h3⟩:=h
 rw[← h3.1,h1.len]
theorem CaR.few(h:CaR w s c):s.n≤1000000:=by
 obtain⟨T,h1,_,h3⟩:=h
 exact h1.few
theorem CaR.wf(h:CaR w s c):Wf s.a s.n s.c:=by
 obtain⟨T,h1,h2,h3⟩:=h
 exact h2
theorem CaR.at_(h:CaR w s c){i:Nat}(hi:i<s.n):∃(g off:Nat) (t:Sv) (L:List Wy),s.a=some ⟨g,off,none⟩∧g<w.heap.size∧c.sets[i]?=some L∧w.cell? ⟨g,off+i,none⟩=some (.slice t.a t.n t.c)∧Sl wyC 3 w t.a t.n L∧Wf t.a t.n t.c:=by
 obtain⟨T,h1,h2,h3⟩:=h
 obtain⟨g,off,t,ha,hg,ht,hc⟩:=h1.at_ hi
 have hl:i<c.sets.length:=by rw[← h3.1,h1.len];exact hi
 obtain⟨h4,h5⟩:=h3.2 i t _ ht (List.getElem?_eq_getElem hl)
 exact⟨g,off,t,_,ha,hg,List.getElem?_eq_getElem hl,by simpa using hc 0 (.slice t.a t.n t.c) rfl,h4,h5⟩
end
end Go.Proofs.YtdmhfogegfmnfaaGreatDoor
