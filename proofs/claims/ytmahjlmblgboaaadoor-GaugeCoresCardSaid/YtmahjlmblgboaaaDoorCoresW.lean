/- The walk of the statement GaugeCores. Conditions: the slice has no more elements than places; the table of the powers of ten reads as it is laid. -/
import Derived.Test.YtmahjlmblgboaaaDoorArgs
import Derived.Test.YtmahjlmblgboaaaDoorG4
import Derived.Laws.CopyOwn
namespace Go.Proofs.YtmahjlmblgboaaaDoor
open Go.RowKit Go.ChangeShapes Go.WideShapes Go.ChangeAt
set_option linter.unusedVariables false
/-- a core's cells: its cycle and what retired; all else at zero -/
def coreC (c : Int) (A : Option Addr) (n C : Nat) : Array Value := #[.int .i64 0, .int .i64 0, .int .i64 0, .int .i64 0, .int .i64 0, .int .i64 0, .int .i64 0, .int .i64 0, .slice none 0 0, .bool false, .slice none 0 0, .slice none 0 0, .int .i64 c, .int .u32 0, .int .u32 0, .int .u32 0, .int .u32 0, .int .u32 0, .int .u32 0, .int .u32 0, .int .u32 0, .int .u32 0, .int .u32 0, .int .u32 0, .int .u32 0, .int .u32 0, .int .u32 0, .int .u32 0, .int .u32 0, .int .u32 0, .int .u32 0, .int .u32 0, .int .u32 0, .int .u32 0, .int .u32 0, .int .u32 0, .int .u32 0, .int .u32 0, .int .u32 0, .int .u32 0, .int .u32 0, .int .u32 0, .int .u32 0, .int .u32 0, .int .u32 0, .int .u32 0, .bool false, .slice none 0 0, .slice none 0 0, .int .i64 0, .slice none 0 0, .int .i64 0, .slice none 0 0, .int .i64 0, .slice none 0 0, .slice none 0 0, .int .i64 0, .int .i64 0, .string ByteArray.empty, .slice none 0 0, .int .u32 0, .slice none 0 0, .int .i64 0, .slice A n C]
theorem build_core (c : Int) (A : Option Addr) (n C : Nat) (w : World) : (Instr.build 40 #[(2, .int .i64 c), (18, .slice A n C)]).run Tryd.prog w = .ok (.agg (coreC c A n C)) w := by kernel_rfl
theorem build_zero (w : World) : (Instr.build 40 #[]).run Tryd.prog w = .ok (.agg (coreC 0 none 0 0)) w := by kernel_rfl
theorem core_size (c : Int) (A : Option Addr) (n C : Nat) : (coreC c A n C).size = 64 := rfl
theorem core_one (c : Int) (A : Option Addr) (n C : Nat) : ∀ v ∈ (coreC c A n C).toList, v.oneCell' = true := by
  have h : (coreC c A n C).toList.all (fun v => v.oneCell') = true := rfl
  rw [List.all_eq_true] at h
  exact h
theorem core_12 (c : Int) (A : Option Addr) (n C : Nat) : (coreC c A n C)[12]? = some (.int .i64 c) := rfl
theorem core_63 (c : Int) (A : Option Addr) (n C : Nat) : (coreC c A n C)[63]? = some (.slice A n C) := rfl
set_option maxHeartbeats 1000000 in
set_option maxRecDepth 100000 in
theorem of_any (c : Int) (A : Option Addr) (n C : Nat) (w : World) (bn : n ≤ 9223372036854775807) : Calls Tryd.prog 12 #[.agg (coreC c A n C)] w (RP (qt n c) w) := by
  have R := Lib.hid (fun W => Rate_any n c W)
  have h63 := core_63 c A n C
  have h12 := core_12 c A n C
  generalize coreC c A n C = cs at *
  have k1 : (w.alloc (.cells cs 40)).cell? ⟨w.heap.size, 63, none⟩ = some (.slice A n C) := (World.cell?_alloc_at _ _ _ _ rfl).trans h63
  have k2 : (w.alloc (.cells cs 40)).cell? ⟨w.heap.size, 12, none⟩ = some (.int .i64 c) := (World.cell?_alloc_at _ _ _ _ rfl).trans h12
  have B1 := Lib.hid ((Below.refl w.heap.size w).alloc (Nat.le_refl _) (.cells cs 40))
  clear h63 h12
  go_enter Tryd.func12, Tryd.ntmps12
  go_wp2_with fail
  refine (R.out _).mono ?_
  rintro e w1 ⟨r, rfl, hr, hb⟩
  have HR := Lib.hid hr
  have B2 := Lib.hid (B1.out.trans (hb.mono (by simp)))
  clear hr hb k1 k2
  go_wp2
  go_ret
  exact ⟨_, rfl, HR.out, B2.out⟩
theorem store_core {w : World} {ops : Array Oper} {rest : List Oper} {o : Oper} {a : Act} {Q : Exit → Act → World → Prop} (hgd : o.guard = none) (x y : Operand) (ho : o.op = .store 40 x y)
    (g : Nat) (new : Array Value) (hx : a.eval x = .pointer (some ⟨g, 0, none⟩)) (hy : a.eval y = .agg new) (old : Array Value) (hg : w.heap[g]? = some (.cells old 40 (0, 0))) (h1 : old.size = 64) (h2 : new.size = 64) (hone : ∀ v ∈ new.toList, v.oneCell' = true)
    (h : ∀ w2, w2.heap[g]? = some (.cells new 40 (0, 0)) → w2.heap.size = w.heap.size → (∀ (B : Nat) (w0 : World), Below B w0 w → B ≤ g → Below B w0 w2) → wpList Tryd.prog ops Q rest (a.put o.dst undef) w2) :
    wpList Tryd.prog ops Q (o :: rest) a w := by
  refine wpList_plain hgd fun K hK => ?_
  have hrun := run_storeVar_row (P := Tryd.prog) w g 40 40 old new hg (by rw [h2]; kernel_rfl) (by omega) (Array.all_eq_true_iff_forall_mem.2 (fun v hv => hone v (by simpa using hv)))
  unfold Oper.wp execOp
  simp only [ho, hx, hy, Instr.storeAt, Instr.sureAddr, Sem.run_bind, Sem.run_pure, Result.andThen_ok, hrun]
  exact hK _ _ (h _ (setRow_heap w g _ _ _ _ hg) (by simp [World.setRow]) (fun B w0 hb hB => below_setRow hb hB _))
theorem take_core {w : World} {ops : Array Oper} {rest : List Oper} {o : Oper} {a : Act} {Q : Exit → Act → World → Prop} (hgd : Region.wanted o (yielded ops a.tmps) = true) (x : Operand) (ho : o.op = .load 40 x)
    (g : Nat) (hx : a.eval x = .pointer (some ⟨g, 0, none⟩)) (cs : Array Value) (hg : w.heap[g]? = some (.cells cs 40 (0, 0))) (h1 : cs.size = 64)
    (h : wpList Tryd.prog ops Q rest (a.put o.dst (.agg cs)) w) : wpList Tryd.prog ops Q (o :: rest) a w := by
  refine Go.BigFrame.wpList_want hgd fun K hK => ?_
  unfold Oper.wp execOp
  simp only [ho, hx, Instr.loadAt, Instr.sureAddr, Sem.run_bind, Sem.run_pure, Result.andThen_ok, run_loadVar_row w g 40 40 cs (0, 0) _ hg Tryd.underlying40 rfl (by rw [h1]; kernel_rfl)]
  exact hK _ _ h
theorem qt00' : qt 0 0 = none := by decide +kernel
set_option maxHeartbeats 4000000 in
set_option maxRecDepth 100000 in
theorem cores (c : Int) (A : Option Addr) (n C : Nat) (b0 : -9223372036854775808 ≤ c) (b1 : c ≤ 9223372036854775807) (hn : n ≤ C) (hC : C ≤ 9223372036854775807) (w : World) (ht : TabAt w) : Calls Tryd.prog 3 #[.int .i64 c, .slice A n C] w fun e w' => e = .returned (.bool true) ∧ Below w.heap.size w w' := by
  have T := Lib.hid ht
  clear ht
  obtain ⟨N, hN⟩ : ∃ N, min n 100 = N := ⟨_, rfl⟩
  have e1 : min (n : Int) 100 = (N : Int) := by omega
  have e2 : (if (100 : Int) < (n : Int) then (100 : Int) else (n : Int)) = (N : Int) := by split <;> omega
  have hNn : N ≤ n := by omega
  have bN : N ≤ 9223372036854775807 := by omega
  have bc := build_core c A N C
  have bz := build_zero
  have OF := Lib.hid (fun W => of_any c A N C W bN)
  have OZ := Lib.hid (fun W => of_any 0 none 0 0 W (by omega))
  have sz := Lib.hid (core_size c A N C)
  have on := Lib.hid (core_one c A N C)
  rw [show ((0 : Nat) : Int) = 0 from rfl, qt00'] at OZ
  clear hN
  have bb := fun W => (build_core c A N C W)
  go_enter Tryd.func3, Tryd.ntmps3
  go_wp2_with (refine store_core (o := ⟨none, Op.store 40 _ _, _, _, _, _⟩) rfl _ _ rfl w.heap.size (coreC c A N C) rfl rfl _ (heap_alloc_new w _) rfl sz.out on.out ?_)
  intro W2 hg2 hs2 hb2
  have B2 := Lib.hid (hb2 _ _ ((Below.refl w.heap.size w).alloc (Nat.le_refl _) _) (Nat.le_refl _))
  have lt2 : w.heap.size < W2.heap.size := lt_of_block hg2
  have G2 := Lib.hid hg2
  clear hg2 hs2 hb2 bb bc
  generalize coreC c A N C = cs at *
  go_wp2_with fail
  refine (alive_any _ (T.out.below B2.out)).mono ?_
  rintro e w3 ⟨rfl, hb3⟩
  have hg3 := Lib.hid ((hb3.block _ lt2).trans G2.out)
  have B3 := Lib.hid (B2.out.trans (hb3.mono (Nat.le_of_lt lt2)))
  clear hb3 G2
  go_wp2_with (refine take_core (o := ⟨some 16, Op.load 40 _, _, _, _, _⟩) rfl _ rfl w.heap.size rfl cs hg3.out sz.out ?_)
  refine (OF.out _).mono ?_
  rintro e w4 ⟨r1, rfl, f1, hb4⟩
  have B4 := Lib.hid (B3.out.trans (hb4.mono B3.out.size))
  clear hb4 B3 OF hg3
  go_wp2_with fail
  refine (rate_any _ c _).mono ?_
  rintro e w5 ⟨r2, rfl, f2, hb5⟩
  have B5 := Lib.hid (B4.out.trans (hb5.mono B4.out.size))
  have s12 := f1.same f2
  clear hb5 B4 f1 f2
  go_wp2_with fail
  refine (same_any r1 r2 _).mono ?_
  rw [s12]
  rintro e w' ⟨rfl, rfl⟩
  go_wp2_with fail
  refine (OZ.out _).mono ?_
  rintro e w6 ⟨r3, rfl, f3, hb6⟩
  have B6 := Lib.hid (B5.out.trans (hb6.mono B5.out.size))
  have n3 := f3.nan
  clear hb6 B5 f3 OZ bz
  go_wp2_with fail
  refine (none_any r3 _).mono ?_
  rw [n3]
  rintro e w' ⟨rfl, rfl⟩
  go_wp2
  go_ret
  exact ⟨rfl, B6.out⟩
end Go.Proofs.YtmahjlmblgboaaaDoor
