/- The walk of the statement AluJumps. Condition: the numbers are words. -/
import Derived.Test.YtdenefeckdlmdaaC5
namespace Go.Proofs.Ytdenefeckdlmdaa
open Go.ChangeShapes Go.WideShapes Go.ChangeAt Go.RowKit
set_option linter.unusedVariables false
set_option maxHeartbeats 4000000 in
set_option maxRecDepth 100000 in
theorem jumps (op rd r1 r2 im pc x y : Int) (w : World) (m0 : 0 ≤ im) (m1 : im ≤ 4294967295) (p0 : 0 ≤ pc) (p1 : pc ≤ 4294967295) (h0 : 0 ≤ x) (h1 : x ≤ 4294967295) (g0 : 0 ≤ y) (g1 : y ≤ 4294967295) :
    Calls Try.prog 11 #[.agg #[.int .i64 op, .int .i64 rd, .int .i64 r1, .int .i64 r2, .int .u32 im], .int .u32 pc, .int .u32 x, .int .u32 y] w fun e w' => e = .returned (.bool true) ∧ Below w.heap.size w w' := by
  have b1 := (Below.refl w.heap.size w).alloc (Nat.le_refl _) (.cells #[.int .i64 op, .int .i64 rd, .int .i64 r1, .int .i64 r2, .int .u32 im] 32)
  go_enter Try.func11, Try.ntmps11
  go_wp2_with fail
  go_loopw [9] (fun v wr => Below w.heap.size w wr ∧ w.heap.size < wr.heap.size ∧ (∃ o : Int, 3 ≤ o ∧ o ≤ 11 ∧ v = .int .i64 o) ∧ wr.cell? ⟨w.heap.size, 0, none⟩ = some (.int .i64 op) ∧ wr.cell? ⟨w.heap.size, 1, none⟩ = some (.int .i64 rd) ∧ wr.cell? ⟨w.heap.size, 2, none⟩ = some (.int .i64 r1) ∧ wr.cell? ⟨w.heap.size, 3, none⟩ = some (.int .i64 r2) ∧ wr.cell? ⟨w.heap.size, 4, none⟩ = some (.int .u32 im)) (fun v _ => (11 - intOf v).toNat)
  case atStart =>
    refine ⟨b1, by simp, ⟨3, by omega, by omega, rfl⟩, ?_, ?_, ?_, ?_, ?_⟩ <;> (rw [World.cell?_alloc_at _ _ _ _ rfl]; rfl)
  case round =>
    obtain ⟨hb, hlt, ⟨o, ho1, ho2, rfl⟩, c0, c1, c2, c3, c4⟩ := hrel
    by_cases hlo : o ≤ 10
    · have kB := (Below.refl wr.heap.size wr).alloc (Nat.le_refl _) (.cells #[.int .i64 o, .int .i64 0, .int .i64 0, .int .i64 0, .int .u32 im] 32)
      have kb := Lib.hid kB
      clear kB
      go_wp2_with fail
      have k0 : (wr.alloc (.cells #[.int .i64 o, .int .i64 0, .int .i64 0, .int .i64 0, .int .u32 im] 32)).cell? ⟨wr.heap.size, 0, none⟩ = some (.int .i64 o) := by rw [World.cell?_alloc_at _ _ _ _ rfl]; rfl
      have k1 : (wr.alloc (.cells #[.int .i64 o, .int .i64 0, .int .i64 0, .int .i64 0, .int .u32 im] 32)).cell? ⟨wr.heap.size, 1, none⟩ = some (.int .i64 0) := by rw [World.cell?_alloc_at _ _ _ _ rfl]; rfl
      have k2 : (wr.alloc (.cells #[.int .i64 o, .int .i64 0, .int .i64 0, .int .i64 0, .int .u32 im] 32)).cell? ⟨wr.heap.size, 2, none⟩ = some (.int .i64 0) := by rw [World.cell?_alloc_at _ _ _ _ rfl]; rfl
      have k3 : (wr.alloc (.cells #[.int .i64 o, .int .i64 0, .int .i64 0, .int .i64 0, .int .u32 im] 32)).cell? ⟨wr.heap.size, 3, none⟩ = some (.int .i64 0) := by rw [World.cell?_alloc_at _ _ _ _ rfl]; rfl
      have k4 : (wr.alloc (.cells #[.int .i64 o, .int .i64 0, .int .i64 0, .int .i64 0, .int .u32 im] 32)).cell? ⟨wr.heap.size, 4, none⟩ = some (.int .u32 im) := by rw [World.cell?_alloc_at _ _ _ _ rfl]; rfl
      go_region_held3 (fun w' => w'.cell? ⟨wr.heap.size, 0, none⟩ = some (.int .i64 o) ∧ w'.cell? ⟨wr.heap.size, 1, none⟩ = some (.int .i64 0) ∧ w'.cell? ⟨wr.heap.size, 2, none⟩ = some (.int .i64 0) ∧ w'.cell? ⟨wr.heap.size, 3, none⟩ = some (.int .i64 0) ∧ w'.cell? ⟨wr.heap.size, 4, none⟩ = some (.int .u32 im) ∧ wr.heap.size < w'.heap.size ∧ Below wr.heap.size wr w')
        (first | exact ⟨k0, k1, k2, k3, k4, (by show _ < (Array.push _ _).size; simp), kb.out.drew⟩ | (go_split_ands; exact ⟨(hg.cell (by assumption)).trans (by assumption), (hg.cell (by assumption)).trans (by assumption), (hg.cell (by assumption)).trans (by assumption), (hg.cell (by assumption)).trans (by assumption), (hg.cell (by assumption)).trans (by assumption), Nat.lt_of_lt_of_le (by assumption) hg.size, Below.trans (by assumption) (hg.mono (Nat.le_of_lt (by assumption)))⟩))
        (first | (go_at_call 17; refine (taken_all _ _ _ _ (by omega) (by omega) (by omega) (by omega)).mono ?_; rintro e w' ⟨rfl, rfl⟩) | (go_at_call 19; refine (rtaken_all _ _ _ _ (by omega) (by omega) (by omega) (by omega)).mono ?_; rintro e w' ⟨rfl, rfl⟩) | (go_at_call 20; refine (next_any _ _ _ _ _ _ _ _ _ (by omega) (by omega) (by omega) (by omega) (by omega) (by omega) (by omega) (by omega)).mono ?_; rintro e w' ⟨rfl, hg⟩) | (go_at_call 21; refine (rnext_any _ _ _ _ _ _ _ _ _ (by omega) (by omega) (by omega) (by omega) (by omega) (by omega) (by omega) (by omega)).mono ?_; rintro e w' ⟨rfl, hg⟩))
      go_split_ands
      have z1 : wr.heap.size < w'.heap.size := by assumption
      have z2 : Below wr.heap.size wr w' := by assumption
      have z3 := Lib.hid z2
      clear z2 k0 k1 k2 k3 k4
      go_wp2
      go_roundw
      case rel =>
        have z2 := z3.out
        exact ⟨hb.trans (z2.mono (by omega)), by omega, ⟨o + 1, by omega, by omega, rfl⟩, (z2.cell hlt).trans c0, (z2.cell hlt).trans c1, (z2.cell hlt).trans c2, (z2.cell hlt).trans c3, (z2.cell hlt).trans c4⟩
      case measure => simp [intOf]; omega
    · have hb' := Lib.hid hb
      clear b1 hb
      go_wp2_with fail
      go_region_held3 (fun w' => w'.cell? ⟨w.heap.size, 0, none⟩ = some (.int .i64 op) ∧ w'.cell? ⟨w.heap.size, 1, none⟩ = some (.int .i64 rd) ∧ w'.cell? ⟨w.heap.size, 2, none⟩ = some (.int .i64 r1) ∧ w'.cell? ⟨w.heap.size, 3, none⟩ = some (.int .i64 r2) ∧ w'.cell? ⟨w.heap.size, 4, none⟩ = some (.int .u32 im) ∧ w.heap.size < w'.heap.size ∧ Below w.heap.size w w')
        (first | exact ⟨c0, c1, c2, c3, c4, hlt, hb'.out.drew⟩ | (go_split_ands; exact ⟨(hg.cell (by assumption)).trans (by assumption), (hg.cell (by assumption)).trans (by assumption), (hg.cell (by assumption)).trans (by assumption), (hg.cell (by assumption)).trans (by assumption), (hg.cell (by assumption)).trans (by assumption), Nat.lt_of_lt_of_le (by assumption) hg.size, Below.trans (by assumption) (hg.mono (Nat.le_of_lt (by assumption)))⟩))
        (first | (go_at_call 14; refine (alive_any _).mono ?_; rintro e w' ⟨rfl, rfl⟩) | (go_at_call 17; refine (taken_all _ _ _ _ (by omega) (by omega) (by omega) (by omega)).mono ?_; rintro e w' ⟨rfl, rfl⟩) | (go_at_call 19; refine (rtaken_all _ _ _ _ (by omega) (by omega) (by omega) (by omega)).mono ?_; rintro e w' ⟨rfl, rfl⟩) | (go_at_call 20; refine (next_any _ _ _ _ _ _ _ _ _ (by omega) (by omega) (by omega) (by omega) (by omega) (by omega) (by omega) (by omega)).mono ?_; rintro e w' ⟨rfl, hg⟩) | (go_at_call 21; refine (rnext_any _ _ _ _ _ _ _ _ _ (by omega) (by omega) (by omega) (by omega) (by omega) (by omega) (by omega) (by omega)).mono ?_; rintro e w' ⟨rfl, hg⟩))
      go_split_ands
      have z2 : Below w.heap.size w w' := by assumption
      have z3 := Lib.hid z2
      clear z2
      go_wp2
      go_ret
      exact ⟨rfl, z3.out⟩
end Go.Proofs.Ytdenefeckdlmdaa
