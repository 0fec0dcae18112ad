/- Contracts: the reference's bits, one by one. Condition: the numbers are words. -/
import Derived.Test.YtdenefeckdlmdaaC2
import Derived.Test.YtdenefeckdlmdaaPlain3
import Derived.Below
import Derived.Laws.OwnMore
namespace Go.Proofs.Ytdenefeckdlmdaa
open Go.ChangeShapes Go.WideShapes Go.ChangeAt Go.RowKit
set_option linter.unusedVariables false

theorem Try.info22 : (Try.prog.info? 22).map (fun i => (i.zero, i.size, i.bytes)) = some (some (.int .u32 0), 1, 4) := by kernel_rfl
theorem bit_any (x i : Int) (w : World) (h0 : 0 ≤ x) (h1 : x ≤ 4294967295) (g0 : 0 ≤ i) (g1 : i ≤ 31) :
    Calls Try.prog 25 #[.int .u32 x, .int .i64 i] w fun e w' => e = .returned (.int .u32 (bt x i)) ∧ w = w' := by
  have hb := shr_bd x i.toNat h0 h1
  go_enter Try.func25, Try.ntmps25
  go_wp2
  go_ret
  exact ⟨ret_u32 rfl, rfl⟩
set_option maxHeartbeats 1000000 in
theorem of_any (X : Int) (g c : Nat) (w : World) (h0 : 0 ≤ X) (h1 : X ≤ 4294967295)
    (hc : ∀ j : Nat, j < 32 → w.cell? ⟨g, j, none⟩ = some (.int .u32 (bt X j))) :
    Calls Try.prog 29 #[.slice (some ⟨g, 0, none⟩) 32 c] w fun e w' => e = .returned (.int .u32 X) ∧ w = w' := by
  have HC := Lib.hid hc
  clear hc
  go_enter Try.func29, Try.ntmps29
  go_wp2
  go_loop [3, 4] (fun v i => ∃ k : Nat, k ≤ 32 ∧ v = .int .u32 (X / 2 ^ k) ∧ i = .int .i64 (k - 1)) (fun _ i => (intOf i + 1).toNat)
  case atStart => exact ⟨32, Nat.le_refl _, by rw [Int.ediv_eq_zero_of_lt h0 (by simp only [show (2 : Int) ^ 32 = 4294967296 by decide]; omega)], rfl⟩
  case round =>
    obtain ⟨k, hk, rfl, rfl⟩ := hrel
    match k, hk with
    | 0, hk =>
      go_wp2
      go_ret
      exact ⟨ret_u32 (by simp), rfl⟩
    | k + 1, hk =>
      have e1 := shr_bd X (k + 1) h0 h1
      have e2 := shr_bd X k h0 h1
      have e3 := Lib.hid (bt_step X k)
      have e4 := bt_bd X k
      have hcell := HC.out k (by omega)
      have e5 : 2 * (X / 2 ^ (k + 1)) ≤ 4294967295 := by have := e3.out; omega
      have e6 : 2 * (X / 2 ^ (k + 1)) + bt X k ≤ 4294967295 := by have := e3.out; omega
      rw [show (((k + 1 : Nat) : Int) - 1) = (k : Int) by omega]
      go_wp2
      go_round
      case rel => exact ⟨k, by omega, by rw [e3.out], rfl⟩
      case measure => simp [intOf] <;> omega
/-- the list so far, one bit more -/
theorem own_step {w : World} {B n : Nat} {X r : Int} {v : Value} (h : w.ownsRow B 22 1 v (n + 1) (Lb X n ++ [.int .u32 r])) (hr : bt X n = r) : w.ownsRow B 22 1 v (n + 1) (Lb X (n + 1)) := by
  rw [Lb_succ, hr]; exact h
theorem one_cell (w : World) (u : Value) : ∀ j v, [u][j]? = some v → (w.alloc (.cells #[u] 22)).cell? ((⟨w.heap.size, 0, none⟩ : Addr).add j) = some v := by
  intro j v hj
  match j, hj with
  | 0, hj => simp at hj; subst hj; simp [Addr.add]
  | j + 1, hj => simp at hj
theorem one_one (z : Int) : ∀ u ∈ [Value.int .u32 z], u.oneCell' = true := by
  intro u hu; simp at hu; subst hu; rfl
/-- bits by a rule: X is the word whose bits the rule gives -/
def ByRule (rule x y X : Int) : Prop := ∀ k : Nat, k < 32 → bt X k = if (rule = 1 ∧ bt x k + bt y k = 2) ∨ (rule = 2 ∧ 0 < bt x k + bt y k) ∨ (rule = 3 ∧ bt x k + bt y k = 1) then 1 else 0
set_option maxHeartbeats 4000000 in
set_option maxRecDepth 100000 in
theorem both_any (rule x y X : Int) (w : World) (hr : rule = 1 ∨ rule = 2 ∨ rule = 3) (h0 : 0 ≤ x) (h1 : x ≤ 4294967295) (g0 : 0 ≤ y) (g1 : y ≤ 4294967295)
    (X0 : 0 ≤ X) (X1 : X ≤ 4294967295) (hX : ByRule rule x y X) :
    Calls Try.prog 23 #[.int .i64 rule, .int .u32 x, .int .u32 y] w fun e w' => e = .returned (.int .u32 X) ∧ Below w.heap.size w w' := by
  obtain ⟨i0, hi, hz0, hz1, hz2⟩ := info_parts Try.info22
  have HX := Lib.hid hX
  clear hX
  rcases hr with rfl | rfl | rfl
  all_goals
    go_enter Try.func23, Try.ntmps23
    go_wp2
    go_loopw [7, 8] (fun v i wr => ∃ k : Nat, k ≤ 32 ∧ i = .int .i64 k ∧ wr.ownsRow w.heap.size 22 1 v k (Lb X k) ∧ Below w.heap.size w wr) (fun _ i _ => 32 - (intOf i).toNat)
    case atStart => exact ⟨0, by omega, rfl, World.ownsRow_made w #[] 0 (Nat.le_refl _) (by decide) rfl, (Below.refl _ _).alloc (Nat.le_refl _) _⟩
    case round =>
      obtain ⟨k, hk, rfl, hown, hbel⟩ := hrel
      have hsz := hbel.size
      by_cases hlt : k < 32
      · have hx := HX.out k hlt
        rcases bt_01 x k with p | p <;> rcases bt_01 y k with q | q <;> rw [p, q] at hx <;> simp at hx
        all_goals
          have hx := Lib.hid hx
          go_wp2_with (first | (go_at_call 25; refine (bit_any _ _ _ (by omega) (by omega) (by omega) (by omega)).mono ?_; rintro e w' ⟨rfl, rfl⟩) | (at_builtin; refine wpList_append_own _ rfl _ _ 40 rfl w.heap.size 22 i0 (.int .u32 0) 1 4 Try.underlying40 hi hz0 hz1 hz2 rfl (by decide) _ _ _ rfl (hown.alloc _) ⟨wr.heap.size, 0, none⟩ 1 1 [.int .u32 _] rfl rfl (one_cell _ _) (one_one _) (by unfold maxLen; omega) (by omega) (by simp; omega) ?_; intro v' w1 hown1 hgrow1 _))
          have hb1 := (hbel.alloc hsz _).grown hgrow1 (by simp; omega) (fun g hg => (hown.lt g hg).1)
          go_roundw
          case rel => exact ⟨k + 1, by omega, by go_num, own_step hown1 hx.out, hb1⟩
          case measure => simp [intOf] <;> omega
      · have hk32 : k = 32 := by omega
        subst hk32
        obtain ⟨g, cap, cur, rfl, _, _, _, _, _, _⟩ := hown.2.resolve_left (by rintro ⟨_, h⟩; exact absurd h (by decide))
        have hcells : ∀ j : Nat, j < 32 → wr.cell? ⟨g, j, none⟩ = some (.int .u32 (bt X j)) := fun j hj => (hown.cellAt j (by omega)).trans (Lb_get X 32 j hj)
        have HC := Lib.hid hcells
        clear hcells
        go_wp2_with (go_at_call 29; refine (of_any X _ _ _ X0 X1 HC.out).mono ?_; rintro e w' ⟨rfl, rfl⟩)
        go_ret
        exact ⟨rfl, hbel⟩
/-- bits moved: X is the word whose bits are those of x, so many places on, or the one that fills -/
def ByMove (x by_ fill X : Int) : Prop := ∀ k : Nat, k < 32 → bt X k = if (k : Int) - by_ < 0 ∨ 31 < (k : Int) - by_ then fill else bt x ((k : Int) - by_)
set_option maxHeartbeats 4000000 in
set_option maxRecDepth 100000 in
theorem moved_any (x m fill X : Int) (w : World) (m0 : -31 ≤ m) (m1 : m ≤ 31) (h0 : 0 ≤ x) (h1 : x ≤ 4294967295) (g0 : 0 ≤ fill) (g1 : fill ≤ 1)
    (X0 : 0 ≤ X) (X1 : X ≤ 4294967295) (hX : ByMove x m fill X) :
    Calls Try.prog 24 #[.int .u32 x, .int .i64 m, .int .u32 fill] w fun e w' => e = .returned (.int .u32 X) ∧ Below w.heap.size w w' := by
  obtain ⟨i0, hi, hz0, hz1, hz2⟩ := info_parts Try.info22
  have HX := Lib.hid hX
  clear hX
  go_enter Try.func24, Try.ntmps24
  go_wp2
  go_loopw [7, 8] (fun v i wr => ∃ k : Nat, k ≤ 32 ∧ i = .int .i64 k ∧ wr.ownsRow w.heap.size 22 1 v k (Lb X k) ∧ Below w.heap.size w wr) (fun _ i _ => 32 - (intOf i).toNat)
  case atStart => exact ⟨0, by omega, rfl, World.ownsRow_made w #[] 0 (Nat.le_refl _) (by decide) rfl, (Below.refl _ _).alloc (Nat.le_refl _) _⟩
  case round =>
    obtain ⟨k, hk, rfl, hown, hbel⟩ := hrel
    have hsz := hbel.size
    by_cases hlt : k < 32
    · have hx := HX.out k hlt
      rcases Int.lt_or_le ((k : Int) - m) 0 with c | c
      · rw [if_pos (Or.inl c)] at hx
        have hx := Lib.hid hx
        go_wp2_with (first | (at_builtin; refine wpList_append_own _ rfl _ _ 40 rfl w.heap.size 22 i0 (.int .u32 0) 1 4 Try.underlying40 hi hz0 hz1 hz2 rfl (by decide) _ _ _ rfl (hown.alloc _) ⟨wr.heap.size, 0, none⟩ 1 1 [.int .u32 _] rfl rfl (one_cell _ _) (one_one _) (by unfold maxLen; omega) (by omega) (by simp; omega) ?_; intro v' w1 hown1 hgrow1 _))
        have hb1 := (hbel.alloc hsz _).grown hgrow1 (by simp; omega) (fun g hg => (hown.lt g hg).1)
        go_roundw
        case rel => exact ⟨k + 1, by omega, by go_num, own_step hown1 hx.out, hb1⟩
        case measure => simp [intOf] <;> omega
      · rcases Int.lt_or_le 31 ((k : Int) - m) with d | d
        · rw [if_pos (Or.inr d)] at hx
          have hx := Lib.hid hx
          go_wp2_with (first | (at_builtin; refine wpList_append_own _ rfl _ _ 40 rfl w.heap.size 22 i0 (.int .u32 0) 1 4 Try.underlying40 hi hz0 hz1 hz2 rfl (by decide) _ _ _ rfl (hown.alloc _) ⟨wr.heap.size, 0, none⟩ 1 1 [.int .u32 _] rfl rfl (one_cell _ _) (one_one _) (by unfold maxLen; omega) (by omega) (by simp; omega) ?_; intro v' w1 hown1 hgrow1 _))
          have hb1 := (hbel.alloc hsz _).grown hgrow1 (by simp; omega) (fun g hg => (hown.lt g hg).1)
          go_roundw
          case rel => exact ⟨k + 1, by omega, by go_num, own_step hown1 hx.out, hb1⟩
          case measure => simp [intOf] <;> omega
        · rw [if_neg (by omega)] at hx
          have hx := Lib.hid hx
          go_wp2_with (first | (go_at_call 25; refine (bit_any _ _ _ (by omega) (by omega) (by omega) (by omega)).mono ?_; rintro e w' ⟨rfl, rfl⟩) | (at_builtin; refine wpList_append_own _ rfl _ _ 40 rfl w.heap.size 22 i0 (.int .u32 0) 1 4 Try.underlying40 hi hz0 hz1 hz2 rfl (by decide) _ _ _ rfl (hown.alloc _) ⟨wr.heap.size, 0, none⟩ 1 1 [.int .u32 _] rfl rfl (one_cell _ _) (one_one _) (by unfold maxLen; omega) (by omega) (by simp; omega) ?_; intro v' w1 hown1 hgrow1 _))
          have hb1 := (hbel.alloc hsz _).grown hgrow1 (by simp; omega) (fun g hg => (hown.lt g hg).1)
          go_roundw
          case rel => exact ⟨k + 1, by omega, by go_num, own_step hown1 hx.out, hb1⟩
          case measure => simp [intOf] <;> omega
    · have hk32 : k = 32 := by omega
      subst hk32
      obtain ⟨g, cap, cur, rfl, _, _, _, _, _, _⟩ := hown.2.resolve_left (by rintro ⟨_, h⟩; exact absurd h (by decide))
      have hcells : ∀ j : Nat, j < 32 → wr.cell? ⟨g, j, none⟩ = some (.int .u32 (bt X j)) := fun j hj => (hown.cellAt j (by omega)).trans (Lb_get X 32 j hj)
      have HC := Lib.hid hcells
      clear hcells
      go_wp2_with (go_at_call 29; refine (of_any X _ _ _ X0 X1 HC.out).mono ?_; rintro e w' ⟨rfl, rfl⟩)
      go_ret
      exact ⟨rfl, hbel⟩
end Go.Proofs.Ytdenefeckdlmdaa
