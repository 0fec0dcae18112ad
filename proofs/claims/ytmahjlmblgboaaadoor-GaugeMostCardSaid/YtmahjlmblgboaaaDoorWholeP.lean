/- Plain facts of whole rates. No conditions. -/
import Derived.Test.YtmahjlmblgboaaaDoorMeansW
import Derived.Laws.OwnMore
namespace Go.Proofs.YtmahjlmblgboaaaDoor
set_option linter.unusedVariables false
theorem wI_zero : wI 0 = 0 := by decide +kernel
theorem wI_nan (n : Nat) (h : n < 9007199254740992) : nanB (wI n) = false := le_nan (by rw [rg_wI n h]; exact Nat.le_of_lt (rI_val n h).2)
theorem wI_lt (n : Nat) (h : n < 9007199254740992) : wI n < 18446744073709551616 := by
  have h1 := (ok_wd false (Nat.le_of_lt (rI_val n h).2)).2
  have e : 2 * SW = 18446744073709551616 := by decide
  rw [e] at h1
  unfold wI
  exact h1
theorem ad_some (a x : Nat) : ad (some a) x = Ieee.double.add a x := rfl
theorem dv_some (a : Nat) (n : Int) : dv (some a) n = Ieee.double.div a (floatOfInt .f64 n) := rfl
theorem fsum_zero (L : List Nat) : fsum L 0 = some 0 := by unfold fsum; rw [List.take_zero, List.foldl_nil]
theorem getD_rep (k j x : Nat) (h : j < k) : (List.replicate k x).getD j 0 = x := by rw [List.getD_eq_getElem?_getD, List.getElem?_replicate, if_pos h]; rfl
theorem fsum_rep (n k x : Nat) (hk : k ≤ 16) (hn : n ≤ 1073741824) (hx : wI n = x) : ∀ j, j ≤ k → fsum (List.replicate k x) j = some (wI (n * j)) := by
  intro j
  induction j with
  | zero => intro _; rw [Nat.mul_zero, wI_zero, fsum_zero]
  | succ j ih =>
    intro hj
    have hl : n * j ≤ 1073741824 * 16 := Nat.mul_le_mul hn (by omega)
    have ha := add_int (n * j) n (by omega)
    rw [fsum_succ _ _ (by rw [List.length_replicate]; omega), ih (by omega), getD_rep k j x (by omega), ad_some, ← hx, ha, Nat.mul_succ]
theorem mean_rep (n k x : Nat) (h1 : 1 ≤ k) (hk : k ≤ 16) (hn : n ≤ 1073741824) (hx : wI n = x) : meanO (List.replicate k x) = some x := by
  have hd := div_int n k h1 hk hn
  unfold meanO
  rw [List.length_replicate, if_neg (by omega), fsum_rep n k x hk hn hx k (Nat.le_refl _), dv_some, conv_nat, hd, hx]
theorem qt_one (n : Nat) (hn : n ≤ 1073741824) : qt n 1 = some (wI n) := by
  have h := div_int n 1 (by omega) (by omega) hn
  rw [Nat.mul_one] at h
  unfold qt
  rw [conv_nat, show (1 : Int) = ((1 : Nat) : Int) from rfl, conv_nat]
  exact h
theorem txt_int (n : Nat) (hn : n ≤ 1073741824) : txt (wI n) = Lib.decDigits n ++ [46, 48, 48, 48] := by
  have h : n < 9007199254740992 := by omega
  have hv := (rI_val n h).1
  have hc : rI n < C12 := by
    rcases Nat.lt_or_ge (rI n) C12 with c | c
    · exact c
    · have := Mv_le c
      rw [hv, C12_val.1] at this
      have := Nat.le_of_mul_le_mul_right this U_pos
      omega
  have hf : fr (rI n) = 0 := by
    unfold fr
    rw [hv, Nat.mul_mod_left]
    rfl
  have ht : th (rI n) = 0 := by
    unfold th
    rw [hf, Mv_zero]
    rfl
  unfold txt
  rw [wI_nan n h, sg_wI n h, rg_wI n h, if_pos hc, hv, Nat.mul_div_cancel _ U_pos, ht, Mv_zero, Nat.zero_div, pad_a 0 (by omega), dig1 (u := 0) (by omega)]
  simp
theorem txt_not (x : Nat) (h : nanB x = false) : txt x ≠ [110, 111, 110, 101] := by
  unfold txt
  rw [h]
  intro e
  cases hs : sg x with
  | true => rw [hs] at e; simp at e
  | false =>
    rw [hs] at e
    by_cases c : rg x < C12
    · rw [if_pos c] at e
      have m : (46 : UInt8) ∈ [110, 111, 110, 101] := by
        have e' : Lib.decDigits (Mv (rg x) / U) ++ [46] ++ pad3 (Mv (th (rg x)) / U) = [110, 111, 110, 101] := by simpa using e
        rw [← e']; simp
      revert m; decide
    · rw [if_neg c] at e; simp at e
theorem qt_inf (n : Nat) (h0 : n ≠ 0) (hn : n ≤ 1073741824) : ∃ v, qt n 0 = some v ∧ nanB v = false := by
  have h : n < 9007199254740992 := by omega
  have hd : ∃ v, Ieee.double.div (wI n) (wI 0) = some v := by
    have hv1 := (rI_val n h).2
    have hv2 := (rI_val 0 (by omega)).2
    obtain ⟨pm, pp⟩ := pl_rI n h0 h
    unfold Ieee.Format.div
    rw [read_num _ (by rw [rg_wI n h]; exact hv1), read_num _ (by rw [rg_wI 0 (by omega)]; exact hv2), rg_wI n h, rg_wI 0 (by omega), pm]
    have e1 : mg (rI 0) = 0 := by decide +kernel
    rw [e1]
    unfold Ieee.Datum.quotient
    dsimp only
    rw [if_pos rfl, if_neg (Nat.mul_ne_zero h0 (Nat.pos_iff_ne_zero.1 (Nat.two_pow_pos _)))]
    exact ⟨_, rfl⟩
  obtain ⟨v, hv⟩ := hd
  refine ⟨v, ?_, le_nan (div_ok hv).1⟩
  unfold qt
  rw [conv_nat, show (0 : Int) = ((0 : Nat) : Int) from rfl, conv_nat]
  exact hv
theorem own_fl {w : World} {base k x : Nat} {v : Value} (h : w.ownsRow base 43 1 v k ((List.replicate k x).map (Value.float .f64))) : ∃ A C, v = .slice A k C ∧ Fl w A (List.replicate k x) := by
  rcases h.2 with ⟨rfl, rfl⟩ | ⟨g, cap, cur, rfl, _, hg, _⟩
  · exact ⟨none, 0, rfl, fun h => absurd h (by simp)⟩
  · refine ⟨_, cap, rfl, fun _ => ⟨g, 0, rfl, lt_of_block hg, fun j hj => ?_⟩⟩
    rw [Nat.zero_add, h.cellAt j (by rw [List.length_replicate] at hj; omega)]
    rw [List.length_replicate] at hj
    simp [List.getD_eq_getElem?_getD, hj]
end Go.Proofs.YtmahjlmblgboaaaDoor
