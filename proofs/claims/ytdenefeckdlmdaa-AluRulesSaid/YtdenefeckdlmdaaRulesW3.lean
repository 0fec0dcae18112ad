/- The walks of the statement AluRules, a way each. Condition: the numbers are words. -/
import Derived.Test.YtdenefeckdlmdaaC2
namespace Go.Proofs.Ytdenefeckdlmdaa
open Go.ChangeShapes Go.WideShapes Go.ChangeAt Go.RowKit
set_option linter.unusedVariables false

set_option maxHeartbeats 4000000 in
set_option maxRecDepth 100000 in
theorem rules_10 (a0 a1 : Int) (w0 : (Lit.int .u32 a0).wf = true) (w1 : (Lit.int .u32 a1).wf = true) (w : World) (c : a0 < a1) (d : wrap32 a1 < wrap32 a0) :
    Calls Try.prog 9 #[.int .u32 a0, .int .u32 a1] w fun e w' => e = .returned (.bool true) ∧ Grown w w' := by
  obtain ⟨h0, k0⟩ := bounds_u32 w0
  obtain ⟨h1, k1⟩ := bounds_u32 w1
  clear w0 w1
  have b1 := ad_bd 28 a0 a1 h0 k0 h1 k1
  have b2 := ad_bd 33 a0 a1 h0 k0 h1 k1
  have b3 := ad_bd 37 a0 a1 h0 k0 h1 k1
  have b4 := ad_bd 36 a0 a1 h0 k0 h1 k1
  have e1 : (ad 29 (ad 28 a0 a1) a1 != a0) = false := by rw [ad28, ad29, bne_eq_false_iff_eq]; omega
  have e2 : (ad 28 a0 a1 != ad 28 a1 a0) = false := by rw [ad28, ad28, Int.add_comm]; simp
  have e3 : (ad 33 (ad 33 a0 a1) a1 != a0) = false := by rw [(absorb a0 a1 h0 k0 h1 k1).2.2]; simp
  have e4 : (ad 28 (ad 37 a0 a1) (ad 36 a0 a1) != ad 28 a0 a1) = false := by rw [ad28, ad28, ad37, ad36, and_or_u32 a0 a1 h0 k0 h1 k1]; simp
  have hs := shift_none a0 h0 k0
  have f1 : (ad 30 a0 0 != a0) = false := by rw [hs.1]; simp
  have f2 : (ad 34 a0 0 != a0) = false := by rw [hs.2.1]; simp
  have f3 : (ad 35 a0 0 != a0) = false := by rw [hs.2.2]; simp
  clear hs
  have e31 := and31 a1 h1 k1
  have g1 : (ad 30 a0 a1 != ad 30 a0 (a1 % 32)) = false := by rw [ad30, ad30, show a1 % 32 % 32 = a1 % 32 by omega]; simp
  have g2 : (ad 34 a0 a1 != ad 34 a0 (a1 % 32)) = false := by rw [ad34, ad34, show a1 % 32 % 32 = a1 % 32 by omega]; simp
  have g3 : (ad 35 a0 a1 != ad 35 a0 (a1 % 32)) = false := by rw [ad35, ad35, show a1 % 32 % 32 = a1 % 32 by omega]; simp
  have i1 : (ad 31 a0 a0 != 0) = false := by rw [ad31, if_neg (by omega)]; rfl
  have i2 : (ad 32 a0 a0 != 0) = false := by rw [ad32, if_neg (by omega)]; rfl
  have m1 : br 5 a0 a1 = false := by rw [br5, beq_eq_false_iff_ne]; omega
  have m2 : (ad 29 a0 a1 == 0) = false := by rw [ad29, beq_eq_false_iff_ne]; omega
  have m3 : br 9 a0 a1 = true := by rw [br9]; simp; omega
  have m4 : br 8 a0 a1 = true := by rw [br8]; simp; omega
  have m5 : (ad 32 a0 a1 == 1) = true := by rw [ad32, if_pos c]; rfl
  have m6 : (ad 31 a0 a1 == 0) = true := by rw [ad31, if_neg (by omega)]; rfl
  have m9 : (ad 31 a0 a1 + ad 31 a1 a0 != 1) = false := by rw [ad31, ad31, if_neg (by omega), if_pos d]; rfl
  have m10 : (ad 32 a0 a1 + ad 32 a1 a0 != 1) = false := by rw [ad32, ad32, if_pos c, if_neg (by omega)]; rfl
  have n1 : 0 ≤ ad 31 a0 a1 ∧ ad 31 a0 a1 ≤ 1 := by rw [ad31]; split <;> omega
  have n2 : 0 ≤ ad 32 a0 a1 ∧ ad 32 a0 a1 ≤ 1 := by rw [ad32]; split <;> omega
  have n3 : 0 ≤ ad 31 a1 a0 ∧ ad 31 a1 a0 ≤ 1 := by rw [ad31]; split <;> omega
  have n4 : 0 ≤ ad 32 a1 a0 ∧ ad 32 a1 a0 ≤ 1 := by rw [ad32]; split <;> omega
  go_enter Try.func9, Try.ntmps9
  go_wp2_with (first | (go_at_call 12; refine (do_all _ _ _ _ (by omega) (by omega) (by omega) (by omega)).mono ?_; rintro e w' ⟨rfl, rfl⟩) | (go_at_call 14; refine (alive_any _).mono ?_; rintro e w' ⟨rfl, rfl⟩) | (go_at_call 15; refine (mul_all _ _ _ _ (by omega) (by omega) (by omega) (by omega)).mono ?_; rintro e w' ⟨rfl, rfl⟩) | (go_at_call 16; refine (rmul_all _ _ _ _ (by omega) (by omega) (by omega) (by omega)).mono ?_; rintro e w' ⟨rfl, rfl⟩) | (go_at_call 17; refine (taken_all _ _ _ _ (by omega) (by omega) (by omega) (by omega)).mono ?_; rintro e w' ⟨rfl, rfl⟩) | (go_at_call 18; refine (less_any _ _ _ _ (by omega) (by omega) (by omega) (by omega)).mono ?_; rintro e w' ⟨rfl, rfl⟩) | (go_at_call 19; refine (rtaken_all _ _ _ _ (by omega) (by omega) (by omega) (by omega)).mono ?_; rintro e w' ⟨rfl, rfl⟩))
  refine wp_loop_rounds 4 ?_
  repeat any_goals (rw [rounds_succ]; go_wp2_with (first | (go_at_call 12; refine (do_all _ _ _ _ (by omega) (by omega) (by omega) (by omega)).mono ?_; rintro e w' ⟨rfl, rfl⟩) | (go_at_call 14; refine (alive_any _).mono ?_; rintro e w' ⟨rfl, rfl⟩) | (go_at_call 15; refine (mul_all _ _ _ _ (by omega) (by omega) (by omega) (by omega)).mono ?_; rintro e w' ⟨rfl, rfl⟩) | (go_at_call 16; refine (rmul_all _ _ _ _ (by omega) (by omega) (by omega) (by omega)).mono ?_; rintro e w' ⟨rfl, rfl⟩) | (go_at_call 17; refine (taken_all _ _ _ _ (by omega) (by omega) (by omega) (by omega)).mono ?_; rintro e w' ⟨rfl, rfl⟩) | (go_at_call 18; refine (less_any _ _ _ _ (by omega) (by omega) (by omega) (by omega)).mono ?_; rintro e w' ⟨rfl, rfl⟩) | (go_at_call 19; refine (rtaken_all _ _ _ _ (by omega) (by omega) (by omega) (by omega)).mono ?_; rintro e w' ⟨rfl, rfl⟩)))
  refine wp_loop_rounds 3 ?_
  repeat any_goals (rw [rounds_succ]; go_wp2_with (first | (go_at_call 12; refine (do_all _ _ _ _ (by omega) (by omega) (by omega) (by omega)).mono ?_; rintro e w' ⟨rfl, rfl⟩) | (go_at_call 14; refine (alive_any _).mono ?_; rintro e w' ⟨rfl, rfl⟩) | (go_at_call 15; refine (mul_all _ _ _ _ (by omega) (by omega) (by omega) (by omega)).mono ?_; rintro e w' ⟨rfl, rfl⟩) | (go_at_call 16; refine (rmul_all _ _ _ _ (by omega) (by omega) (by omega) (by omega)).mono ?_; rintro e w' ⟨rfl, rfl⟩) | (go_at_call 17; refine (taken_all _ _ _ _ (by omega) (by omega) (by omega) (by omega)).mono ?_; rintro e w' ⟨rfl, rfl⟩) | (go_at_call 18; refine (less_any _ _ _ _ (by omega) (by omega) (by omega) (by omega)).mono ?_; rintro e w' ⟨rfl, rfl⟩) | (go_at_call 19; refine (rtaken_all _ _ _ _ (by omega) (by omega) (by omega) (by omega)).mono ?_; rintro e w' ⟨rfl, rfl⟩)))
  all_goals go_ret
  all_goals exact ⟨rfl, by go_grown⟩
end Go.Proofs.Ytdenefeckdlmdaa
