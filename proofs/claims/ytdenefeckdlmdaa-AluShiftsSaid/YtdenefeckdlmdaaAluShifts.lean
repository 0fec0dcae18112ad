/- Of every input the statement AluShifts answers true. No conditions. -/
import Derived.Test.YtdenefeckdlmdaaRows
import Derived.WalkKit
import Derived.ProofKit
import Derived.OpenShut
import Derived.Test.YtdenefeckdlmdaaC2
namespace Go.Proofs.Ytdenefeckdlmdaa.aluShifts
open Go.ChangeShapes Go.WideShapes Go.ChangeAt Go.RowKit
set_option linter.unusedVariables false      -- a walk need not use every 'w<i>' (that an integer argument fits its kind)

theorem own : ownKnob Try.prog.godebug = none := by kernel_rfl

/-! ### STEP 1: THE WALK: the Go text returns true. 'Grown w w'': the world has at most new blocks (Derived/RowKit3.lean). Part the cases AHEAD of 'go_enter' where a test parts the walk; take each callee by a contract of your own. -/
set_option maxHeartbeats 2000000 in
set_option maxRecDepth 100000 in
theorem walk (a0 : Int) (a1 : Int) (a2 : Int) (w0 : (Lit.int .u32 a0).wf = true) (w1 : (Lit.int .u32 a1).wf = true) (w2 : (Lit.int .u32 a2).wf = true) (w : World) :
    Calls Try.prog 4 #[.int .u32 a0, .int .u32 a1, .int .u32 a2] w fun e w' => e = .returned (.bool true) ∧ Grown w w' := by
  obtain ⟨h0, k0⟩ := bounds_u32 w0
  obtain ⟨h1, k1⟩ := bounds_u32 w1
  obtain ⟨h2, k2⟩ := bounds_u32 w2
  clear w0 w1 w2
  have A := and31 a1 h1 k1
  have B := and31 a2 h2 k2
  obtain ⟨s, hs⟩ : ∃ s, bits .and .u32 a1 31 = s := ⟨_, rfl⟩
  obtain ⟨t, ht⟩ : ∃ t, bits .and .u32 a2 31 = t := ⟨_, rfl⟩
  have s0 : 0 ≤ s := by omega
  have s1 : s ≤ 31 := by omega
  have t0 : 0 ≤ t := by omega
  have t1 : t ≤ 31 := by omega
  clear A B
  have b1 := ad_bd 30 a0 s h0 k0 s0 (by omega)
  have b2 := ad_bd 34 a0 s h0 k0 s0 (by omega)
  have b3 := ad_bd 35 a0 s h0 k0 s0 (by omega)
  have e1 : (ad 34 (ad 30 a0 s) s != bits .and .u32 a0 (4294967295 / 2 ^ s.toNat)) = false := by rw [shifts_up a0 s h0 k0 s0 s1]; simp
  have e2 : (ad 30 (ad 34 a0 s) s != bits .and .u32 a0 (4294967295 * 2 ^ s.toNat % 4294967296)) = false := by rw [shifts_down a0 s h0 k0 s0 s1]; simp
  by_cases c : 31 < s + t
  · go_enter Try.func4, Try.ntmps4
    go_wp2_with (first | (go_at_call 12; refine (do_all _ _ _ _ (by omega) (by omega) (by omega) (by omega)).mono ?_; rintro e w' ⟨rfl, rfl⟩) | (go_at_call 14; refine (alive_any _).mono ?_; rintro e w' ⟨rfl, rfl⟩) | (go_at_call 15; refine (mul_all _ _ _ _ (by omega) (by omega) (by omega) (by omega)).mono ?_; rintro e w' ⟨rfl, rfl⟩) | (go_at_call 16; refine (rmul_all _ _ _ _ (by omega) (by omega) (by omega) (by omega)).mono ?_; rintro e w' ⟨rfl, rfl⟩) | (go_at_call 17; refine (taken_all _ _ _ _ (by omega) (by omega) (by omega) (by omega)).mono ?_; rintro e w' ⟨rfl, rfl⟩) | (go_at_call 18; refine (less_any _ _ _ _ (by omega) (by omega) (by omega) (by omega)).mono ?_; rintro e w' ⟨rfl, rfl⟩) | (go_at_call 19; refine (rtaken_all _ _ _ _ (by omega) (by omega) (by omega) (by omega)).mono ?_; rintro e w' ⟨rfl, rfl⟩))
    all_goals go_ret
    all_goals exact ⟨rfl, Grown.refl _⟩
  · have c' : s + t ≤ 31 := by omega
    have e3 : (ad 30 (ad 30 a0 s) t != ad 30 a0 (s + t)) = false := by rw [shl_shl a0 s t s0 t0 c']; simp
    have e4 : (ad 34 (ad 34 a0 s) t != ad 34 a0 (s + t)) = false := by rw [shr_shr a0 s t s0 t0 c']; simp
    have e5 : (ad 35 (ad 35 a0 s) t != ad 35 a0 (s + t)) = false := by rw [sra_sra a0 s t s0 t0 c']; simp
    go_enter Try.func4, Try.ntmps4
    go_wp2_with (first | (go_at_call 12; refine (do_all _ _ _ _ (by omega) (by omega) (by omega) (by omega)).mono ?_; rintro e w' ⟨rfl, rfl⟩) | (go_at_call 14; refine (alive_any _).mono ?_; rintro e w' ⟨rfl, rfl⟩) | (go_at_call 15; refine (mul_all _ _ _ _ (by omega) (by omega) (by omega) (by omega)).mono ?_; rintro e w' ⟨rfl, rfl⟩) | (go_at_call 16; refine (rmul_all _ _ _ _ (by omega) (by omega) (by omega) (by omega)).mono ?_; rintro e w' ⟨rfl, rfl⟩) | (go_at_call 17; refine (taken_all _ _ _ _ (by omega) (by omega) (by omega) (by omega)).mono ?_; rintro e w' ⟨rfl, rfl⟩) | (go_at_call 18; refine (less_any _ _ _ _ (by omega) (by omega) (by omega) (by omega)).mono ?_; rintro e w' ⟨rfl, rfl⟩) | (go_at_call 19; refine (rtaken_all _ _ _ _ (by omega) (by omega) (by omega) (by omega)).mono ?_; rintro e w' ⟨rfl, rfl⟩))
    refine wp_loop_rounds 4 ?_
    repeat any_goals (rw [rounds_succ]; go_wp2_with (first | (go_at_call 12; refine (do_all _ _ _ _ (by omega) (by omega) (by omega) (by omega)).mono ?_; rintro e w' ⟨rfl, rfl⟩) | (go_at_call 14; refine (alive_any _).mono ?_; rintro e w' ⟨rfl, rfl⟩) | (go_at_call 15; refine (mul_all _ _ _ _ (by omega) (by omega) (by omega) (by omega)).mono ?_; rintro e w' ⟨rfl, rfl⟩) | (go_at_call 16; refine (rmul_all _ _ _ _ (by omega) (by omega) (by omega) (by omega)).mono ?_; rintro e w' ⟨rfl, rfl⟩) | (go_at_call 17; refine (taken_all _ _ _ _ (by omega) (by omega) (by omega) (by omega)).mono ?_; rintro e w' ⟨rfl, rfl⟩) | (go_at_call 18; refine (less_any _ _ _ _ (by omega) (by omega) (by omega) (by omega)).mono ?_; rintro e w' ⟨rfl, rfl⟩) | (go_at_call 19; refine (rtaken_all _ _ _ _ (by omega) (by omega) (by omega) (by omega)).mono ?_; rintro e w' ⟨rfl, rfl⟩)))
    all_goals go_ret
    all_goals exact ⟨rfl, by go_grown⟩

/-! ### THE ROW's STEP: WRITTEN OUT: LEAVE IT -/
set_option maxRecDepth 100000 in
theorem lifted (os : Os) (started : os.Started) (H : Type) (enc : TypeId × Value → H) :
    ReturnsInHanded {} Try.checked os 4 .any (Rows.aluShiftsSpec.pre6 enc Try.prog Try.f4 Rows.aluShiftsRow.domain false) (Rows.aluShiftsSpec.post enc Try.prog Try.f4 false true false false) := by
  refine returnsInHanded_of_change (C := Try.checked) own started (by kernel_rfl) Try.func4
    (ChangeSpec.witness6 (enc := enc) (C := Try.checked) false ⟨#[], #[.int .u32 0, .int .u32 0, .int .u32 0], []⟩ 8 (by kernel_rfl) (by kernel_rfl) (by kernel_rfl) (by kernel_rfl)) ?_
  intro W base args ds gs before hval0 hW hcnd _
  have hval : ∀ (j : Nat) t v, Try.f4.params[j]? = some t → args[j]? = some v → Value.okWide Try.prog W .any base t v := hval0
  have hW' := hW
  obtain ⟨p, q, hA0, hV, rfl, hfz, hnd⟩ := hW
  have hA : DataW.TrodAll enc Try.prog W 0 (fun _ => true) true Try.f4.params.toList args.toList ds p := hA0
  rw [Try.params4] at hA hval
  obtain ⟨v0, vs0, d0, ds0, p0, q0, hargs, rfl, rfl, h0, r0⟩ := trodAll_cons hA
  obtain ⟨v1, vs1, d1, ds1, p1, q1, rfl, rfl, rfl, h1, r1⟩ := trodAll_cons r0
  obtain ⟨v2, vs2, d2, ds2, p2, q2, rfl, rfl, rfl, h2, r2⟩ := trodAll_cons r1
  obtain ⟨rfl, rfl, rfl⟩ := trodAll_nil r2
  obtain rfl : args = #[v0, v1, v2] := by cases args; simp_all
  obtain ⟨rfl, rfl⟩ := trodVars_none hV
  obtain ⟨a0, rfl, rfl, rfl, w0⟩ := open_int Try.underlying22 (hval 0 22 v0 rfl rfl) h0
  obtain ⟨a1, rfl, rfl, rfl, w1⟩ := open_int Try.underlying22 (hval 1 22 v1 rfl rfl) h1
  obtain ⟨a2, rfl, rfl, rfl, w2⟩ := open_int Try.underlying22 (hval 2 22 v2 rfl rfl) h2
  clear hA0 hval0
  simp only [List.append_nil] at hW'
  refine (walk a0 a1 a2 w0 w1 w2 W).mono fun e W' ⟨he, hg⟩ => ?_
  subst he
  exact ⟨_, rfl, post_of_same (pa := []) (pv := []) hW' (fun _ _ _ => (trodAll_cons_mk (shut_bool Try.underlying4 _) trodAll_mk0)) (fun sp _ => (trodAll_cons_mk (shut_int Try.underlying22 w0) (trodAll_cons_mk (shut_int Try.underlying22 w1) (trodAll_cons_mk (shut_int Try.underlying22 w2) trodAll_mk0)))) (fun _ _ => rfl) rfl
    (hg.frame _) hg.2.1 (ok_one (by kernel_rfl) rfl (okWide_bool_mk Try.underlying4 _))⟩

theorem over : Rows.aluShiftsRow.holds Try.pinned (OpenSpec.ofChange Rows.aluShiftsSpec) :=
  OpenClaim.holds_of_wide 4 Try.f4 rfl rfl rfl rfl rfl rfl rfl ⟨rfl, rfl, rfl, rfl, rfl⟩ rfl rfl rfl rfl rfl (by kernel_rfl) Try.func4 (by kernel_rfl)
    (of_decide_eq_true (by kernel_rfl)) (by unfold Func.isWrapper; first | (rw [if_pos (by decide +kernel)]; kernel_rfl) | (rw [if_neg (by decide +kernel)]; exact ⟨rfl, rfl⟩))
    (fun os started H enc _ => lifted os started H enc)

/-- the statement -/
theorem proved : Rows.AluShiftsSaid :=
  over
#print axioms proved
end Go.Proofs.Ytdenefeckdlmdaa.aluShifts
