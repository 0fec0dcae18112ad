/- The walk of the statement GaugeMeans. Conditions: the slice reads as a list of doubles; the table of the powers of ten reads as it is laid. -/
import Derived.Test.YtmahjlmblgboaaaDoorMostC
namespace Go.Proofs.YtmahjlmblgboaaaDoor
open Go.RowKit
set_option linter.unusedVariables false
/-- two greatest rates of the same rates are the same -/
theorem mp_same {L M : List Nat} {r s : Nat} (hLM : ∀ y, y ∈ L ↔ y ∈ M) (h1 : L = [] → nanB r = true) (h2 : L ≠ [] → r ∈ L ∧ ∀ y ∈ L, tk y ≤ tk r) (k1 : M = [] → nanB s = true) (k2 : M ≠ [] → s ∈ M ∧ ∀ y ∈ M, tk y ≤ tk s) : sameB r s = true := by
  by_cases c : L = []
  · have c' : M = [] := by
      rw [c] at hLM
      exact List.eq_nil_iff_forall_not_mem.2 fun a ha => absurd ((hLM a).2 ha) (by simp)
    have e : tk r = tk s := by unfold tk; rw [if_pos (h1 c), if_pos (k1 c')]
    exact decide_eq_true e
  · have c' : M ≠ [] := fun h => c (by
      rw [h] at hLM
      exact List.eq_nil_iff_forall_not_mem.2 fun a ha => absurd ((hLM a).1 ha) (by simp))
    obtain ⟨a1, a2⟩ := h2 c
    obtain ⟨b1, b2⟩ := k2 c'
    have u1 := a2 s ((hLM s).2 b1)
    have u2 := b2 r ((hLM r).1 a1)
    exact decide_eq_true (by omega)
set_option maxRecDepth 100000 in
set_option maxHeartbeats 4000000 in
theorem means {w : World} (A : Option Addr) (n C : Nat) (L : List Nat) (e1 : L.length = n) (e2 : n ≤ C) (e3 : C ≤ 9223372036854775807) (e4 : Fl w A L) (e5 : ∀ x ∈ L, x < 18446744073709551616) (ht : TabAt w) : Calls Tryd.prog 8 #[.slice A n C] w fun e w' => e = .returned (.bool true) ∧ Below w.heap.size w w' := by
  obtain ⟨N, hN⟩ : ∃ N, min n 50 = N := ⟨_, rfl⟩
  have d1 : min (n : Int) 50 = (N : Int) := by omega
  have d2 : (if (50 : Int) < (n : Int) then (50 : Int) else (n : Int)) = (N : Int) := by split <;> omega
  have hNn : N ≤ n := by omega
  have bN : N ≤ 9223372036854775807 := by omega
  obtain ⟨M, hM⟩ : ∃ M, L.take N = M := ⟨_, rfl⟩
  have m1 := Lib.hid (show M.length = N by rw [← hM, List.length_take]; omega)
  have m2 := Lib.hid (show Fl w A M by rw [← hM]; exact e4.take N)
  have m3 := Lib.hid (show ∀ x ∈ M, x < 18446744073709551616 by rw [← hM]; exact fun x hx => e5 x (List.mem_of_mem_take hx))
  have T := Lib.hid ht
  clear ht hN hM e4 e5 e1
  go_enter Tryd.func8, Tryd.ntmps8
  go_wp2_with fail
  refine (alive_any _ T.out).mono ?_
  rintro e w1 ⟨rfl, hb1⟩
  have B1 := Lib.hid hb1
  clear hb1
  go_wp2_with fail
  refine (Mean_any A N _ M _ m1.out bN (m2.out.below B1.out)).mono ?_
  rintro e w2 ⟨r1, rfl, f1, hb2⟩
  have B2 := Lib.hid (B1.out.trans (hb2.mono B1.out.size))
  clear hb2 B1
  go_wp2_with fail
  refine (mean_any A N _ M _ m1.out bN (m2.out.below B2.out)).mono ?_
  rintro e w3 ⟨r2, rfl, f2, hb3⟩
  have B3 := Lib.hid (B2.out.trans (hb3.mono B2.out.size))
  have s12 := f1.same f2
  clear f1 f2 hb3 B2
  go_wp2_with fail
  refine (same_any r1 r2 _).mono ?_
  rw [s12]
  rintro e w' ⟨rfl, rfl⟩
  clear s12
  go_wp2_with fail
  refine (Most_any A N _ M _ m1.out bN (m2.out.below B3.out) m3.out).mono ?_
  rintro e w4 ⟨r3, rfl, q3, g3, h3, hb4⟩
  have B4 := Lib.hid (B3.out.trans (hb4.mono B3.out.size))
  have G3 := Lib.hid g3
  have H3 := Lib.hid h3
  clear hb4 B3 g3 h3
  go_wp2_with fail
  refine (most_any A N _ M _ m1.out bN (m2.out.below B4.out) m3.out).mono ?_
  rintro e w5 ⟨r4, rfl, q4, g4, h4, hb5⟩
  have B5 := Lib.hid (B4.out.trans (hb5.mono B4.out.size))
  have s34 := mp_same (fun y => Iff.rfl) G3.out H3.out g4 h4
  clear hb5 B4 g4 h4 G3 H3
  go_wp2_with fail
  refine (same_any r3 r4 _).mono ?_
  rw [s34]
  rintro e w' ⟨rfl, rfl⟩
  go_wp2
  go_ret
  exact ⟨rfl, B5.out⟩
end Go.Proofs.YtmahjlmblgboaaaDoor
