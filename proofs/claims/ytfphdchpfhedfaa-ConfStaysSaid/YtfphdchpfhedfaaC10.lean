/- Contracts at a cleaned shape; that nothing runs at the least shape. Conditions: the slices read as lists. -/
import Derived.Test.YtfphdchpfhedfaaC4
import Derived.Test.YtfphdchpfhedfaaC7
namespace Go.Proofs.Ytfphdchpfhedfaa
open Go.ChangeShapes Go.WideShapes Go.ChangeAt Go.RowKit
set_option linter.unusedVariables false
theorem cl_cl (lo hi x : Int) (h : lo ≤ hi) : cl lo hi (cl lo hi x) = cl lo hi x := by
  have := cl_bd lo hi x h
  exact cl_in this.1 this.2
theorem cs_cs (se : Int) : cs (cs se) = cs se := by
  have h := cl_bd 1 4 se (by decide)
  have : cs se = 1 ∨ cs se = 2 ∨ cs se = 4 := by unfold cs; split <;> omega
  rcases this with e | e | e <;> rw [e] <;> decide
theorem la_la (L : List Int) : la (la L) = la L := by
  unfold la
  rw [List.take_of_length_le (by simp; omega), List.map_map]
  congr 1
  funext x
  exact cl_cl 1 8 x (by decide)
theorem ta_ta (T : List Int) : ta (ta T) = ta T := by unfold ta; rw [List.take_take]; rfl
theorem mov_la (L : List Int) : mov (la L) = mov L := by unfold mov; rw [la_la]
theorem wi_cl (lo hi x : Int) (h : lo ≤ hi) : wi lo hi (cl lo hi x) = true := by
  have := cl_bd lo hi x h
  unfold wi; simp; omega
theorem right_clean (m wd ro qu st sl se wa : Int) (L : List Int) (n n2 : Nat) (hn : n ≤ 64) (h2 : n2 ≤ 64) :
    rightB (cl 0 2 m) (cl 1 2 wd) (cl 2 8 ro) (cl 1 4 qu) (cl 1 4 st) (cl 2 6 sl) (cs se) (cl 1 2 wa) (la L) n n2 = true := by
  have a : (la L).all (wi 1 8) = true := by
    rw [List.all_eq_true]
    intro x hx
    unfold la at hx
    rw [List.mem_map] at hx
    obtain ⟨y, _, rfl⟩ := hx
    exact wi_cl 1 8 y (by decide)
  have b := cs_bd se
  have c : wi 1 4 (cs se) = true := by unfold wi; simp; omega
  have d : (cs se != 3) = true := by
    have h := cl_bd 1 4 se (by decide)
    rw [bne_iff_ne]; unfold cs; split <;> omega
  have e1 : decide ((n : Int) ≤ 64) = true := by simp; omega
  have e2 : decide ((n2 : Int) ≤ 64) = true := by simp; omega
  unfold rightB
  rw [a, wi_cl 0 2 m (by decide), wi_cl 1 2 wd (by decide), wi_cl 2 8 ro (by decide), wi_cl 1 4 qu (by decide), wi_cl 1 4 st (by decide), wi_cl 2 6 sl (by decide), c, d, wi_cl 1 2 wa (by decide), e1, e2]
  rfl
theorem wi_in {lo hi x : Int} (h : wi lo hi x = true) : cl lo hi x = x := by
  unfold wi at h; simp at h; exact cl_in h.1 h.2
/-- what is right stays, cleaned -/
theorem right_stays {m wd ro qu st sl se wa : Int} {L : List Int} {n n2 : Nat} (hn : L.length = n) (h : rightB m wd ro qu st sl se wa L n n2 = true) :
    cl 0 2 m = m ∧ cl 1 2 wd = wd ∧ cl 2 8 ro = ro ∧ cl 1 4 qu = qu ∧ cl 1 4 st = st ∧ cl 2 6 sl = sl ∧ cs se = se ∧ cl 1 2 wa = wa ∧ la L = L ∧ n ≤ 64 ∧ n2 ≤ 64 := by
  unfold rightB at h
  simp only [Bool.and_eq_true] at h
  obtain ⟨h0, ⟨⟨⟨⟨⟨⟨⟨⟨⟨⟨h1, h2⟩, h3⟩, h4⟩, h5⟩, h6⟩, h7⟩, h8⟩, h9⟩, h10⟩, h11⟩⟩ := h
  have q1 : (n : Int) ≤ 64 := by simpa using h10
  have q2 : (n2 : Int) ≤ 64 := by simpa using h11
  have e : cs se = se := by
    have := wi_in h7
    have h8' : se ≠ 3 := by simpa using h8
    unfold cs; rw [this, if_neg h8']
  refine ⟨wi_in h1, wi_in h2, wi_in h3, wi_in h4, wi_in h5, wi_in h6, e, wi_in h9, ?_, by omega, by omega⟩
  unfold la
  rw [List.take_of_length_le (by omega)]
  rw [List.all_eq_true] at h0
  conv => rhs; rw [← List.map_id L]
  exact List.map_congr_left fun x hx => wi_in (h0 x hx)
theorem lav_bd (L : List Int) (k : Int) : 1 ≤ lav L k ∧ lav L k ≤ mov L := by
  have hm := mov_bd L
  unfold lav
  split
  · omega
  · rename_i h
    have hp := pl_bd k (la L).length (by omega)
    have hj : (pl k (la L).length).toNat < (la L).length := by omega
    have b := la_bd L _ hj
    refine ⟨b.1, ?_⟩
    have key : ∀ n : Nat, n ≤ (la L).length → ∀ j, j < n → (la L).getD j 0 ≤ mok L n := by
      intro n
      induction n with
      | zero => intro _ j hj; omega
      | succ n ih =>
        intro hn j hj
        rw [mok_succ L n (by omega)]
        by_cases e : j = n
        · subst e; split <;> omega
        · have := ih (by omega) j (by omega)
          split <;> omega
    have := key _ (Nat.le_refl _) _ hj
    rw [mok_all] at this; exact this
theorem bo_more (st sl se wa mo : Int) (h1 : 1 ≤ st ∧ st ≤ 4) (h2 : 2 ≤ sl ∧ sl ≤ 6) (h3 : 0 ≤ se * wa) (h4 : 1 ≤ mo) : 60 + mo < bo st sl se wa mo := by
  unfold bo
  have a : (7 : Int) * (mo + 1) ≤ (sl + st + se * wa + 4) * (mo + 1) := Int.mul_le_mul_of_nonneg_right (by omega) (by omega)
  have b : (sl + st + se * wa + 4) * (mo + 1) * 1 ≤ (sl + st + se * wa + 4) * (mo + 1) * (st + 3) := Int.mul_le_mul_of_nonneg_left (by omega) (by omega)
  omega
theorem dr_more (st sl se wa mo : Int) (h1 : 1 ≤ st ∧ st ≤ 4) (h2 : 2 ≤ sl ∧ sl ≤ 6) (h3 : 0 ≤ se * wa) (h4 : 1 ≤ mo) : 60 + mo < dr st sl se wa mo := by
  unfold dr
  have a : (14 : Int) * (mo + 1) ≤ 2 * (sl + st + se * wa + 4) * (mo + 1) := Int.mul_le_mul_of_nonneg_right (by omega) (by omega)
  have b : 2 * (sl + st + se * wa + 4) * (mo + 1) * 1 ≤ 2 * (sl + st + se * wa + 4) * (mo + 1) * (st + se * wa + 2) := Int.mul_le_mul_of_nonneg_left (by omega) (by omega)
  omega
set_option maxHeartbeats 4000000 in
theorem alive_any (w : World) : Calls Try.prog 10 #[] w fun e w' => e = .returned (.bool true) ∧ Below w.heap.size w w' := by
  have f1 := @fld1
  have r : rightB 0 0 0 0 0 0 0 0 [] 0 0 = false := by decide
  have c1 : (cl 1 2 0 == 1) = true := by decide
  go_enter Try.func10, Try.ntmps10
  go_wp2_with fail
  refine (clean_all 0 0 0 0 0 0 0 0 none none 0 0 [] [] false 0 0 _ rfl rfl (by omega) (by omega) (Sl.none_ _ _ _) (Sl.none_ _ _ _)).mono ?_
  rintro e w1 ⟨g, g2, N, N2, rfl, l1, l2, m1, m2, s1, s2, hb, hg, hg2⟩
  have HB := Lib.hid hb
  clear hb s1 s2 l1 l2 hg hg2
  go_wp2_with (go_at_call 13; refine (right_any 0 0 0 0 0 0 0 0 none none 0 0 0 0 false [] _ rfl (by omega) (by omega) (Sl.none_ _ _ _)).mono ?_; rintro e w' ⟨rfl, hb⟩)
  go_ret
  exact ⟨rfl, HB.out.trans (hb.mono HB.out.size)⟩
end Go.Proofs.Ytfphdchpfhedfaa
