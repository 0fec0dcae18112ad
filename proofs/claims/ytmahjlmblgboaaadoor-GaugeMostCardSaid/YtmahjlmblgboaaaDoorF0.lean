/- Plain facts on rounding, with no program in sight: a magnitude's rung as a function of its value alone, and that it never falls. No conditions. -/
import Ieee.Arith
import Derived.Laws.FloatBits
namespace Go.Proofs.YtmahjlmblgboaaaDoor
open Ieee
set_option linter.unusedVariables false

/-- n / d to the nearest, between two to the even one -/
def rhe (n d : Nat) : Nat := n / d + (if d < 2 * (n % d) ∨ (d = 2 * (n % d) ∧ n / d % 2 = 1) then 1 else 0)
theorem rhe_spec (n d : Nat) (hd : 0 < d) : 2 * n ≤ 2 * (rhe n d * d) + d ∧ 2 * (rhe n d * d) ≤ 2 * n + d ∧ (2 * n = 2 * (rhe n d * d) + d → rhe n d % 2 = 0) ∧ (2 * (rhe n d * d) = 2 * n + d → rhe n d % 2 = 0) := by
  have h := Nat.div_add_mod n d
  have hr := Nat.mod_lt n hd
  unfold rhe
  generalize n / d = q at *
  generalize n % d = r at *
  rw [Nat.mul_comm] at h
  split
  · rename_i c
    rw [Nat.add_mul, Nat.one_mul]
    generalize q * d = P at *
    refine ⟨by omega, by omega, fun h => by omega, fun h => by omega⟩
  · rename_i c
    rw [Nat.add_zero]
    generalize q * d = P at *
    refine ⟨by omega, by omega, fun h => by omega, fun h => by omega⟩
theorem rhe_mono {n m d : Nat} (hd : 0 < d) (h : n ≤ m) : rhe n d ≤ rhe m d := by
  rcases Nat.lt_or_ge (rhe m d) (rhe n d) with c | c
  · have a := rhe_spec n d hd
    have b := rhe_spec m d hd
    have e : (rhe m d + 1) * d ≤ rhe n d * d := Nat.mul_le_mul_right d c
    rw [Nat.add_mul, Nat.one_mul] at e
    have h1 : rhe n d * d = rhe m d * d + d := by
      generalize rhe n d * d = X at *; generalize rhe m d * d = Y at *; omega
    have h2 : rhe n d = rhe m d + 1 := by
      have h1' : rhe n d * d = (rhe m d + 1) * d := by rw [Nat.add_mul, Nat.one_mul]; exact h1
      exact Nat.mul_right_cancel hd h1'
    have p1 : rhe n d % 2 = 0 := a.2.2.2 (by generalize rhe n d * d = X at *; generalize rhe m d * d = Y at *; omega)
    have p2 : rhe m d % 2 = 0 := b.2.2.1 (by generalize rhe n d * d = X at *; generalize rhe m d * d = Y at *; omega)
    omega
  · exact c
theorem rhe_scale (n d c : Nat) (hc : 0 < c) : rhe (n * c) (d * c) = rhe n d := by
  unfold rhe
  rw [Nat.mul_div_mul_right n d hc, Nat.mul_mod_mul_right c n d]
  have e1 : (d * c < 2 * (n % d * c)) = (d < 2 * (n % d)) := by
    rw [show 2 * (n % d * c) = 2 * (n % d) * c by rw [Nat.mul_assoc]]
    exact propext ⟨fun h => Nat.lt_of_mul_lt_mul_right h, fun h => Nat.mul_lt_mul_of_pos_right h hc⟩
  have e2 : (d * c = 2 * (n % d * c)) = (d = 2 * (n % d)) := by
    rw [show 2 * (n % d * c) = 2 * (n % d) * c by rw [Nat.mul_assoc]]
    exact propext ⟨fun h => Nat.mul_right_cancel hc h, fun h => by rw [← h]⟩
  simp only [e1, e2]
theorem rhe_exact (k d : Nat) (hd : 0 < d) : rhe (k * d) d = k := by
  unfold rhe
  rw [Nat.mul_div_cancel _ hd, Nat.mul_mod_left, if_neg (by omega), Nat.add_zero]
theorem rhe_zero (d : Nat) (hd : 0 < d) : rhe 0 d = 0 := by
  have := rhe_exact 0 d hd; rwa [Nat.zero_mul] at this
theorem rhe_le {n d k : Nat} (hd : 0 < d) (h : n ≤ k * d) : rhe n d ≤ k := by
  have := rhe_mono hd h; rwa [rhe_exact k d hd] at this
theorem le_rhe {n d k : Nat} (hd : 0 < d) (h : k * d ≤ n) : k ≤ rhe n d := by
  have := rhe_mono hd h; rwa [rhe_exact k d hd] at this

theorem gap_big {n drop : Nat} (h : n.log2 + 2 < drop) : n < 2 ^ (n.log2 + 2) ∧ 2 * n < 2 ^ (n.log2 + 2) ∧ 2 ^ (n.log2 + 2) ≤ 2 ^ drop := by
  have a : n < 2 ^ (n.log2 + 1) := Nat.lt_log2_self
  have b : 2 ^ (n.log2 + 2) = 2 * 2 ^ (n.log2 + 1) := by rw [Nat.pow_succ]; omega
  exact ⟨by omega, by omega, Nat.pow_le_pow_right (by decide) (by omega)⟩
theorem cut_even (neg : Bool) (n drop : Nat) : Toward.even.cut neg n drop = rhe n (2 ^ drop) := by
  unfold Toward.cut
  dsimp only
  rw [Nat.one_shiftLeft]
  rcases Nat.lt_or_ge (n.log2 + 2) drop with c | c
  · rw [Nat.min_eq_right (by omega)]
    obtain ⟨h1, h2, h3⟩ := gap_big c
    rw [Nat.div_eq_of_lt h1, Nat.mod_eq_of_lt h1]
    unfold rhe
    rw [Nat.div_eq_of_lt (show n < 2 ^ drop by omega), Nat.mod_eq_of_lt (show n < 2 ^ drop by omega), if_neg (by omega)]
    have e1 : decide (2 ^ (n.log2 + 2) < 2 * n) = false := decide_eq_false (by omega)
    have e2 : (2 ^ (n.log2 + 2) == 2 * n) = false := by rw [beq_eq_false_iff_ne]; omega
    rw [e1, e2]; rfl
  · rw [Nat.min_eq_left c]
    unfold rhe
    generalize 2 ^ drop = d
    by_cases h : d < 2 * (n % d) ∨ (d = 2 * (n % d) ∧ n / d % 2 = 1)
    · rw [if_pos h]
      have : (decide (d < 2 * (n % d)) || d == 2 * (n % d) && n / d % 2 == 1) = true := by simpa using h
      rw [this]; rfl
    · rw [if_neg h]
      have : (decide (d < 2 * (n % d)) || d == 2 * (n % d) && n / d % 2 == 1) = false := by
        rw [← Bool.not_eq_true]; simpa using h
      rw [this]; rfl
theorem cut_floor (way : Toward) (hw : way = .down ∨ way = .zero) (n drop : Nat) : way.cut false n drop = n / 2 ^ drop := by
  have e : way.cut false n drop = n / (1 <<< min drop (n.log2 + 2)) := by
    rcases hw with rfl | rfl <;> (unfold Toward.cut; simp)
  rw [e, Nat.one_shiftLeft]
  rcases Nat.lt_or_ge (n.log2 + 2) drop with c | c
  · rw [Nat.min_eq_right (by omega)]
    obtain ⟨h1, h2, h3⟩ := gap_big c
    rw [Nat.div_eq_of_lt h1, Nat.div_eq_of_lt (by omega)]
  · rw [Nat.min_eq_left c]

/-- the rungs to one binade -/
def B : Nat := 4503599627370496
theorem B_pow : B = 2 ^ 52 := by decide +kernel
/-- the rung of infinity -/
def I : Nat := 9218868437227405312
/-- the rung of the value N / 2 ^ (1074 + k) -/
def rk (N k : Nat) : Nat := if N = 0 then 0 else min ((max (N.log2 - 52) k - k) * B + rhe N (2 ^ max (N.log2 - 52) k)) I
theorem rk_le (N k : Nat) : rk N k ≤ I := by unfold rk; split; exact Nat.zero_le _; exact Nat.min_le_right _ _
theorem min_mono {a b c : Nat} (h : a ≤ b) : min a c ≤ min b c := by omega
theorem log2_scale (N k : Nat) (h : N ≠ 0) : (N * 2 ^ k).log2 = N.log2 + k := by
  have p : 0 < 2 ^ k := Nat.two_pow_pos k
  have hne : N * 2 ^ k ≠ 0 := Nat.mul_ne_zero h (by omega)
  rw [Nat.log2_eq_iff hne, Nat.pow_add, show N.log2 + k + 1 = (N.log2 + 1) + k by omega, Nat.pow_add]
  exact ⟨Nat.mul_le_mul_right _ (Nat.log2_self_le h), Nat.mul_lt_mul_of_pos_right Nat.lt_log2_self p⟩
theorem log2_le {n m : Nat} (h : n ≤ m) (hn : n ≠ 0) : n.log2 ≤ m.log2 :=
  (Nat.le_log2 (by omega)).2 (Nat.le_trans (Nat.log2_self_le hn) h)
/-- a greater value has no lower rung -/
theorem rk_mono (k : Nat) {N M : Nat} (h : N ≤ M) : rk N k ≤ rk M k := by
  by_cases hN : N = 0
  · subst hN; unfold rk; rw [if_pos rfl]; exact Nat.zero_le _
  have hM : M ≠ 0 := by omega
  have hl := log2_le h hN
  unfold rk
  rw [if_neg hN, if_neg hM]
  generalize hs : max (N.log2 - 52) k = s
  generalize ht : max (M.log2 - 52) k = t
  have hst : s ≤ t := by omega
  by_cases e : s = t
  · subst e
    exact min_mono (Nat.add_le_add_left (rhe_mono (d := 2 ^ s) (Nat.two_pow_pos s) h) _)
  · have h1 : rhe N (2 ^ s) ≤ 2 * B := by
      refine rhe_le (Nat.two_pow_pos s) ?_
      have a : N < 2 ^ (N.log2 + 1) := Nat.lt_log2_self
      have b : 2 ^ (N.log2 + 1) ≤ 2 ^ (53 + s) := Nat.pow_le_pow_right (by decide) (by omega)
      rw [Nat.pow_add 2 53 s] at b
      have c : 2 * B = 2 ^ 53 := by decide +kernel
      rw [c]; exact Nat.le_of_lt (Nat.lt_of_lt_of_le a b)
    have h2 : B ≤ rhe M (2 ^ t) := by
      refine le_rhe (Nat.two_pow_pos t) ?_
      have a := Nat.log2_self_le hM
      rw [show M.log2 = 52 + t by omega, Nat.pow_add] at a
      rw [B_pow]; exact a
    have h3 : (s - k + 1) * B ≤ (t - k) * B := Nat.mul_le_mul_right B (by omega)
    rw [Nat.add_mul, Nat.one_mul] at h3
    refine min_mono ?_
    generalize (s - k) * B = X at *
    generalize (t - k) * B = Y at *
    generalize rhe N (2 ^ s) = Z at *
    generalize rhe M (2 ^ t) = W at *
    generalize B = b at *
    omega
theorem rk_scale (N k c : Nat) : rk (N * 2 ^ c) (k + c) = rk N k := by
  by_cases hN : N = 0
  · subst hN; unfold rk; simp
  have p : 0 < 2 ^ c := Nat.two_pow_pos c
  unfold rk
  rw [if_neg hN, if_neg (Nat.mul_ne_zero hN (by omega)), log2_scale N c hN, show max (N.log2 + c - 52) (k + c) = max (N.log2 - 52) k + c by omega, Nat.pow_add, rhe_scale _ _ _ p, show max (N.log2 - 52) k + c - (k + c) = max (N.log2 - 52) k - k by omega]
theorem d_frac : double.fractionBits = 52 := rfl
theorem d_least : double.leastPlace = -1074 := by decide +kernel
theorem d_binade : double.binade = B := by decide +kernel
theorem d_inf : double.infRung = I := by decide +kernel
theorem d_sign : double.signWeight = 9223372036854775808 := by decide +kernel
/-- how the format rounds: its rung is a function of the value -/
theorem nearest_rk (neg : Bool) (m : Nat) (p : Int) (k : Nat) (h : -1074 - (k : Int) ≤ p) : double.nearest neg m p = double.word neg (rk (m * 2 ^ (p + 1074 + k).toNat) k) := by
  unfold Format.nearest
  rw [d_frac, d_least, d_binade, d_inf]
  by_cases hm : m = 0
  · rw [if_pos hm]; subst hm; unfold rk; rw [Nat.zero_mul, if_pos rfl]
  rw [if_neg hm]
  obtain ⟨c, hc⟩ : ∃ c : Nat, p + 1074 + (k : Int) = c := ⟨(p + 1074 + k).toNat, by omega⟩
  have hN : m * 2 ^ c ≠ 0 := Nat.mul_ne_zero hm (Nat.pos_iff_ne_zero.1 (Nat.two_pow_pos c))
  have hL := log2_scale m c hm
  obtain ⟨s, hs⟩ : ∃ s, max ((m * 2 ^ c).log2 - 52) k = s := ⟨_, rfl⟩
  have hsk : k ≤ s := by omega
  have hlast : max (p + (m.log2 : Int) - (52 : Nat)) (-1074) = (s : Int) - 1074 - (k : Int) := by omega
  have key : Toward.even.cut neg (m <<< (p - ((s : Int) - 1074 - (k : Int))).toNat) (((s : Int) - 1074 - (k : Int)) - p).toNat = rhe (m * 2 ^ c) (2 ^ s) := by
    rw [cut_even, Nat.shiftLeft_eq]
    rcases Nat.lt_or_ge c s with d | d
    · rw [show (p - ((s : Int) - 1074 - (k : Int))).toNat = 0 by omega, show ((s : Int) - 1074 - (k : Int) - p).toNat = s - c by omega, Nat.pow_zero, Nat.mul_one]
      have := rhe_scale m (2 ^ (s - c)) (2 ^ c) (Nat.two_pow_pos c)
      rw [← Nat.pow_add, show s - c + c = s by omega] at this
      exact this.symm
    · rw [show (p - ((s : Int) - 1074 - (k : Int))).toNat = c - s by omega, show ((s : Int) - 1074 - (k : Int) - p).toNat = 0 by omega, Nat.pow_zero]
      have := rhe_scale (m * 2 ^ (c - s)) 1 (2 ^ s) (Nat.two_pow_pos s)
      rw [Nat.one_mul, Nat.mul_assoc, ← Nat.pow_add, show c - s + s = c by omega] at this
      exact this.symm
  show double.word neg (min ((max (p + (m.log2 : Int) - (52 : Nat)) (-1074) - -1074).toNat * B + Toward.even.cut neg (m <<< (p - max (p + (m.log2 : Int) - (52 : Nat)) (-1074)).toNat) (max (p + (m.log2 : Int) - (52 : Nat)) (-1074) - p).toNat) I) = _
  rw [hlast, key, show ((s : Int) - 1074 - (k : Int) - -1074).toNat = s - k by omega, show (p + 1074 + (k : Int)).toNat = c by omega]
  unfold rk
  rw [if_neg hN, hs]
end Go.Proofs.YtmahjlmblgboaaaDoor
