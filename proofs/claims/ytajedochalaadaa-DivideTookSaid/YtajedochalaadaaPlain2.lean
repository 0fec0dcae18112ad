/- The plain arithmetic of bits and of how long divisions take, with no program in sight. No conditions. -/
import Derived.Test.YtajedochalaadaaPlain
import Derived.Lib.BitFns
namespace Go.Proofs.Ytajedochalaadaa
open Go.RowKit

/-- how many bits a number has -/
def bl (x : Int) : Int := (Lib.bitLen x.toNat : Int)
/-- the size of a word, of an op -/
def szo (op x : Int) : Int := if op = 42 ∨ op = 44 then szz x else x
/-- how long a division takes -/
def tk (op x y : Int) : Int :=
  if op < 42 ∨ 45 < op then 0 else if y = 0 ∨ szo op x < szo op y then 2 else 3 + bl (szo op x) - bl (szo op y)

theorem two_pow_mono {m n : Nat} (h : m ≤ n) : (2 : Int) ^ m ≤ 2 ^ n := by
  have := Nat.pow_le_pow_right (n := 2) (by decide) h
  exact_mod_cast this
theorem bl_zero : bl 0 = 0 := by decide
theorem bl_half {x : Int} (h0 : 1 ≤ x) (h1 : x ≤ 4294967295) : bl x = 1 + bl (x / 2) := by
  unfold bl
  rw [Lib.bitLen_half x.toNat (by omega) (by omega), show (x / 2).toNat = x.toNat / 2 by omega]; omega
theorem bl_nonneg (x : Int) : 0 ≤ bl x := by unfold bl; omega
theorem bl_le : ∀ (n : Nat) (x : Int), 0 ≤ x → x < 2 ^ n → n ≤ 32 → bl x ≤ n
  | 0, x, h0, h, _ => by
    have : x = 0 := by simp at h; omega
    subst this; decide
  | n + 1, x, h0, h, hn => by
    by_cases hx : x = 0
    · subst hx; have := bl_zero; omega
    · have hp : (2 : Int) ^ (n + 1) ≤ 2 ^ 32 := two_pow_mono hn
      have h3 : (2 : Int) ^ 32 = 4294967296 := by decide
      rw [bl_half (by omega) (by omega)]
      have := bl_le n (x / 2) (by omega) (by rw [Int.pow_succ] at h; omega) (by omega)
      omega
theorem bl_32 {x : Int} (h0 : 0 ≤ x) (h1 : x ≤ 4294967295) : 0 ≤ bl x ∧ bl x ≤ 32 :=
  ⟨bl_nonneg x, bl_le 32 x h0 (by simp only [show (2 : Int) ^ 32 = 4294967296 by decide]; omega) (Nat.le_refl _)⟩
theorem bl_pos {x : Int} (h0 : 1 ≤ x) (h1 : x ≤ 4294967295) : 1 ≤ bl x := by
  have := bl_half h0 h1; have := bl_nonneg (x / 2); omega
/-- two powers of two hold a number between them -/
theorem bl_pow : ∀ (n : Nat) (x : Int), 1 ≤ x → x ≤ 4294967295 → bl x = (n : Int) + 1 → 2 ^ n ≤ x ∧ x < 2 * 2 ^ n
  | 0, x, h0, h1, h => by
    rw [bl_half h0 h1] at h
    have : x / 2 = 0 := by
      rcases Int.lt_or_le (x / 2) 1 with c | c
      · omega
      · have := bl_pos c (by omega); omega
    simp; omega
  | n + 1, x, h0, h1, h => by
    rw [bl_half h0 h1] at h
    have hx : 1 ≤ x / 2 := by
      rcases Int.lt_or_le (x / 2) 1 with c | c
      · have e : x / 2 = 0 := by omega
        rw [e, bl_zero] at h; omega
      · exact c
    have := bl_pow n (x / 2) hx (by omega) (by omega)
    rw [Int.pow_succ]; omega
theorem bl_mono {x y : Int} (h0 : 0 ≤ x) (h : x ≤ y) (h1 : y ≤ 4294967295) : bl x ≤ bl y := by
  by_cases hx : x = 0
  · subst hx; rw [bl_zero]; exact bl_nonneg y
  · rcases Int.lt_or_le (bl y) (bl x) with c | c
    · have a := bl_pos (x := x) (by omega) (by omega)
      have b := bl_pos (x := y) (by omega) (by omega)
      obtain ⟨n, hn⟩ := Int.eq_ofNat_of_zero_le (show 0 ≤ bl x - 1 by omega)
      obtain ⟨m, hm⟩ := Int.eq_ofNat_of_zero_le (show 0 ≤ bl y - 1 by omega)
      have p := bl_pow n x (by omega) (by omega) (by omega)
      have q := bl_pow m y (by omega) (by omega) (by omega)
      have e : (2 : Int) * 2 ^ m ≤ 2 ^ n := by
        have := two_pow_mono (show m + 1 ≤ n by omega)
        rw [Int.pow_succ] at this; omega
      omega
    · exact c
theorem szz_bd {x : Int} (h0 : 0 ≤ x) (h1 : x ≤ 4294967295) : 0 ≤ szz x ∧ szz x ≤ 4294967295 := by unfold szz; split <;> omega
theorem szo_bd (op : Int) {x : Int} (h0 : 0 ≤ x) (h1 : x ≤ 4294967295) : 0 ≤ szo op x ∧ szo op x ≤ 4294967295 := by
  have := szz_bd h0 h1; unfold szo; split <;> omega
theorem szo_pos (op : Int) {x : Int} (h0 : 1 ≤ x) (h1 : x ≤ 4294967295) : 1 ≤ szo op x := by
  unfold szo szz; split
  · split <;> omega
  · omega
theorem szo42 (x : Int) : szo 42 x = szz x := by simp [szo]
theorem szo43 (x : Int) : szo 43 x = x := by simp [szo]
theorem szo44 (x : Int) : szo 44 x = szz x := by simp [szo]
theorem szo45 (x : Int) : szo 45 x = x := by simp [szo]
theorem tk_out {op : Int} (x y : Int) (h : op < 42 ∨ 45 < op) : tk op x y = 0 := by unfold tk; rw [if_pos h]
theorem tk_two {op : Int} (x y : Int) (h : 42 ≤ op ∧ op ≤ 45) (c : y = 0 ∨ szo op x < szo op y) : tk op x y = 2 := by
  unfold tk; rw [if_neg (by omega), if_pos c]
theorem tk_more {op : Int} (x y : Int) (h : 42 ≤ op ∧ op ≤ 45) (c : y ≠ 0) (c' : szo op y ≤ szo op x) : tk op x y = 3 + bl (szo op x) - bl (szo op y) := by
  unfold tk; rw [if_neg (by omega), if_neg (by omega)]
theorem tk_bd (op : Int) {x y : Int} (h : 42 ≤ op ∧ op ≤ 45) (h0 : 0 ≤ x) (h1 : x ≤ 4294967295) (g0 : 0 ≤ y) (g1 : y ≤ 4294967295) : 2 ≤ tk op x y ∧ tk op x y ≤ 34 := by
  by_cases c : y = 0 ∨ szo op x < szo op y
  · rw [tk_two x y h c]; omega
  · rw [tk_more x y h (by omega) (by omega)]
    have b := szo_bd op h0 h1
    have d := szo_pos op (x := y) (by omega) g1
    have e := bl_32 b.1 b.2
    have f := bl_mono (x := szo op y) (by omega) (show szo op y ≤ szo op x by omega) b.2
    have g := bl_pos d (by omega)
    omega
/-- of any size and sign -/
theorem sg_tdiv_bd (x y : Int) (h0 : 0 ≤ x) (h1 : x ≤ 4294967295) : -2147483648 ≤ (sg x).tdiv (sg y) ∧ (sg x).tdiv (sg y) ≤ 2147483648 := by
  have b := sg_bd h0 h1
  have := Int.natAbs_tdiv_le_natAbs (sg x) (sg y)
  omega
theorem sg_tmod_bd (x y : Int) (h0 : 0 ≤ x) (h1 : x ≤ 4294967295) : -2147483648 ≤ (sg x).tmod (sg y) ∧ (sg x).tmod (sg y) ≤ 2147483648 := by
  have b := sg_bd h0 h1
  have e : ((sg x).tmod (sg y)).natAbs = (sg x).natAbs % (sg y).natAbs := Int.natAbs_tmod _ _
  have := Nat.mod_le (sg x).natAbs (sg y).natAbs
  omega
/-- signs turned -/
theorem sg_turn {x : Int} (h0 : 0 ≤ x) (h1 : x ≤ 4294967295) (h : x ≠ 2147483648) : sg (-x % 4294967296) = -(sg x) := by unfold sg; split <;> split <;> omega
theorem least_turn : (-(2147483648 : Int)) % 4294967296 = 2147483648 := by decide
theorem turn_least {x : Int} (h0 : 0 ≤ x) (h1 : x ≤ 4294967295) (h : x ≠ 2147483648) : (sg x).tdiv (-2147483648) = 0 ∧ (sg x).tmod (-2147483648) = sg x := by
  have hb : -2147483648 < sg x ∧ sg x < 2147483648 := by unfold sg; split <;> omega
  constructor
  · rw [Int.tdiv_neg]
    rcases Int.le_total 0 (sg x) with c | c
    · rw [Int.tdiv_eq_ediv_of_nonneg c, Int.ediv_eq_zero_of_lt c hb.2]; rfl
    · have : (sg x).tdiv 2147483648 = -((-sg x) / 2147483648) := by
        rw [← Int.tdiv_eq_ediv_of_nonneg (by omega), Int.neg_tdiv, Int.neg_neg]
      rw [this, Int.ediv_eq_zero_of_lt (by omega) (by omega)]; rfl
  · rw [Int.tmod_neg]
    rcases Int.le_total 0 (sg x) with c | c
    · rw [Int.tmod_eq_emod_of_nonneg c, Int.emod_eq_of_lt c hb.2]
    · have : (sg x).tmod 2147483648 = -((-sg x) % 2147483648) := by
        rw [← Int.tmod_eq_emod_of_nonneg (by omega), Int.neg_tmod, Int.neg_neg]
      rw [this, Int.emod_eq_of_lt (by omega) (by omega), Int.neg_neg]
theorem neg_mod (n : Int) : -n % 4294967296 = -(n % 4294967296) % 4294967296 := by omega
theorem sg_least : sg 2147483648 = -2147483648 := by decide
theorem signs42 (x y : Int) (h0 : 0 ≤ x) (h1 : x ≤ 4294967295) (h : x ≠ 2147483648) (g0 : 1 ≤ y) (g1 : y ≤ 4294967295) : dv 42 (-x % 4294967296) (-y % 4294967296) = dv 42 x y := by
  rw [dv42 _ _ (by omega), dv42 _ _ g0, sg_turn h0 h1 h]
  by_cases hy : y = 2147483648
  · subst hy
    have t := turn_least h0 h1 h
    rw [least_turn, sg_least, Int.neg_tdiv, t.1]; rfl
  · rw [sg_turn (by omega) g1 hy, Int.neg_tdiv, Int.tdiv_neg, Int.neg_neg]
theorem signs44 (x y : Int) (h0 : 0 ≤ x) (h1 : x ≤ 4294967295) (h : x ≠ 2147483648) (g0 : 1 ≤ y) (g1 : y ≤ 4294967295) : dv 44 (-x % 4294967296) (-y % 4294967296) = -(dv 44 x y) % 4294967296 := by
  rw [dv44 _ _ (by omega), dv44 _ _ g0, sg_turn h0 h1 h]
  by_cases hy : y = 2147483648
  · subst hy
    rw [least_turn, Int.neg_tmod, neg_mod]
  · rw [sg_turn (by omega) g1 hy, Int.neg_tmod, Int.tmod_neg, neg_mod]
theorem signs44' (x y : Int) (g0 : 1 ≤ y) (g1 : y ≤ 4294967295) : dv 44 x (-y % 4294967296) = dv 44 x y := by
  by_cases hy : y = 2147483648
  · subst hy; rw [least_turn]
  · rw [dv44 _ _ (by omega), dv44 _ _ g0, sg_turn (by omega) g1 hy, Int.tmod_neg]
theorem sign_fin (t a : Int) (t0 : 0 ≤ t) (t1 : t ≤ 4294967295) (h0 : 0 ≤ a) (h1 : a ≤ 4294967295) (h : t = 0 ∨ a < 2147483648 ∧ t < 2147483648 ∨ 2147483648 ≤ a ∧ 2147483648 ≤ t) :
    (t == 0 || decide (wrap32 t < 0) == decide (wrap32 a < 0)) = true := by
  rcases h with h | ⟨h, k⟩ | ⟨h, k⟩
  · subst h; rfl
  · have a1 := wrap32_pos h h0
    have a2 := wrap32_pos k t0
    rw [decide_eq_false (by omega), decide_eq_false (by omega)]; simp
  · have a1 := wrap32_neg h h1
    have a2 := wrap32_neg k t1
    rw [decide_eq_true a1, decide_eq_true a2]; simp
/-- the highest bit -/
theorem bits_top {x : Int} (h0 : 1 ≤ x) (h1 : x ≤ 4294967295) : x / 2 ^ (bl x).toNat = 0 ∧ x / 2 ^ ((bl x).toNat - 1) = 1 ∧ (x < 2147483648 → bl (2 * x) = bl x + 1) := by
  have b := bl_pos h0 h1
  obtain ⟨n, hn⟩ := Int.eq_ofNat_of_zero_le (show 0 ≤ bl x - 1 by omega)
  have p := bl_pow n x h0 h1 (by omega)
  have e1 : (bl x).toNat = n + 1 := by omega
  have e2 : (bl x).toNat - 1 = n := by omega
  have hp : (0 : Int) < 2 ^ n := Int.pow_pos (by decide)
  refine ⟨?_, ?_, fun h => ?_⟩
  · rw [e1, Int.pow_succ]; exact Int.ediv_eq_zero_of_lt (by omega) (by omega)
  · rw [e2]
    have a : 1 ≤ x / 2 ^ n := by rw [Int.le_ediv_iff_mul_le hp]; omega
    have c : x / 2 ^ n < 2 := by rw [Int.ediv_lt_iff_lt_mul hp]; omega
    omega
  · rw [bl_half (x := 2 * x) (by omega) (by omega), show 2 * x / 2 = x by omega]; omega
theorem and16 (a : Int) (h0 : 0 ≤ a) (h1 : a ≤ 4294967295) : 0 ≤ bits .and .u32 a 65535 ∧ bits .and .u32 a 65535 ≤ 65535 := by
  rw [u32_and a 65535 h0 (by omega) (by omega) (by omega)]
  have : a.toNat &&& (65535 : Int).toNat ≤ (65535 : Int).toNat := Nat.and_le_right
  omega
theorem small_sum (q b r : Int) (q0 : 0 ≤ q) (q1 : q ≤ 65535) (b0 : 1 ≤ b) (b1 : b ≤ 65535) (_r0 : 0 ≤ r) : 0 ≤ q * b ∧ q * b + r % b ≤ 4294967295 ∧ 0 ≤ r % b ∧ r % b < b ∧ dv 43 (q * b + r % b) b = q ∧ dv 45 (q * b + r % b) b = r % b ∧ dv 43 (r % b) b = 0 := by
  have h1 : 0 ≤ r % b := Int.emod_nonneg _ (by omega)
  have h2 : r % b < b := Int.emod_lt_of_pos _ (by omega)
  have h3 : 0 ≤ q * b := Int.mul_nonneg q0 (by omega)
  have h4 : q * b ≤ 65535 * 65535 := Int.mul_le_mul q1 b1 (by omega) (by omega)
  refine ⟨h3, by omega, h1, h2, ?_, ?_, ?_⟩
  · rw [dv43 _ _ b0, Int.add_comm, Int.add_mul_ediv_right _ _ (by omega), Int.ediv_eq_zero_of_lt h1 h2]; omega
  · rw [dv45 _ _ b0, Int.add_comm, Int.add_mul_emod_self_right, Int.emod_eq_of_lt h1 h2]
  · rw [dv43 _ _ b0, Int.ediv_eq_zero_of_lt h1 h2]
end Go.Proofs.Ytajedochalaadaa
