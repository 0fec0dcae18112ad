/- The plain arithmetic of a word's bits, with no program in sight. No conditions. -/
import Derived.Test.YtdenefeckdlmdaaPlain2
namespace Go.Proofs.Ytdenefeckdlmdaa
open Go.RowKit

/-- a bit of a word -/
def bt (x i : Int) : Int := x / 2 ^ i.toNat % 2
/-- the lowest bits of a word, as cells -/
def Lb (X : Int) (k : Nat) : List Value := (List.range k).map fun i : Nat => Value.int .u32 (bt X i)
theorem bt_01 (x i : Int) : bt x i = 0 ∨ bt x i = 1 := by unfold bt; omega
theorem bt_bd (x i : Int) : 0 ≤ bt x i ∧ bt x i ≤ 1 := by unfold bt; omega
theorem Lb_len (X : Int) (k : Nat) : (Lb X k).length = k := by simp [Lb]
theorem Lb_zero (X : Int) : Lb X 0 = [] := rfl
theorem Lb_succ (X : Int) (k : Nat) : Lb X (k + 1) = Lb X k ++ [.int .u32 (bt X k)] := by simp [Lb, List.range_succ]
theorem Lb_get (X : Int) (k j : Nat) (h : j < k) : (Lb X k)[j]? = some (.int .u32 (bt X j)) := by simp [Lb, h]
/-- one step up from bit k -/
theorem bt_step (X : Int) (k : Nat) : 2 * (X / 2 ^ (k + 1)) + bt X k = X / 2 ^ k := by
  unfold bt
  rw [Int.toNat_natCast, Int.pow_succ, ← Int.ediv_ediv_of_nonneg (Int.le_of_lt (pow_pos _))]; omega
theorem bt_nat (X k : Nat) : bt X k = if X.testBit k then 1 else 0 := by
  unfold bt
  rw [Int.toNat_natCast]
  have e : (X : Int) / 2 ^ k % 2 = ((X / 2 ^ k % 2 : Nat) : Int) := by simp
  rw [e, Nat.testBit_eq_decide_div_mod_eq]
  have : X / 2 ^ k % 2 < 2 := Nat.mod_lt _ (by decide)
  by_cases h : X / 2 ^ k % 2 = 1
  · rw [h]; simp
  · have : X / 2 ^ k % 2 = 0 := by omega
    rw [this]; simp
theorem bt_cast {x : Int} (h0 : 0 ≤ x) (k : Nat) : bt x k = if x.toNat.testBit k then 1 else 0 := by
  rw [← bt_nat, Int.toNat_of_nonneg h0]
theorem bt_and (x y : Int) (h0 : 0 ≤ x) (h1 : x ≤ 4294967295) (g0 : 0 ≤ y) (g1 : y ≤ 4294967295) (k : Nat) : bt (bits .and .u32 x y) k = if bt x k = 1 ∧ bt y k = 1 then 1 else 0 := by
  rw [u32_and x y h0 (by omega) g0 (by omega), bt_nat, bt_cast h0, bt_cast g0, Nat.testBit_and]
  cases x.toNat.testBit k <;> cases y.toNat.testBit k <;> simp
theorem bt_or (x y : Int) (h0 : 0 ≤ x) (h1 : x ≤ 4294967295) (g0 : 0 ≤ y) (g1 : y ≤ 4294967295) (k : Nat) : bt (bits .or .u32 x y) k = if bt x k = 1 ∨ bt y k = 1 then 1 else 0 := by
  rw [u32_or x y h0 (by omega) g0 (by omega), bt_nat, bt_cast h0, bt_cast g0, Nat.testBit_or]
  cases x.toNat.testBit k <;> cases y.toNat.testBit k <;> simp
theorem bt_xor (x y : Int) (h0 : 0 ≤ x) (h1 : x ≤ 4294967295) (g0 : 0 ≤ y) (g1 : y ≤ 4294967295) (k : Nat) : bt (bits .xor .u32 x y) k = if bt x k = bt y k then 0 else 1 := by
  rw [u32_xor x y h0 (by omega) g0 (by omega), bt_nat, bt_cast h0, bt_cast g0, Nat.testBit_xor]
  cases x.toNat.testBit k <;> cases y.toNat.testBit k <;> simp
/-- what is shifted up -/
theorem bt_shl (x : Int) (s k : Nat) (h0 : 0 ≤ x) (hk : k < 32) : bt (x * 2 ^ s % 4294967296) k = if k < s then 0 else bt x (k - s : Nat) := by
  obtain ⟨X, rfl⟩ := Int.eq_ofNat_of_zero_le h0
  have e : (X : Int) * 2 ^ s % 4294967296 = ((X * 2 ^ s % 2 ^ 32 : Nat) : Int) := by simp
  rw [e, bt_nat, bt_nat, Nat.testBit_mod_two_pow, Nat.mul_comm, Nat.testBit_two_pow_mul]
  by_cases c : k < s
  · rw [if_pos c]; simp; omega
  · rw [if_neg c]
    simp only [hk, decide_true, Bool.true_and, show s ≤ k by omega]
/-- what is shifted down -/
theorem bt_shr (x : Int) (s k : Nat) (h0 : 0 ≤ x) (h1 : x ≤ 4294967295) : bt (x / 2 ^ s) k = if 31 < k + s then 0 else bt x (k + s : Nat) := by
  obtain ⟨X, rfl⟩ := Int.eq_ofNat_of_zero_le h0
  have e : (X : Int) / 2 ^ s = ((X / 2 ^ s : Nat) : Int) := by simp
  rw [e, bt_nat, bt_nat, Nat.testBit_div_two_pow]
  by_cases c : 31 < k + s
  · rw [if_pos c, Nat.testBit_lt_two_pow (i := k + s) (by
      have := Nat.pow_le_pow_right (n := 2) (by decide) (show 32 ≤ k + s by omega)
      have : X < 2 ^ 32 := by omega
      omega)]
    simp
  · rw [if_neg c]
theorem bt_hi (x : Int) (h0 : 0 ≤ x) (h1 : x ≤ 4294967295) : bt x 31 = if x < 2147483648 then 0 else 1 := by
  unfold bt
  have : (2 : Int) ^ (31 : Int).toNat = 2147483648 := by decide
  rw [this]; split <;> omega
/-- what is shifted down as a signed number -/
theorem bt_sra (x : Int) (s k : Nat) (h0 : 0 ≤ x) (h1 : x ≤ 4294967295) (_hs : s ≤ 31) (hk : k < 32) : bt (wrap32 x / 2 ^ s % 4294967296) k = if 31 < k + s then bt x 31 else bt x (k + s : Nat) := by
  have e : ∀ n : Int, bt (n % 4294967296) k = bt n k := by
    intro n
    unfold bt
    rw [Int.toNat_natCast]
    have p := pow_pos k
    have hm : (4294967296 : Int) = 2 ^ k * (2 * 2 ^ (31 - k)) := by
      rw [show (2 : Int) * 2 ^ (31 - k) = 2 ^ (32 - k) by rw [show 32 - k = (31 - k) + 1 by omega, Int.pow_succ]; omega, ← Int.pow_add, show k + (32 - k) = 32 by omega]; decide
    have hd : n % 4294967296 = n - 2 ^ k * (2 * 2 ^ (31 - k)) * (n / 4294967296) := by rw [← hm, Int.emod_def]
    rw [hd, show n - 2 ^ k * (2 * 2 ^ (31 - k)) * (n / 4294967296) = n + 2 ^ k * (-(2 * (2 ^ (31 - k) * (n / 4294967296)))) by grind, Int.add_mul_ediv_left _ _ (by omega)]
    omega
  have e2 : ∀ n : Int, bt (n / 2 ^ s) k = bt n (k + s : Nat) := by
    intro n
    unfold bt
    rw [Int.toNat_natCast, Int.toNat_natCast, Int.ediv_ediv_of_nonneg (Int.le_of_lt (pow_pos _)), ← Int.pow_add, Nat.add_comm s k]
  rw [e, e2]
  have hw := wrap32_is x h0 h1
  by_cases c : 31 < k + s
  · rw [if_pos c, bt_hi x h0 h1]
    have hp : (2 : Int) ^ 32 ≤ 2 ^ (k + s) := by
      have := Nat.pow_le_pow_right (n := 2) (by decide) (show 32 ≤ k + s by omega)
      exact_mod_cast this
    have h3 : (2 : Int) ^ 32 = 4294967296 := by decide
    unfold bt
    rw [Int.toNat_natCast]
    rcases Int.lt_or_le x 2147483648 with d | d
    · rw [hw, if_pos d, if_pos d, Int.ediv_eq_zero_of_lt h0 (by omega)]; rfl
    · rw [hw, if_neg (by omega), if_neg (by omega)]
      have : (x - 4294967296) / 2 ^ (k + s) = -1 := by
        have p := pow_pos (k + s)
        have a : (-1) ≤ (x - 4294967296) / 2 ^ (k + s) := by rw [Int.le_ediv_iff_mul_le p]; omega
        have b : (x - 4294967296) / 2 ^ (k + s) < 0 := Int.ediv_neg_of_neg_of_pos (by omega) p
        omega
      rw [this]; rfl
  · rw [if_neg c]
    rcases Int.lt_or_le x 2147483648 with d | d
    · rw [hw, if_pos d]
    · rw [hw, if_neg (by omega)]
      have ee : x - 4294967296 = x + 2 ^ (k + s) * (-(2 * 2 ^ (31 - (k + s)))) := by
        have : (4294967296 : Int) = 2 ^ (k + s) * (2 * 2 ^ (31 - (k + s))) := by
          rw [show (2 : Int) * 2 ^ (31 - (k + s)) = 2 ^ (32 - (k + s)) by rw [show 32 - (k + s) = (31 - (k + s)) + 1 by omega, Int.pow_succ]; omega, ← Int.pow_add, show k + s + (32 - (k + s)) = 32 by omega]; decide
        grind
      unfold bt
      rw [Int.toNat_natCast, ee, Int.add_mul_ediv_left _ _ (by have := pow_pos (k + s); omega)]; omega
end Go.Proofs.Ytdenefeckdlmdaa
